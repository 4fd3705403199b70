/-
  NARROWER THAN 'FOR EVERY INPUT', by the rows' own cells (each row's printed sentence says how): VaultGrows: loops, laid · VaultTells: loops, laid · VaultOnce: loops, laid · CryptoAgain: loops, laid · CryptoNothing: loops, laid · CryptoSeals: loops, laid · CryptoPowers: loops, laid · VaultBytes: laid · VaultMentions: laid.
  DERIVED. THE GIVEN ROWS OF THIS SEAT. 9 by the template 'for every input the law returns true; each argument reads behind the call as it read before'; 0 by the template 'total and deterministic' (their statements: YtnjomdjkbbhdoaaDoorTotals.lean).
  GIVEN WITH THE SEED: the statements are not yours to turn. If you find one false, say at which input.
  Laid BY PROGRAM, IN A SANDBOX (cutbox-rows.mjs): the forced cells as the released guide's own fill.sh prints them over the translation d7a89b60aed54a50… (all of the seat's roots in one cut). By AI agents, Wed Nov 11 2026. No macro, syntax, notation, axiom, sorry.
-/
import Derived.Test.YtnjomdjkbbhdoaaDoorChecked
import GoSem.Claim
import GoSem.ClaimJoined
import GoSem.ClaimMapViews
import Derived.JoinedTies
import Derived.KernelRfl
namespace Go.Proofs.YtnjomdjkbbhdoaaDoor
/- THE CELL 'sum', in the pinned program and in every row, IS THE sha256 OF THE DUMP (.gsa) THAT YtnjomdjkbbhdoaaDoorProg.lean LOADS. Nothing in Lean hashes anything: it is a label: what it is worth is what the hold of that sum in a sandbox is worth. -/
noncomputable def Tryd.pinned : Pinned := { name := "ytnjomdjkbbhdoaadoor", sum := "d7a89b60aed54a5013a894cc5f46c6aaf55f32f180055a723aac388e2d9dbccb", checked := Tryd.checked }
namespace Rows
def none {H : Type} : Left H := { results := [], args := [] }

/- WHAT THE LISTED PACKAGE-LEVEL VARIABLES READ AS WHEN THE CALL BEGINS. Each datum BY PROGRAM (the guide's laid-datum.mjs) off the statement by which the dump's own 'gosem.cut.vars' lays the variable. In a bare row this is a premise. The card (YtnjomdjkbbhdoaaDoorCards.lean) ties it to the program's text. -/
def laid_math_bits_deBruijn32tab {H : Type} : DataW H := .agg [.lit (.int .u8 0), .lit (.int .u8 1), .lit (.int .u8 28), .lit (.int .u8 2), .lit (.int .u8 29), .lit (.int .u8 14), .lit (.int .u8 24), .lit (.int .u8 3), .lit (.int .u8 30), .lit (.int .u8 22), .lit (.int .u8 20), .lit (.int .u8 15), .lit (.int .u8 25), .lit (.int .u8 17), .lit (.int .u8 4), .lit (.int .u8 8), .lit (.int .u8 31), .lit (.int .u8 27), .lit (.int .u8 13), .lit (.int .u8 23), .lit (.int .u8 21), .lit (.int .u8 19), .lit (.int .u8 16), .lit (.int .u8 7), .lit (.int .u8 26), .lit (.int .u8 12), .lit (.int .u8 18), .lit (.int .u8 6), .lit (.int .u8 11), .lit (.int .u8 5), .lit (.int .u8 10), .lit (.int .u8 9)]
def laid_math_bits_deBruijn64tab {H : Type} : DataW H := .agg [.lit (.int .u8 0), .lit (.int .u8 1), .lit (.int .u8 56), .lit (.int .u8 2), .lit (.int .u8 57), .lit (.int .u8 49), .lit (.int .u8 28), .lit (.int .u8 3), .lit (.int .u8 61), .lit (.int .u8 58), .lit (.int .u8 42), .lit (.int .u8 50), .lit (.int .u8 38), .lit (.int .u8 29), .lit (.int .u8 17), .lit (.int .u8 4), .lit (.int .u8 62), .lit (.int .u8 47), .lit (.int .u8 59), .lit (.int .u8 36), .lit (.int .u8 45), .lit (.int .u8 43), .lit (.int .u8 51), .lit (.int .u8 22), .lit (.int .u8 53), .lit (.int .u8 39), .lit (.int .u8 33), .lit (.int .u8 30), .lit (.int .u8 24), .lit (.int .u8 18), .lit (.int .u8 12), .lit (.int .u8 5), .lit (.int .u8 63), .lit (.int .u8 55), .lit (.int .u8 48), .lit (.int .u8 27), .lit (.int .u8 60), .lit (.int .u8 41), .lit (.int .u8 37), .lit (.int .u8 16), .lit (.int .u8 46), .lit (.int .u8 35), .lit (.int .u8 44), .lit (.int .u8 21), .lit (.int .u8 52), .lit (.int .u8 32), .lit (.int .u8 23), .lit (.int .u8 11), .lit (.int .u8 54), .lit (.int .u8 26), .lit (.int .u8 40), .lit (.int .u8 15), .lit (.int .u8 34), .lit (.int .u8 20), .lit (.int .u8 31), .lit (.int .u8 10), .lit (.int .u8 25), .lit (.int .u8 14), .lit (.int .u8 19), .lit (.int .u8 9), .lit (.int .u8 13), .lit (.int .u8 8), .lit (.int .u8 7), .lit (.int .u8 6)]
def laid_internal_strconv_uint64pow10 {H : Type} : DataW H := .agg [.lit (.int .u64 1), .lit (.int .u64 10), .lit (.int .u64 100), .lit (.int .u64 1000), .lit (.int .u64 10000), .lit (.int .u64 100000), .lit (.int .u64 1000000), .lit (.int .u64 10000000), .lit (.int .u64 100000000), .lit (.int .u64 1000000000), .lit (.int .u64 10000000000), .lit (.int .u64 100000000000), .lit (.int .u64 1000000000000), .lit (.int .u64 10000000000000), .lit (.int .u64 100000000000000), .lit (.int .u64 1000000000000000), .lit (.int .u64 10000000000000000), .lit (.int .u64 100000000000000000), .lit (.int .u64 1000000000000000000), .lit (.int .u64 10000000000000000000)]

/-- 'warderlaw06.VaultGrows': WHATEVER THE INPUT: true; the input reads as it did. -/
def vaultGrowsSpec : ChangeSpec := { name := "vaultGrows", fn := fun _ => fun
  | [d] => { results := [.lit (.bool true)], args := [d] }
  | _ => none }
def vaultGrowsRow : OpenClaim := { program := "ytnjomdjkbbhdoaadoor", sum := "d7a89b60aed54a5013a894cc5f46c6aaf55f32f180055a723aac388e2d9dbccb", func := "warder/warderlaw06.VaultGrows", spec := "vaultGrows", inPlace := ["internal/bytealg.Compare", "internal/abi.NoEscape"], unfollowed := true, recurses := true, named := ["internal/strconv.uint64pow10", "math/bits.deBruijn32tab", "math/bits.deBruijn64tab"], loops := true, apart := false, laid := [("math/bits.deBruijn32tab", laid_math_bits_deBruijn32tab), ("math/bits.deBruijn64tab", laid_math_bits_deBruijn64tab), ("internal/strconv.uint64pow10", laid_internal_strconv_uint64pow10)] }
def VaultGrowsSaid : Prop := vaultGrowsRow.holds Tryd.pinned (OpenSpec.ofChange vaultGrowsSpec)

/-- ITS FALSE NEIGHBOUR: 'it returns false'. Refute it at one input. -/
def vaultGrowsWrong : ChangeSpec := { name := "vaultGrows", fn := fun _ => fun
  | [d] => { results := [.lit (.bool false)], args := [d] }
  | _ => none }
def VaultGrowsWrongFalsely : Prop := vaultGrowsRow.holds Tryd.pinned (OpenSpec.ofChange vaultGrowsWrong)

/-- 'warderlaw06.VaultTells': WHATEVER THE INPUT: true; the input reads as it did. -/
def vaultTellsSpec : ChangeSpec := { name := "vaultTells", fn := fun _ => fun
  | [d1, d2, d3] => { results := [.lit (.bool true)], args := [d1, d2, d3] }
  | _ => none }
def vaultTellsRow : OpenClaim := { program := "ytnjomdjkbbhdoaadoor", sum := "d7a89b60aed54a5013a894cc5f46c6aaf55f32f180055a723aac388e2d9dbccb", func := "warder/warderlaw06.VaultTells", spec := "vaultTells", inPlace := ["internal/bytealg.Compare", "internal/abi.NoEscape"], unfollowed := true, recurses := true, named := ["internal/strconv.uint64pow10", "math/bits.deBruijn32tab", "math/bits.deBruijn64tab"], loops := true, apart := false, laid := [("math/bits.deBruijn32tab", laid_math_bits_deBruijn32tab), ("math/bits.deBruijn64tab", laid_math_bits_deBruijn64tab), ("internal/strconv.uint64pow10", laid_internal_strconv_uint64pow10)] }
def VaultTellsSaid : Prop := vaultTellsRow.holds Tryd.pinned (OpenSpec.ofChange vaultTellsSpec)

/-- ITS FALSE NEIGHBOUR: 'it returns false'. Refute it at one input. -/
def vaultTellsWrong : ChangeSpec := { name := "vaultTells", fn := fun _ => fun
  | [d1, d2, d3] => { results := [.lit (.bool false)], args := [d1, d2, d3] }
  | _ => none }
def VaultTellsWrongFalsely : Prop := vaultTellsRow.holds Tryd.pinned (OpenSpec.ofChange vaultTellsWrong)

/-- 'warderlaw06.VaultOnce': WHATEVER THE INPUT: true; the input reads as it did. -/
def vaultOnceSpec : ChangeSpec := { name := "vaultOnce", fn := fun _ => fun
  | [d] => { results := [.lit (.bool true)], args := [d] }
  | _ => none }
def vaultOnceRow : OpenClaim := { program := "ytnjomdjkbbhdoaadoor", sum := "d7a89b60aed54a5013a894cc5f46c6aaf55f32f180055a723aac388e2d9dbccb", func := "warder/warderlaw06.VaultOnce", spec := "vaultOnce", inPlace := ["internal/bytealg.Compare", "internal/abi.NoEscape"], unfollowed := true, recurses := true, named := ["internal/strconv.uint64pow10", "math/bits.deBruijn32tab", "math/bits.deBruijn64tab"], loops := true, apart := false, laid := [("math/bits.deBruijn32tab", laid_math_bits_deBruijn32tab), ("math/bits.deBruijn64tab", laid_math_bits_deBruijn64tab), ("internal/strconv.uint64pow10", laid_internal_strconv_uint64pow10)] }
def VaultOnceSaid : Prop := vaultOnceRow.holds Tryd.pinned (OpenSpec.ofChange vaultOnceSpec)

/-- ITS FALSE NEIGHBOUR: 'it returns false'. Refute it at one input. -/
def vaultOnceWrong : ChangeSpec := { name := "vaultOnce", fn := fun _ => fun
  | [d] => { results := [.lit (.bool false)], args := [d] }
  | _ => none }
def VaultOnceWrongFalsely : Prop := vaultOnceRow.holds Tryd.pinned (OpenSpec.ofChange vaultOnceWrong)

/-- 'warderlaw07.CryptoAgain': WHATEVER THE INPUT: true; the input reads as it did. -/
def cryptoAgainSpec : ChangeSpec := { name := "cryptoAgain", fn := fun _ => fun
  | [d1, d2, d3] => { results := [.lit (.bool true)], args := [d1, d2, d3] }
  | _ => none }
def cryptoAgainRow : OpenClaim := { program := "ytnjomdjkbbhdoaadoor", sum := "d7a89b60aed54a5013a894cc5f46c6aaf55f32f180055a723aac388e2d9dbccb", func := "warder/warderlaw07.CryptoAgain", spec := "cryptoAgain", inPlace := ["internal/bytealg.Compare", "internal/abi.NoEscape"], unfollowed := true, recurses := true, named := ["internal/strconv.uint64pow10", "math/bits.deBruijn32tab", "math/bits.deBruijn64tab"], loops := true, apart := false, laid := [("math/bits.deBruijn32tab", laid_math_bits_deBruijn32tab), ("math/bits.deBruijn64tab", laid_math_bits_deBruijn64tab), ("internal/strconv.uint64pow10", laid_internal_strconv_uint64pow10)] }
def CryptoAgainSaid : Prop := cryptoAgainRow.holds Tryd.pinned (OpenSpec.ofChange cryptoAgainSpec)

/-- ITS FALSE NEIGHBOUR: 'it returns false'. Refute it at one input. -/
def cryptoAgainWrong : ChangeSpec := { name := "cryptoAgain", fn := fun _ => fun
  | [d1, d2, d3] => { results := [.lit (.bool false)], args := [d1, d2, d3] }
  | _ => none }
def CryptoAgainWrongFalsely : Prop := cryptoAgainRow.holds Tryd.pinned (OpenSpec.ofChange cryptoAgainWrong)

/-- 'warderlaw07.CryptoNothing': WHATEVER THE INPUT: true; the input reads as it did. -/
def cryptoNothingSpec : ChangeSpec := { name := "cryptoNothing", fn := fun _ => fun
  | [d1, d2, d3, d4] => { results := [.lit (.bool true)], args := [d1, d2, d3, d4] }
  | _ => none }
def cryptoNothingRow : OpenClaim := { program := "ytnjomdjkbbhdoaadoor", sum := "d7a89b60aed54a5013a894cc5f46c6aaf55f32f180055a723aac388e2d9dbccb", func := "warder/warderlaw07.CryptoNothing", spec := "cryptoNothing", inPlace := ["internal/bytealg.Compare", "internal/abi.NoEscape"], unfollowed := true, recurses := true, named := ["internal/strconv.uint64pow10", "math/bits.deBruijn32tab", "math/bits.deBruijn64tab"], loops := true, apart := false, laid := [("math/bits.deBruijn32tab", laid_math_bits_deBruijn32tab), ("math/bits.deBruijn64tab", laid_math_bits_deBruijn64tab), ("internal/strconv.uint64pow10", laid_internal_strconv_uint64pow10)] }
def CryptoNothingSaid : Prop := cryptoNothingRow.holds Tryd.pinned (OpenSpec.ofChange cryptoNothingSpec)

/-- ITS FALSE NEIGHBOUR: 'it returns false'. Refute it at one input. -/
def cryptoNothingWrong : ChangeSpec := { name := "cryptoNothing", fn := fun _ => fun
  | [d1, d2, d3, d4] => { results := [.lit (.bool false)], args := [d1, d2, d3, d4] }
  | _ => none }
def CryptoNothingWrongFalsely : Prop := cryptoNothingRow.holds Tryd.pinned (OpenSpec.ofChange cryptoNothingWrong)

/-- 'warderlaw07.CryptoSeals': WHATEVER THE INPUT: true; the input reads as it did. -/
def cryptoSealsSpec : ChangeSpec := { name := "cryptoSeals", fn := fun _ => fun
  | [d1, d2, d3, d4, d5] => { results := [.lit (.bool true)], args := [d1, d2, d3, d4, d5] }
  | _ => none }
def cryptoSealsRow : OpenClaim := { program := "ytnjomdjkbbhdoaadoor", sum := "d7a89b60aed54a5013a894cc5f46c6aaf55f32f180055a723aac388e2d9dbccb", func := "warder/warderlaw07.CryptoSeals", spec := "cryptoSeals", inPlace := ["internal/bytealg.Compare", "internal/abi.NoEscape"], unfollowed := true, recurses := true, named := ["internal/strconv.uint64pow10", "math/bits.deBruijn32tab", "math/bits.deBruijn64tab"], loops := true, apart := false, laid := [("math/bits.deBruijn32tab", laid_math_bits_deBruijn32tab), ("math/bits.deBruijn64tab", laid_math_bits_deBruijn64tab), ("internal/strconv.uint64pow10", laid_internal_strconv_uint64pow10)] }
def CryptoSealsSaid : Prop := cryptoSealsRow.holds Tryd.pinned (OpenSpec.ofChange cryptoSealsSpec)

/-- ITS FALSE NEIGHBOUR: 'it returns false'. Refute it at one input. -/
def cryptoSealsWrong : ChangeSpec := { name := "cryptoSeals", fn := fun _ => fun
  | [d1, d2, d3, d4, d5] => { results := [.lit (.bool false)], args := [d1, d2, d3, d4, d5] }
  | _ => none }
def CryptoSealsWrongFalsely : Prop := cryptoSealsRow.holds Tryd.pinned (OpenSpec.ofChange cryptoSealsWrong)

/-- 'warderlaw07.CryptoPowers': WHATEVER THE INPUT: true; the input reads as it did. -/
def cryptoPowersSpec : ChangeSpec := { name := "cryptoPowers", fn := fun _ => fun
  | [d1, d2, d3, d4, d5] => { results := [.lit (.bool true)], args := [d1, d2, d3, d4, d5] }
  | _ => none }
def cryptoPowersRow : OpenClaim := { program := "ytnjomdjkbbhdoaadoor", sum := "d7a89b60aed54a5013a894cc5f46c6aaf55f32f180055a723aac388e2d9dbccb", func := "warder/warderlaw07.CryptoPowers", spec := "cryptoPowers", inPlace := ["internal/bytealg.Compare", "internal/abi.NoEscape"], unfollowed := true, recurses := true, named := ["internal/strconv.uint64pow10", "math/bits.deBruijn32tab", "math/bits.deBruijn64tab"], loops := true, apart := false, laid := [("math/bits.deBruijn32tab", laid_math_bits_deBruijn32tab), ("math/bits.deBruijn64tab", laid_math_bits_deBruijn64tab), ("internal/strconv.uint64pow10", laid_internal_strconv_uint64pow10)] }
def CryptoPowersSaid : Prop := cryptoPowersRow.holds Tryd.pinned (OpenSpec.ofChange cryptoPowersSpec)

/-- ITS FALSE NEIGHBOUR: 'it returns false'. Refute it at one input. -/
def cryptoPowersWrong : ChangeSpec := { name := "cryptoPowers", fn := fun _ => fun
  | [d1, d2, d3, d4, d5] => { results := [.lit (.bool false)], args := [d1, d2, d3, d4, d5] }
  | _ => none }
def CryptoPowersWrongFalsely : Prop := cryptoPowersRow.holds Tryd.pinned (OpenSpec.ofChange cryptoPowersWrong)

/-- 'warderlaw06.VaultBytes': WHATEVER THE INPUT: true; the input reads as it did. -/
def vaultBytesSpec : ChangeSpec := { name := "vaultBytes", fn := fun _ => fun
  | [d1, d2, d3] => { results := [.lit (.bool true)], args := [d1, d2, d3] }
  | _ => none }
def vaultBytesRow : OpenClaim := { program := "ytnjomdjkbbhdoaadoor", sum := "d7a89b60aed54a5013a894cc5f46c6aaf55f32f180055a723aac388e2d9dbccb", func := "warder/warderlaw06.VaultBytes", spec := "vaultBytes", inPlace := ["internal/bytealg.Compare", "internal/abi.NoEscape"], unfollowed := true, recurses := true, named := ["internal/strconv.uint64pow10", "math/bits.deBruijn32tab", "math/bits.deBruijn64tab"], apart := false, laid := [("math/bits.deBruijn32tab", laid_math_bits_deBruijn32tab), ("math/bits.deBruijn64tab", laid_math_bits_deBruijn64tab), ("internal/strconv.uint64pow10", laid_internal_strconv_uint64pow10)] }
def VaultBytesSaid : Prop := vaultBytesRow.holds Tryd.pinned (OpenSpec.ofChange vaultBytesSpec)

/-- ITS FALSE NEIGHBOUR: 'it returns false'. Refute it at one input. -/
def vaultBytesWrong : ChangeSpec := { name := "vaultBytes", fn := fun _ => fun
  | [d1, d2, d3] => { results := [.lit (.bool false)], args := [d1, d2, d3] }
  | _ => none }
def VaultBytesWrongFalsely : Prop := vaultBytesRow.holds Tryd.pinned (OpenSpec.ofChange vaultBytesWrong)

/-- 'warderlaw06.VaultMentions': WHATEVER THE INPUT: true; the input reads as it did. -/
def vaultMentionsSpec : ChangeSpec := { name := "vaultMentions", fn := fun _ => fun
  | [d1, d2, d3, d4] => { results := [.lit (.bool true)], args := [d1, d2, d3, d4] }
  | _ => none }
def vaultMentionsRow : OpenClaim := { program := "ytnjomdjkbbhdoaadoor", sum := "d7a89b60aed54a5013a894cc5f46c6aaf55f32f180055a723aac388e2d9dbccb", func := "warder/warderlaw06.VaultMentions", spec := "vaultMentions", inPlace := ["internal/bytealg.Compare", "internal/abi.NoEscape"], unfollowed := true, recurses := true, named := ["internal/strconv.uint64pow10", "math/bits.deBruijn32tab", "math/bits.deBruijn64tab"], apart := false, laid := [("math/bits.deBruijn32tab", laid_math_bits_deBruijn32tab), ("math/bits.deBruijn64tab", laid_math_bits_deBruijn64tab), ("internal/strconv.uint64pow10", laid_internal_strconv_uint64pow10)] }
def VaultMentionsSaid : Prop := vaultMentionsRow.holds Tryd.pinned (OpenSpec.ofChange vaultMentionsSpec)

/-- ITS FALSE NEIGHBOUR: 'it returns false'. Refute it at one input. -/
def vaultMentionsWrong : ChangeSpec := { name := "vaultMentions", fn := fun _ => fun
  | [d1, d2, d3, d4] => { results := [.lit (.bool false)], args := [d1, d2, d3, d4] }
  | _ => none }
def VaultMentionsWrongFalsely : Prop := vaultMentionsRow.holds Tryd.pinned (OpenSpec.ofChange vaultMentionsWrong)

/- THE SECOND FORM. 'bulk': how many values and letters a reading holds, each counted each time it is reached (what is shared counts as often as it is met; a slice's spare places count too). A statement '..UptoSaid' is the law's where the arguments, and the package variables that the reading takes, are together of bulk at most 1048576: NARROWER than '..Said'. Prove '..Said' where nothing that the law and all that it calls make is longer than what came in: it says more and counts as full. Else prove '..UptoSaid'. A law counts once. -/
mutual
def uptoBulk {H : Type} : DataW H → Nat
  | .lit (.string bytes) => bytes.length + 1
  | .lit _ => 1
  | .nil => 1
  | .ptr d => uptoBulk d + 1
  | .slice elems spare => uptoBulkAll elems + uptoBulkAll spare + 1
  | .agg parts => uptoBulkAll parts + 1
  | .iface _ d => uptoBulk d + 1
  | .map entries => uptoBulkEntries entries + 1
  | .held _ => 1
def uptoBulkAll {H : Type} : List (DataW H) → Nat
  | [] => 0
  | d :: r => uptoBulk d + uptoBulkAll r
def uptoBulkEntries {H : Type} : List (Lit × DataW H) → Nat
  | [] => 0
  | x :: r => uptoBulkEntry x + uptoBulkEntries r
def uptoBulkEntry {H : Type} : Lit × DataW H → Nat
  | (.string bytes, d) => bytes.length + uptoBulk d + 1
  | (_, d) => uptoBulk d + 1
 end
def uptoSmall : (H : Type) → List (DataW H) → Bool := fun _ ds => decide (uptoBulkAll ds ≤ 1048576)
def OpenSpec.upto (s : _root_.Go.ChangeSpec) : _root_.Go.OpenSpec := { _root_.Go.OpenSpec.ofChange s with cond := some uptoSmall }

/-- 'warderlaw06.VaultGrows', WHERE WHAT IT READS IS OF BULK AT MOST 1048576: true; the input reads as it did. -/
def vaultGrowsUptoRow : OpenClaim := { program := "ytnjomdjkbbhdoaadoor", sum := "d7a89b60aed54a5013a894cc5f46c6aaf55f32f180055a723aac388e2d9dbccb", func := "warder/warderlaw06.VaultGrows", spec := "vaultGrows", inPlace := ["internal/bytealg.Compare", "internal/abi.NoEscape"], unfollowed := true, recurses := true, named := ["internal/strconv.uint64pow10", "math/bits.deBruijn32tab", "math/bits.deBruijn64tab"], loops := true, apart := false, laid := [("math/bits.deBruijn32tab", laid_math_bits_deBruijn32tab), ("math/bits.deBruijn64tab", laid_math_bits_deBruijn64tab), ("internal/strconv.uint64pow10", laid_internal_strconv_uint64pow10)], narrowed := true }
def VaultGrowsUptoSaid : Prop := vaultGrowsUptoRow.holds Tryd.pinned (OpenSpec.upto vaultGrowsSpec)

/-- 'warderlaw06.VaultTells', WHERE WHAT IT READS IS OF BULK AT MOST 1048576: true; the input reads as it did. -/
def vaultTellsUptoRow : OpenClaim := { program := "ytnjomdjkbbhdoaadoor", sum := "d7a89b60aed54a5013a894cc5f46c6aaf55f32f180055a723aac388e2d9dbccb", func := "warder/warderlaw06.VaultTells", spec := "vaultTells", inPlace := ["internal/bytealg.Compare", "internal/abi.NoEscape"], unfollowed := true, recurses := true, named := ["internal/strconv.uint64pow10", "math/bits.deBruijn32tab", "math/bits.deBruijn64tab"], loops := true, apart := false, laid := [("math/bits.deBruijn32tab", laid_math_bits_deBruijn32tab), ("math/bits.deBruijn64tab", laid_math_bits_deBruijn64tab), ("internal/strconv.uint64pow10", laid_internal_strconv_uint64pow10)], narrowed := true }
def VaultTellsUptoSaid : Prop := vaultTellsUptoRow.holds Tryd.pinned (OpenSpec.upto vaultTellsSpec)

/-- 'warderlaw06.VaultOnce', WHERE WHAT IT READS IS OF BULK AT MOST 1048576: true; the input reads as it did. -/
def vaultOnceUptoRow : OpenClaim := { program := "ytnjomdjkbbhdoaadoor", sum := "d7a89b60aed54a5013a894cc5f46c6aaf55f32f180055a723aac388e2d9dbccb", func := "warder/warderlaw06.VaultOnce", spec := "vaultOnce", inPlace := ["internal/bytealg.Compare", "internal/abi.NoEscape"], unfollowed := true, recurses := true, named := ["internal/strconv.uint64pow10", "math/bits.deBruijn32tab", "math/bits.deBruijn64tab"], loops := true, apart := false, laid := [("math/bits.deBruijn32tab", laid_math_bits_deBruijn32tab), ("math/bits.deBruijn64tab", laid_math_bits_deBruijn64tab), ("internal/strconv.uint64pow10", laid_internal_strconv_uint64pow10)], narrowed := true }
def VaultOnceUptoSaid : Prop := vaultOnceUptoRow.holds Tryd.pinned (OpenSpec.upto vaultOnceSpec)

/-- 'warderlaw07.CryptoAgain', WHERE WHAT IT READS IS OF BULK AT MOST 1048576: true; the input reads as it did. -/
def cryptoAgainUptoRow : OpenClaim := { program := "ytnjomdjkbbhdoaadoor", sum := "d7a89b60aed54a5013a894cc5f46c6aaf55f32f180055a723aac388e2d9dbccb", func := "warder/warderlaw07.CryptoAgain", spec := "cryptoAgain", inPlace := ["internal/bytealg.Compare", "internal/abi.NoEscape"], unfollowed := true, recurses := true, named := ["internal/strconv.uint64pow10", "math/bits.deBruijn32tab", "math/bits.deBruijn64tab"], loops := true, apart := false, laid := [("math/bits.deBruijn32tab", laid_math_bits_deBruijn32tab), ("math/bits.deBruijn64tab", laid_math_bits_deBruijn64tab), ("internal/strconv.uint64pow10", laid_internal_strconv_uint64pow10)], narrowed := true }
def CryptoAgainUptoSaid : Prop := cryptoAgainUptoRow.holds Tryd.pinned (OpenSpec.upto cryptoAgainSpec)

/-- 'warderlaw07.CryptoNothing', WHERE WHAT IT READS IS OF BULK AT MOST 1048576: true; the input reads as it did. -/
def cryptoNothingUptoRow : OpenClaim := { program := "ytnjomdjkbbhdoaadoor", sum := "d7a89b60aed54a5013a894cc5f46c6aaf55f32f180055a723aac388e2d9dbccb", func := "warder/warderlaw07.CryptoNothing", spec := "cryptoNothing", inPlace := ["internal/bytealg.Compare", "internal/abi.NoEscape"], unfollowed := true, recurses := true, named := ["internal/strconv.uint64pow10", "math/bits.deBruijn32tab", "math/bits.deBruijn64tab"], loops := true, apart := false, laid := [("math/bits.deBruijn32tab", laid_math_bits_deBruijn32tab), ("math/bits.deBruijn64tab", laid_math_bits_deBruijn64tab), ("internal/strconv.uint64pow10", laid_internal_strconv_uint64pow10)], narrowed := true }
def CryptoNothingUptoSaid : Prop := cryptoNothingUptoRow.holds Tryd.pinned (OpenSpec.upto cryptoNothingSpec)

/-- 'warderlaw07.CryptoSeals', WHERE WHAT IT READS IS OF BULK AT MOST 1048576: true; the input reads as it did. -/
def cryptoSealsUptoRow : OpenClaim := { program := "ytnjomdjkbbhdoaadoor", sum := "d7a89b60aed54a5013a894cc5f46c6aaf55f32f180055a723aac388e2d9dbccb", func := "warder/warderlaw07.CryptoSeals", spec := "cryptoSeals", inPlace := ["internal/bytealg.Compare", "internal/abi.NoEscape"], unfollowed := true, recurses := true, named := ["internal/strconv.uint64pow10", "math/bits.deBruijn32tab", "math/bits.deBruijn64tab"], loops := true, apart := false, laid := [("math/bits.deBruijn32tab", laid_math_bits_deBruijn32tab), ("math/bits.deBruijn64tab", laid_math_bits_deBruijn64tab), ("internal/strconv.uint64pow10", laid_internal_strconv_uint64pow10)], narrowed := true }
def CryptoSealsUptoSaid : Prop := cryptoSealsUptoRow.holds Tryd.pinned (OpenSpec.upto cryptoSealsSpec)

/-- 'warderlaw07.CryptoPowers', WHERE WHAT IT READS IS OF BULK AT MOST 1048576: true; the input reads as it did. -/
def cryptoPowersUptoRow : OpenClaim := { program := "ytnjomdjkbbhdoaadoor", sum := "d7a89b60aed54a5013a894cc5f46c6aaf55f32f180055a723aac388e2d9dbccb", func := "warder/warderlaw07.CryptoPowers", spec := "cryptoPowers", inPlace := ["internal/bytealg.Compare", "internal/abi.NoEscape"], unfollowed := true, recurses := true, named := ["internal/strconv.uint64pow10", "math/bits.deBruijn32tab", "math/bits.deBruijn64tab"], loops := true, apart := false, laid := [("math/bits.deBruijn32tab", laid_math_bits_deBruijn32tab), ("math/bits.deBruijn64tab", laid_math_bits_deBruijn64tab), ("internal/strconv.uint64pow10", laid_internal_strconv_uint64pow10)], narrowed := true }
def CryptoPowersUptoSaid : Prop := cryptoPowersUptoRow.holds Tryd.pinned (OpenSpec.upto cryptoPowersSpec)

/-- 'warderlaw06.VaultBytes', WHERE WHAT IT READS IS OF BULK AT MOST 1048576: true; the input reads as it did. -/
def vaultBytesUptoRow : OpenClaim := { program := "ytnjomdjkbbhdoaadoor", sum := "d7a89b60aed54a5013a894cc5f46c6aaf55f32f180055a723aac388e2d9dbccb", func := "warder/warderlaw06.VaultBytes", spec := "vaultBytes", inPlace := ["internal/bytealg.Compare", "internal/abi.NoEscape"], unfollowed := true, recurses := true, named := ["internal/strconv.uint64pow10", "math/bits.deBruijn32tab", "math/bits.deBruijn64tab"], apart := false, laid := [("math/bits.deBruijn32tab", laid_math_bits_deBruijn32tab), ("math/bits.deBruijn64tab", laid_math_bits_deBruijn64tab), ("internal/strconv.uint64pow10", laid_internal_strconv_uint64pow10)], narrowed := true }
def VaultBytesUptoSaid : Prop := vaultBytesUptoRow.holds Tryd.pinned (OpenSpec.upto vaultBytesSpec)

/-- 'warderlaw06.VaultMentions', WHERE WHAT IT READS IS OF BULK AT MOST 1048576: true; the input reads as it did. -/
def vaultMentionsUptoRow : OpenClaim := { program := "ytnjomdjkbbhdoaadoor", sum := "d7a89b60aed54a5013a894cc5f46c6aaf55f32f180055a723aac388e2d9dbccb", func := "warder/warderlaw06.VaultMentions", spec := "vaultMentions", inPlace := ["internal/bytealg.Compare", "internal/abi.NoEscape"], unfollowed := true, recurses := true, named := ["internal/strconv.uint64pow10", "math/bits.deBruijn32tab", "math/bits.deBruijn64tab"], apart := false, laid := [("math/bits.deBruijn32tab", laid_math_bits_deBruijn32tab), ("math/bits.deBruijn64tab", laid_math_bits_deBruijn64tab), ("internal/strconv.uint64pow10", laid_internal_strconv_uint64pow10)], narrowed := true }
def VaultMentionsUptoSaid : Prop := vaultMentionsUptoRow.holds Tryd.pinned (OpenSpec.upto vaultMentionsSpec)

end Rows
end Go.Proofs.YtnjomdjkbbhdoaaDoor
