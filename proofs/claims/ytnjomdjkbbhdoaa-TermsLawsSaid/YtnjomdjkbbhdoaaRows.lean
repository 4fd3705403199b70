/-
  NARROWER THAN 'FOR EVERY INPUT', by the rows' own cells (each row's printed sentence says how): TermsRight: loops · TermsOrder: loops · TermsNorm: loops · TermsPow: loops · TermsLaws: loops · TermsParts: loops · TermsPowers: loops.
  DERIVED. THE GIVEN ROWS OF THIS SEAT. 7 by the template 'for every input the law returns true; each argument reads behind the call as it read before'; 0 by the template 'total and deterministic' (their statements: YtnjomdjkbbhdoaaTotals.lean).
  GIVEN WITH THE SEED: the statements are not yours to turn. If you find one false, say at which input.
  Laid BY PROGRAM, IN A SANDBOX (cutbox-rows.mjs): the forced cells as the released guide's own fill.sh prints them over the translation 8a38b12e22416f29… (all of the seat's roots in one cut). By AI agents, Wed Nov 11 2026. No macro, syntax, notation, axiom, sorry.
-/
import Derived.Test.YtnjomdjkbbhdoaaChecked
import GoSem.Claim
import GoSem.ClaimJoined
import GoSem.ClaimMapViews
import Derived.JoinedTies
import Derived.KernelRfl
namespace Go.Proofs.Ytnjomdjkbbhdoaa
/- THE CELL 'sum', in the pinned program and in every row, IS THE sha256 OF THE DUMP (.gsa) THAT YtnjomdjkbbhdoaaProg.lean LOADS. Nothing in Lean hashes anything: it is a label: what it is worth is what the hold of that sum in a sandbox is worth. -/
noncomputable def Try.pinned : Pinned := { name := "ytnjomdjkbbhdoaa", sum := "8a38b12e22416f29045a10b5dddf7f1ec5491cbec9fd94526f07cf0bb20b3066", checked := Try.checked }
namespace Rows
def none {H : Type} : Left H := { results := [], args := [] }

/-- 'warderlaw05.TermsRight': WHATEVER THE INPUT: true; the input reads as it did. -/
def termsRightSpec : ChangeSpec := { name := "termsRight", fn := fun _ => fun
  | [d] => { results := [.lit (.bool true)], args := [d] }
  | _ => none }
def termsRightRow : OpenClaim := { program := "ytnjomdjkbbhdoaa", sum := "8a38b12e22416f29045a10b5dddf7f1ec5491cbec9fd94526f07cf0bb20b3066", func := "warder/warderlaw05.TermsRight", spec := "termsRight", inPlace := ["internal/bytealg.Compare"], unfollowed := true, recurses := true, loops := true, apart := false }
def TermsRightSaid : Prop := termsRightRow.holds Try.pinned (OpenSpec.ofChange termsRightSpec)

/-- ITS FALSE NEIGHBOUR: 'it returns false'. Refute it at one input. -/
def termsRightWrong : ChangeSpec := { name := "termsRight", fn := fun _ => fun
  | [d] => { results := [.lit (.bool false)], args := [d] }
  | _ => none }
def TermsRightWrongFalsely : Prop := termsRightRow.holds Try.pinned (OpenSpec.ofChange termsRightWrong)

/-- 'warderlaw05.TermsOrder': WHATEVER THE INPUT: true; the input reads as it did. -/
def termsOrderSpec : ChangeSpec := { name := "termsOrder", fn := fun _ => fun
  | [d1, d2] => { results := [.lit (.bool true)], args := [d1, d2] }
  | _ => none }
def termsOrderRow : OpenClaim := { program := "ytnjomdjkbbhdoaa", sum := "8a38b12e22416f29045a10b5dddf7f1ec5491cbec9fd94526f07cf0bb20b3066", func := "warder/warderlaw05.TermsOrder", spec := "termsOrder", inPlace := ["internal/bytealg.Compare"], unfollowed := true, recurses := true, loops := true, apart := false }
def TermsOrderSaid : Prop := termsOrderRow.holds Try.pinned (OpenSpec.ofChange termsOrderSpec)

/-- ITS FALSE NEIGHBOUR: 'it returns false'. Refute it at one input. -/
def termsOrderWrong : ChangeSpec := { name := "termsOrder", fn := fun _ => fun
  | [d1, d2] => { results := [.lit (.bool false)], args := [d1, d2] }
  | _ => none }
def TermsOrderWrongFalsely : Prop := termsOrderRow.holds Try.pinned (OpenSpec.ofChange termsOrderWrong)

/-- 'warderlaw05.TermsNorm': WHATEVER THE INPUT: true; the input reads as it did. -/
def termsNormSpec : ChangeSpec := { name := "termsNorm", fn := fun _ => fun
  | [d] => { results := [.lit (.bool true)], args := [d] }
  | _ => none }
def termsNormRow : OpenClaim := { program := "ytnjomdjkbbhdoaa", sum := "8a38b12e22416f29045a10b5dddf7f1ec5491cbec9fd94526f07cf0bb20b3066", func := "warder/warderlaw05.TermsNorm", spec := "termsNorm", inPlace := ["internal/bytealg.Compare"], unfollowed := true, recurses := true, loops := true, apart := false }
def TermsNormSaid : Prop := termsNormRow.holds Try.pinned (OpenSpec.ofChange termsNormSpec)

/-- ITS FALSE NEIGHBOUR: 'it returns false'. Refute it at one input. -/
def termsNormWrong : ChangeSpec := { name := "termsNorm", fn := fun _ => fun
  | [d] => { results := [.lit (.bool false)], args := [d] }
  | _ => none }
def TermsNormWrongFalsely : Prop := termsNormRow.holds Try.pinned (OpenSpec.ofChange termsNormWrong)

/-- 'warderlaw05.TermsPow': WHATEVER THE INPUT: true; the input reads as it did. -/
def termsPowSpec : ChangeSpec := { name := "termsPow", fn := fun _ => fun
  | [d1, d2] => { results := [.lit (.bool true)], args := [d1, d2] }
  | _ => none }
def termsPowRow : OpenClaim := { program := "ytnjomdjkbbhdoaa", sum := "8a38b12e22416f29045a10b5dddf7f1ec5491cbec9fd94526f07cf0bb20b3066", func := "warder/warderlaw05.TermsPow", spec := "termsPow", inPlace := ["internal/bytealg.Compare"], unfollowed := true, recurses := true, loops := true, apart := false }
def TermsPowSaid : Prop := termsPowRow.holds Try.pinned (OpenSpec.ofChange termsPowSpec)

/-- ITS FALSE NEIGHBOUR: 'it returns false'. Refute it at one input. -/
def termsPowWrong : ChangeSpec := { name := "termsPow", fn := fun _ => fun
  | [d1, d2] => { results := [.lit (.bool false)], args := [d1, d2] }
  | _ => none }
def TermsPowWrongFalsely : Prop := termsPowRow.holds Try.pinned (OpenSpec.ofChange termsPowWrong)

/-- 'warderlaw05.TermsLaws': WHATEVER THE INPUT: true; the input reads as it did. -/
def termsLawsSpec : ChangeSpec := { name := "termsLaws", fn := fun _ => fun
  | [d1, d2, d3] => { results := [.lit (.bool true)], args := [d1, d2, d3] }
  | _ => none }
def termsLawsRow : OpenClaim := { program := "ytnjomdjkbbhdoaa", sum := "8a38b12e22416f29045a10b5dddf7f1ec5491cbec9fd94526f07cf0bb20b3066", func := "warder/warderlaw05.TermsLaws", spec := "termsLaws", inPlace := ["internal/bytealg.Compare"], unfollowed := true, recurses := true, loops := true, apart := false }
def TermsLawsSaid : Prop := termsLawsRow.holds Try.pinned (OpenSpec.ofChange termsLawsSpec)

/-- ITS FALSE NEIGHBOUR: 'it returns false'. Refute it at one input. -/
def termsLawsWrong : ChangeSpec := { name := "termsLaws", fn := fun _ => fun
  | [d1, d2, d3] => { results := [.lit (.bool false)], args := [d1, d2, d3] }
  | _ => none }
def TermsLawsWrongFalsely : Prop := termsLawsRow.holds Try.pinned (OpenSpec.ofChange termsLawsWrong)

/-- 'warderlaw05.TermsParts': WHATEVER THE INPUT: true; the input reads as it did. -/
def termsPartsSpec : ChangeSpec := { name := "termsParts", fn := fun _ => fun
  | [d] => { results := [.lit (.bool true)], args := [d] }
  | _ => none }
def termsPartsRow : OpenClaim := { program := "ytnjomdjkbbhdoaa", sum := "8a38b12e22416f29045a10b5dddf7f1ec5491cbec9fd94526f07cf0bb20b3066", func := "warder/warderlaw05.TermsParts", spec := "termsParts", inPlace := ["internal/bytealg.Compare"], unfollowed := true, recurses := true, loops := true, apart := false }
def TermsPartsSaid : Prop := termsPartsRow.holds Try.pinned (OpenSpec.ofChange termsPartsSpec)

/-- ITS FALSE NEIGHBOUR: 'it returns false'. Refute it at one input. -/
def termsPartsWrong : ChangeSpec := { name := "termsParts", fn := fun _ => fun
  | [d] => { results := [.lit (.bool false)], args := [d] }
  | _ => none }
def TermsPartsWrongFalsely : Prop := termsPartsRow.holds Try.pinned (OpenSpec.ofChange termsPartsWrong)

/-- 'warderlaw05.TermsPowers': WHATEVER THE INPUT: true; the input reads as it did. -/
def termsPowersSpec : ChangeSpec := { name := "termsPowers", fn := fun _ => fun
  | [d1, d2] => { results := [.lit (.bool true)], args := [d1, d2] }
  | _ => none }
def termsPowersRow : OpenClaim := { program := "ytnjomdjkbbhdoaa", sum := "8a38b12e22416f29045a10b5dddf7f1ec5491cbec9fd94526f07cf0bb20b3066", func := "warder/warderlaw05.TermsPowers", spec := "termsPowers", inPlace := ["internal/bytealg.Compare"], unfollowed := true, recurses := true, loops := true, apart := false }
def TermsPowersSaid : Prop := termsPowersRow.holds Try.pinned (OpenSpec.ofChange termsPowersSpec)

/-- ITS FALSE NEIGHBOUR: 'it returns false'. Refute it at one input. -/
def termsPowersWrong : ChangeSpec := { name := "termsPowers", fn := fun _ => fun
  | [d1, d2] => { results := [.lit (.bool false)], args := [d1, d2] }
  | _ => none }
def TermsPowersWrongFalsely : Prop := termsPowersRow.holds Try.pinned (OpenSpec.ofChange termsPowersWrong)

/- THE SECOND FORM. 'bulk': how many values and letters a reading holds, each counted each time it is reached (what is shared counts as often as it is met; a slice's spare places count too). A statement '..UptoSaid' is the law's where the arguments, and the package variables that the reading takes, are together of bulk at most 1048576: NARROWER than '..Said'. Prove '..Said' where nothing that the law and all that it calls make is longer than what came in: it says more and counts as full. Else prove '..UptoSaid'. A law counts once. -/
mutual
def uptoBulk {H : Type} : DataW H → Nat
  | .lit (.string bytes) => bytes.length + 1
  | .lit _ => 1
  | .nil => 1
  | .ptr d => uptoBulk d + 1
  | .slice elems spare => uptoBulkAll elems + uptoBulkAll spare + 1
  | .agg parts => uptoBulkAll parts + 1
  | .iface _ d => uptoBulk d + 1
  | .map entries => uptoBulkEntries entries + 1
  | .held _ => 1
def uptoBulkAll {H : Type} : List (DataW H) → Nat
  | [] => 0
  | d :: r => uptoBulk d + uptoBulkAll r
def uptoBulkEntries {H : Type} : List (Lit × DataW H) → Nat
  | [] => 0
  | x :: r => uptoBulkEntry x + uptoBulkEntries r
def uptoBulkEntry {H : Type} : Lit × DataW H → Nat
  | (.string bytes, d) => bytes.length + uptoBulk d + 1
  | (_, d) => uptoBulk d + 1
 end
def uptoSmall : (H : Type) → List (DataW H) → Bool := fun _ ds => decide (uptoBulkAll ds ≤ 1048576)
def OpenSpec.upto (s : _root_.Go.ChangeSpec) : _root_.Go.OpenSpec := { _root_.Go.OpenSpec.ofChange s with cond := some uptoSmall }

/-- 'warderlaw05.TermsRight', WHERE WHAT IT READS IS OF BULK AT MOST 1048576: true; the input reads as it did. -/
def termsRightUptoRow : OpenClaim := { program := "ytnjomdjkbbhdoaa", sum := "8a38b12e22416f29045a10b5dddf7f1ec5491cbec9fd94526f07cf0bb20b3066", func := "warder/warderlaw05.TermsRight", spec := "termsRight", inPlace := ["internal/bytealg.Compare"], unfollowed := true, recurses := true, loops := true, apart := false, narrowed := true }
def TermsRightUptoSaid : Prop := termsRightUptoRow.holds Try.pinned (OpenSpec.upto termsRightSpec)

/-- 'warderlaw05.TermsOrder', WHERE WHAT IT READS IS OF BULK AT MOST 1048576: true; the input reads as it did. -/
def termsOrderUptoRow : OpenClaim := { program := "ytnjomdjkbbhdoaa", sum := "8a38b12e22416f29045a10b5dddf7f1ec5491cbec9fd94526f07cf0bb20b3066", func := "warder/warderlaw05.TermsOrder", spec := "termsOrder", inPlace := ["internal/bytealg.Compare"], unfollowed := true, recurses := true, loops := true, apart := false, narrowed := true }
def TermsOrderUptoSaid : Prop := termsOrderUptoRow.holds Try.pinned (OpenSpec.upto termsOrderSpec)

/-- 'warderlaw05.TermsNorm', WHERE WHAT IT READS IS OF BULK AT MOST 1048576: true; the input reads as it did. -/
def termsNormUptoRow : OpenClaim := { program := "ytnjomdjkbbhdoaa", sum := "8a38b12e22416f29045a10b5dddf7f1ec5491cbec9fd94526f07cf0bb20b3066", func := "warder/warderlaw05.TermsNorm", spec := "termsNorm", inPlace := ["internal/bytealg.Compare"], unfollowed := true, recurses := true, loops := true, apart := false, narrowed := true }
def TermsNormUptoSaid : Prop := termsNormUptoRow.holds Try.pinned (OpenSpec.upto termsNormSpec)

/-- 'warderlaw05.TermsPow', WHERE WHAT IT READS IS OF BULK AT MOST 1048576: true; the input reads as it did. -/
def termsPowUptoRow : OpenClaim := { program := "ytnjomdjkbbhdoaa", sum := "8a38b12e22416f29045a10b5dddf7f1ec5491cbec9fd94526f07cf0bb20b3066", func := "warder/warderlaw05.TermsPow", spec := "termsPow", inPlace := ["internal/bytealg.Compare"], unfollowed := true, recurses := true, loops := true, apart := false, narrowed := true }
def TermsPowUptoSaid : Prop := termsPowUptoRow.holds Try.pinned (OpenSpec.upto termsPowSpec)

/-- 'warderlaw05.TermsLaws', WHERE WHAT IT READS IS OF BULK AT MOST 1048576: true; the input reads as it did. -/
def termsLawsUptoRow : OpenClaim := { program := "ytnjomdjkbbhdoaa", sum := "8a38b12e22416f29045a10b5dddf7f1ec5491cbec9fd94526f07cf0bb20b3066", func := "warder/warderlaw05.TermsLaws", spec := "termsLaws", inPlace := ["internal/bytealg.Compare"], unfollowed := true, recurses := true, loops := true, apart := false, narrowed := true }
def TermsLawsUptoSaid : Prop := termsLawsUptoRow.holds Try.pinned (OpenSpec.upto termsLawsSpec)

/-- 'warderlaw05.TermsParts', WHERE WHAT IT READS IS OF BULK AT MOST 1048576: true; the input reads as it did. -/
def termsPartsUptoRow : OpenClaim := { program := "ytnjomdjkbbhdoaa", sum := "8a38b12e22416f29045a10b5dddf7f1ec5491cbec9fd94526f07cf0bb20b3066", func := "warder/warderlaw05.TermsParts", spec := "termsParts", inPlace := ["internal/bytealg.Compare"], unfollowed := true, recurses := true, loops := true, apart := false, narrowed := true }
def TermsPartsUptoSaid : Prop := termsPartsUptoRow.holds Try.pinned (OpenSpec.upto termsPartsSpec)

/-- 'warderlaw05.TermsPowers', WHERE WHAT IT READS IS OF BULK AT MOST 1048576: true; the input reads as it did. -/
def termsPowersUptoRow : OpenClaim := { program := "ytnjomdjkbbhdoaa", sum := "8a38b12e22416f29045a10b5dddf7f1ec5491cbec9fd94526f07cf0bb20b3066", func := "warder/warderlaw05.TermsPowers", spec := "termsPowers", inPlace := ["internal/bytealg.Compare"], unfollowed := true, recurses := true, loops := true, apart := false, narrowed := true }
def TermsPowersUptoSaid : Prop := termsPowersUptoRow.holds Try.pinned (OpenSpec.upto termsPowersSpec)

end Rows
end Go.Proofs.Ytnjomdjkbbhdoaa
