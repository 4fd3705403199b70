/-
  DERIVED. GIVEN WITH THE SEED: THE CARDS: each row of YtnjomdjkbbhdoaaDoorRows.lean that lists a variable, with what it lists TIED to the program's text (the seventh form; the later family's looks); each row that meets fmt, with fmt's text TOLD by the authors' own Lean function (tested against real Go, not proved from fmt's source: count such statements apart). THE CARD IS WHAT COUNTS. Prove the row's statement (the work); the ties are given (YtnjomdjkbbhdoaaDoorTie.lean); close each card by the builder's one call (the guide's Derived/Test/ToyasCard.lean, 'card_holds'). Laid BY PROGRAM, IN A SANDBOX (cutbox-door.mjs). By AI agents, Wed Nov 11 2026. No macro, syntax, notation, axiom, sorry.
-/
import Derived.Test.YtnjomdjkbbhdoaaDoorRows
import GoSem.ClaimSeven
namespace Go.Proofs.YtnjomdjkbbhdoaaDoor
namespace Rows

/-- THE TIED CARD OF 'warderlaw06.VaultGrows'. -/
def vaultGrowsCard : Claim7 := { stood := { row := vaultGrowsRow, standIns := [], harness := (true, "3d7e9c81e65ba5cea010cb54abc56f9b47564a123b64429895e62168d68a36fd"), looks := false }, kinds := [], alts := [], laidByText := true, laidKinds := [.data, .data, .data], laidTests := true, laidLooks := .later }
def VaultGrowsCardSaid : Prop := Claim7.holds Tryd.pinned (.plain (OpenSpec.ofChange vaultGrowsSpec)) vaultGrowsCard

/-- THE TIED CARD OF 'warderlaw06.VaultTells'. -/
def vaultTellsCard : Claim7 := { stood := { row := vaultTellsRow, standIns := [], harness := (true, "3d7e9c81e65ba5cea010cb54abc56f9b47564a123b64429895e62168d68a36fd"), looks := false }, kinds := [], alts := [], laidByText := true, laidKinds := [.data, .data, .data], laidTests := true, laidLooks := .later }
def VaultTellsCardSaid : Prop := Claim7.holds Tryd.pinned (.plain (OpenSpec.ofChange vaultTellsSpec)) vaultTellsCard

/-- THE TIED CARD OF 'warderlaw06.VaultOnce'. -/
def vaultOnceCard : Claim7 := { stood := { row := vaultOnceRow, standIns := [], harness := (true, "3d7e9c81e65ba5cea010cb54abc56f9b47564a123b64429895e62168d68a36fd"), looks := false }, kinds := [], alts := [], laidByText := true, laidKinds := [.data, .data, .data], laidTests := true, laidLooks := .later }
def VaultOnceCardSaid : Prop := Claim7.holds Tryd.pinned (.plain (OpenSpec.ofChange vaultOnceSpec)) vaultOnceCard

/-- THE TIED CARD OF 'warderlaw07.CryptoAgain'. -/
def cryptoAgainCard : Claim7 := { stood := { row := cryptoAgainRow, standIns := [], harness := (true, "3d7e9c81e65ba5cea010cb54abc56f9b47564a123b64429895e62168d68a36fd"), looks := false }, kinds := [], alts := [], laidByText := true, laidKinds := [.data, .data, .data], laidTests := true, laidLooks := .later }
def CryptoAgainCardSaid : Prop := Claim7.holds Tryd.pinned (.plain (OpenSpec.ofChange cryptoAgainSpec)) cryptoAgainCard

/-- THE TIED CARD OF 'warderlaw07.CryptoNothing'. -/
def cryptoNothingCard : Claim7 := { stood := { row := cryptoNothingRow, standIns := [], harness := (true, "3d7e9c81e65ba5cea010cb54abc56f9b47564a123b64429895e62168d68a36fd"), looks := false }, kinds := [], alts := [], laidByText := true, laidKinds := [.data, .data, .data], laidTests := true, laidLooks := .later }
def CryptoNothingCardSaid : Prop := Claim7.holds Tryd.pinned (.plain (OpenSpec.ofChange cryptoNothingSpec)) cryptoNothingCard

/-- THE TIED CARD OF 'warderlaw07.CryptoSeals'. -/
def cryptoSealsCard : Claim7 := { stood := { row := cryptoSealsRow, standIns := [], harness := (true, "3d7e9c81e65ba5cea010cb54abc56f9b47564a123b64429895e62168d68a36fd"), looks := false }, kinds := [], alts := [], laidByText := true, laidKinds := [.data, .data, .data], laidTests := true, laidLooks := .later }
def CryptoSealsCardSaid : Prop := Claim7.holds Tryd.pinned (.plain (OpenSpec.ofChange cryptoSealsSpec)) cryptoSealsCard

/-- THE TIED CARD OF 'warderlaw07.CryptoPowers'. -/
def cryptoPowersCard : Claim7 := { stood := { row := cryptoPowersRow, standIns := [], harness := (true, "3d7e9c81e65ba5cea010cb54abc56f9b47564a123b64429895e62168d68a36fd"), looks := false }, kinds := [], alts := [], laidByText := true, laidKinds := [.data, .data, .data], laidTests := true, laidLooks := .later }
def CryptoPowersCardSaid : Prop := Claim7.holds Tryd.pinned (.plain (OpenSpec.ofChange cryptoPowersSpec)) cryptoPowersCard

/-- THE TIED CARD OF 'warderlaw06.VaultBytes'. -/
def vaultBytesCard : Claim7 := { stood := { row := vaultBytesRow, standIns := [], harness := (true, "3d7e9c81e65ba5cea010cb54abc56f9b47564a123b64429895e62168d68a36fd"), looks := false }, kinds := [], alts := [], laidByText := true, laidKinds := [.data, .data, .data], laidTests := true, laidLooks := .later }
def VaultBytesCardSaid : Prop := Claim7.holds Tryd.pinned (.plain (OpenSpec.ofChange vaultBytesSpec)) vaultBytesCard

/-- THE TIED CARD OF 'warderlaw06.VaultMentions'. -/
def vaultMentionsCard : Claim7 := { stood := { row := vaultMentionsRow, standIns := [], harness := (true, "3d7e9c81e65ba5cea010cb54abc56f9b47564a123b64429895e62168d68a36fd"), looks := false }, kinds := [], alts := [], laidByText := true, laidKinds := [.data, .data, .data], laidTests := true, laidLooks := .later }
def VaultMentionsCardSaid : Prop := Claim7.holds Tryd.pinned (.plain (OpenSpec.ofChange vaultMentionsSpec)) vaultMentionsCard

/-- THE SECOND FORM's CARD OF 'warderlaw06.VaultGrows'. -/
def vaultGrowsUptoCard : Claim7 := { stood := { row := vaultGrowsUptoRow, standIns := [], harness := (true, "3d7e9c81e65ba5cea010cb54abc56f9b47564a123b64429895e62168d68a36fd"), looks := false }, kinds := [], alts := [], laidByText := true, laidKinds := [.data, .data, .data], laidTests := true, laidLooks := .later }
def VaultGrowsUptoCardSaid : Prop := Claim7.holds Tryd.pinned (.plain (OpenSpec.upto vaultGrowsSpec)) vaultGrowsUptoCard

/-- THE SECOND FORM's CARD OF 'warderlaw06.VaultTells'. -/
def vaultTellsUptoCard : Claim7 := { stood := { row := vaultTellsUptoRow, standIns := [], harness := (true, "3d7e9c81e65ba5cea010cb54abc56f9b47564a123b64429895e62168d68a36fd"), looks := false }, kinds := [], alts := [], laidByText := true, laidKinds := [.data, .data, .data], laidTests := true, laidLooks := .later }
def VaultTellsUptoCardSaid : Prop := Claim7.holds Tryd.pinned (.plain (OpenSpec.upto vaultTellsSpec)) vaultTellsUptoCard

/-- THE SECOND FORM's CARD OF 'warderlaw06.VaultOnce'. -/
def vaultOnceUptoCard : Claim7 := { stood := { row := vaultOnceUptoRow, standIns := [], harness := (true, "3d7e9c81e65ba5cea010cb54abc56f9b47564a123b64429895e62168d68a36fd"), looks := false }, kinds := [], alts := [], laidByText := true, laidKinds := [.data, .data, .data], laidTests := true, laidLooks := .later }
def VaultOnceUptoCardSaid : Prop := Claim7.holds Tryd.pinned (.plain (OpenSpec.upto vaultOnceSpec)) vaultOnceUptoCard

/-- THE SECOND FORM's CARD OF 'warderlaw07.CryptoAgain'. -/
def cryptoAgainUptoCard : Claim7 := { stood := { row := cryptoAgainUptoRow, standIns := [], harness := (true, "3d7e9c81e65ba5cea010cb54abc56f9b47564a123b64429895e62168d68a36fd"), looks := false }, kinds := [], alts := [], laidByText := true, laidKinds := [.data, .data, .data], laidTests := true, laidLooks := .later }
def CryptoAgainUptoCardSaid : Prop := Claim7.holds Tryd.pinned (.plain (OpenSpec.upto cryptoAgainSpec)) cryptoAgainUptoCard

/-- THE SECOND FORM's CARD OF 'warderlaw07.CryptoNothing'. -/
def cryptoNothingUptoCard : Claim7 := { stood := { row := cryptoNothingUptoRow, standIns := [], harness := (true, "3d7e9c81e65ba5cea010cb54abc56f9b47564a123b64429895e62168d68a36fd"), looks := false }, kinds := [], alts := [], laidByText := true, laidKinds := [.data, .data, .data], laidTests := true, laidLooks := .later }
def CryptoNothingUptoCardSaid : Prop := Claim7.holds Tryd.pinned (.plain (OpenSpec.upto cryptoNothingSpec)) cryptoNothingUptoCard

/-- THE SECOND FORM's CARD OF 'warderlaw07.CryptoSeals'. -/
def cryptoSealsUptoCard : Claim7 := { stood := { row := cryptoSealsUptoRow, standIns := [], harness := (true, "3d7e9c81e65ba5cea010cb54abc56f9b47564a123b64429895e62168d68a36fd"), looks := false }, kinds := [], alts := [], laidByText := true, laidKinds := [.data, .data, .data], laidTests := true, laidLooks := .later }
def CryptoSealsUptoCardSaid : Prop := Claim7.holds Tryd.pinned (.plain (OpenSpec.upto cryptoSealsSpec)) cryptoSealsUptoCard

/-- THE SECOND FORM's CARD OF 'warderlaw07.CryptoPowers'. -/
def cryptoPowersUptoCard : Claim7 := { stood := { row := cryptoPowersUptoRow, standIns := [], harness := (true, "3d7e9c81e65ba5cea010cb54abc56f9b47564a123b64429895e62168d68a36fd"), looks := false }, kinds := [], alts := [], laidByText := true, laidKinds := [.data, .data, .data], laidTests := true, laidLooks := .later }
def CryptoPowersUptoCardSaid : Prop := Claim7.holds Tryd.pinned (.plain (OpenSpec.upto cryptoPowersSpec)) cryptoPowersUptoCard

/-- THE SECOND FORM's CARD OF 'warderlaw06.VaultBytes'. -/
def vaultBytesUptoCard : Claim7 := { stood := { row := vaultBytesUptoRow, standIns := [], harness := (true, "3d7e9c81e65ba5cea010cb54abc56f9b47564a123b64429895e62168d68a36fd"), looks := false }, kinds := [], alts := [], laidByText := true, laidKinds := [.data, .data, .data], laidTests := true, laidLooks := .later }
def VaultBytesUptoCardSaid : Prop := Claim7.holds Tryd.pinned (.plain (OpenSpec.upto vaultBytesSpec)) vaultBytesUptoCard

/-- THE SECOND FORM's CARD OF 'warderlaw06.VaultMentions'. -/
def vaultMentionsUptoCard : Claim7 := { stood := { row := vaultMentionsUptoRow, standIns := [], harness := (true, "3d7e9c81e65ba5cea010cb54abc56f9b47564a123b64429895e62168d68a36fd"), looks := false }, kinds := [], alts := [], laidByText := true, laidKinds := [.data, .data, .data], laidTests := true, laidLooks := .later }
def VaultMentionsUptoCardSaid : Prop := Claim7.holds Tryd.pinned (.plain (OpenSpec.upto vaultMentionsSpec)) vaultMentionsUptoCard
end Rows
end Go.Proofs.YtnjomdjkbbhdoaaDoor
