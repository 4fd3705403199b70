/-
  DERIVED. GIVEN WITH THE SEED: THE CARDS: each row of YtnjomdjkbbhdoaaGreatDoorRows.lean that lists a variable, with what it lists TIED to the program's text (the seventh form; the later family's looks); each row that meets fmt, with fmt's text TOLD by the authors' own Lean function (tested against real Go, not proved from fmt's source: count such statements apart). THE CARD IS WHAT COUNTS. Prove the row's statement (the work); the ties are given (YtnjomdjkbbhdoaaGreatDoorTie.lean); close each card by the builder's one call (the guide's Derived/Test/ToyasCard.lean, 'card_holds'). Laid BY PROGRAM, IN A SANDBOX (cutbox-door.mjs). By AI agents, Wed Nov 11 2026. No macro, syntax, notation, axiom, sorry.
-/
import Derived.Test.YtnjomdjkbbhdoaaGreatDoorRows
import GoSem.ClaimSeven
namespace Go.Proofs.YtnjomdjkbbhdoaaGreatDoor
namespace Rows

/-- THE TIED CARD OF 'warderlaw08.DeriveCan'. -/
def deriveCanCard : Claim7 := { stood := { row := deriveCanRow, standIns := [], harness := (true, "4c86423aa569184309f187bb21c67e608d3717264be99e8b89fe83d443bc64e2"), looks := false }, kinds := [], alts := [], laidByText := true, laidKinds := [.data, .data, .data], laidTests := true, laidLooks := .later }
def DeriveCanCardSaid : Prop := Claim7.holds Tryz.pinned (.plain (OpenSpec.ofChange deriveCanSpec)) deriveCanCard

/-- THE TIED CARD OF 'warderlaw08.DeriveOpens'. -/
def deriveOpensCard : Claim7 := { stood := { row := deriveOpensRow, standIns := [], harness := (true, "4c86423aa569184309f187bb21c67e608d3717264be99e8b89fe83d443bc64e2"), looks := false }, kinds := [], alts := [], laidByText := true, laidKinds := [.data, .data, .data], laidTests := true, laidLooks := .later }
def DeriveOpensCardSaid : Prop := Claim7.holds Tryz.pinned (.plain (OpenSpec.ofChange deriveOpensSpec)) deriveOpensCard

/-- THE TIED CARD OF 'warderlaw07.CryptoPlays'. -/
def cryptoPlaysCard : Claim7 := { stood := { row := cryptoPlaysRow, standIns := [], harness := (true, "4c86423aa569184309f187bb21c67e608d3717264be99e8b89fe83d443bc64e2"), looks := false }, kinds := [], alts := [], laidByText := true, laidKinds := [.data, .data, .data], laidTests := true, laidLooks := .later }
def CryptoPlaysCardSaid : Prop := Claim7.holds Tryz.pinned (.plain (OpenSpec.ofChange cryptoPlaysSpec)) cryptoPlaysCard

/-- THE TIED CARD OF 'warderlaw08.DeriveCloses'. -/
def deriveClosesCard : Claim7 := { stood := { row := deriveClosesRow, standIns := [], harness := (true, "4c86423aa569184309f187bb21c67e608d3717264be99e8b89fe83d443bc64e2"), looks := false }, kinds := [], alts := [], laidByText := true, laidKinds := [.data, .data, .data], laidTests := true, laidLooks := .later }
def DeriveClosesCardSaid : Prop := Claim7.holds Tryz.pinned (.plain (OpenSpec.ofChange deriveClosesSpec)) deriveClosesCard

/-- THE TIED CARD OF 'warderlaw08.DeriveGrows'. -/
def deriveGrowsCard : Claim7 := { stood := { row := deriveGrowsRow, standIns := [], harness := (true, "4c86423aa569184309f187bb21c67e608d3717264be99e8b89fe83d443bc64e2"), looks := false }, kinds := [], alts := [], laidByText := true, laidKinds := [.data, .data, .data], laidTests := true, laidLooks := .later }
def DeriveGrowsCardSaid : Prop := Claim7.holds Tryz.pinned (.plain (OpenSpec.ofChange deriveGrowsSpec)) deriveGrowsCard

/-- THE TIED CARD OF 'warderlaw08.DeriveSecrets'. -/
def deriveSecretsCard : Claim7 := { stood := { row := deriveSecretsRow, standIns := [], harness := (true, "4c86423aa569184309f187bb21c67e608d3717264be99e8b89fe83d443bc64e2"), looks := false }, kinds := [], alts := [], laidByText := true, laidKinds := [.data, .data, .data], laidTests := true, laidLooks := .later }
def DeriveSecretsCardSaid : Prop := Claim7.holds Tryz.pinned (.plain (OpenSpec.ofChange deriveSecretsSpec)) deriveSecretsCard

/-- THE SECOND FORM's CARD OF 'warderlaw08.DeriveCan'. -/
def deriveCanUptoCard : Claim7 := { stood := { row := deriveCanUptoRow, standIns := [], harness := (true, "4c86423aa569184309f187bb21c67e608d3717264be99e8b89fe83d443bc64e2"), looks := false }, kinds := [], alts := [], laidByText := true, laidKinds := [.data, .data, .data], laidTests := true, laidLooks := .later }
def DeriveCanUptoCardSaid : Prop := Claim7.holds Tryz.pinned (.plain (OpenSpec.upto deriveCanSpec)) deriveCanUptoCard

/-- THE SECOND FORM's CARD OF 'warderlaw08.DeriveOpens'. -/
def deriveOpensUptoCard : Claim7 := { stood := { row := deriveOpensUptoRow, standIns := [], harness := (true, "4c86423aa569184309f187bb21c67e608d3717264be99e8b89fe83d443bc64e2"), looks := false }, kinds := [], alts := [], laidByText := true, laidKinds := [.data, .data, .data], laidTests := true, laidLooks := .later }
def DeriveOpensUptoCardSaid : Prop := Claim7.holds Tryz.pinned (.plain (OpenSpec.upto deriveOpensSpec)) deriveOpensUptoCard

/-- THE SECOND FORM's CARD OF 'warderlaw07.CryptoPlays'. -/
def cryptoPlaysUptoCard : Claim7 := { stood := { row := cryptoPlaysUptoRow, standIns := [], harness := (true, "4c86423aa569184309f187bb21c67e608d3717264be99e8b89fe83d443bc64e2"), looks := false }, kinds := [], alts := [], laidByText := true, laidKinds := [.data, .data, .data], laidTests := true, laidLooks := .later }
def CryptoPlaysUptoCardSaid : Prop := Claim7.holds Tryz.pinned (.plain (OpenSpec.upto cryptoPlaysSpec)) cryptoPlaysUptoCard

/-- THE SECOND FORM's CARD OF 'warderlaw08.DeriveCloses'. -/
def deriveClosesUptoCard : Claim7 := { stood := { row := deriveClosesUptoRow, standIns := [], harness := (true, "4c86423aa569184309f187bb21c67e608d3717264be99e8b89fe83d443bc64e2"), looks := false }, kinds := [], alts := [], laidByText := true, laidKinds := [.data, .data, .data], laidTests := true, laidLooks := .later }
def DeriveClosesUptoCardSaid : Prop := Claim7.holds Tryz.pinned (.plain (OpenSpec.upto deriveClosesSpec)) deriveClosesUptoCard

/-- THE SECOND FORM's CARD OF 'warderlaw08.DeriveGrows'. -/
def deriveGrowsUptoCard : Claim7 := { stood := { row := deriveGrowsUptoRow, standIns := [], harness := (true, "4c86423aa569184309f187bb21c67e608d3717264be99e8b89fe83d443bc64e2"), looks := false }, kinds := [], alts := [], laidByText := true, laidKinds := [.data, .data, .data], laidTests := true, laidLooks := .later }
def DeriveGrowsUptoCardSaid : Prop := Claim7.holds Tryz.pinned (.plain (OpenSpec.upto deriveGrowsSpec)) deriveGrowsUptoCard

/-- THE SECOND FORM's CARD OF 'warderlaw08.DeriveSecrets'. -/
def deriveSecretsUptoCard : Claim7 := { stood := { row := deriveSecretsUptoRow, standIns := [], harness := (true, "4c86423aa569184309f187bb21c67e608d3717264be99e8b89fe83d443bc64e2"), looks := false }, kinds := [], alts := [], laidByText := true, laidKinds := [.data, .data, .data], laidTests := true, laidLooks := .later }
def DeriveSecretsUptoCardSaid : Prop := Claim7.holds Tryz.pinned (.plain (OpenSpec.upto deriveSecretsSpec)) deriveSecretsUptoCard
end Rows
end Go.Proofs.YtnjomdjkbbhdoaaGreatDoor
