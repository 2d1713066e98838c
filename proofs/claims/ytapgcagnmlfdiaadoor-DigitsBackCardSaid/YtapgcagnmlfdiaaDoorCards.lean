/-
  DERIVED. GIVEN WITH THE SEED: THE CARDS: each row of YtapgcagnmlfdiaaDoorRows.lean that lists a variable, with what it lists TIED to the program's text (the seventh form; the later family's looks); each row that meets fmt, with fmt's text TOLD by the authors' own Lean function (tested against real Go, not proved from fmt's source: count such statements apart). THE CARD IS WHAT COUNTS. Prove the row's statement (the work); the ties are given (YtapgcagnmlfdiaaDoorTie.lean); close each card by the builder's one call (the guide's Derived/Test/ToyasCard.lean, 'card_holds'). Laid BY PROGRAM, IN A SANDBOX (cutbox-door.mjs). By AI agents, Wed Nov 11 2026. No macro, syntax, notation, axiom, sorry.
-/
import Derived.Test.YtapgcagnmlfdiaaDoorRows
import GoSem.ClaimSeven
namespace Go.Proofs.YtapgcagnmlfdiaaDoor
namespace Rows

/-- THE TIED CARD OF 'tmesislaw03.DigitsGoes'. -/
def digitsGoesCard : Claim7 := { stood := { row := digitsGoesRow, standIns := [], harness := (true, "85963bc7d85ad7ec5d293736e471f99267814bafd2f848575b3a36f4589fefa0"), looks := false }, kinds := [], alts := [], laidByText := true, laidKinds := [.data], laidTests := true, laidLooks := .later }
def DigitsGoesCardSaid : Prop := Claim7.holds Tryd.pinned (.plain (OpenSpec.ofChange digitsGoesSpec)) digitsGoesCard

/-- THE TIED CARD OF 'tmesislaw03.DigitsAll'. -/
def digitsAllCard : Claim7 := { stood := { row := digitsAllRow, standIns := [], harness := (true, "85963bc7d85ad7ec5d293736e471f99267814bafd2f848575b3a36f4589fefa0"), looks := false }, kinds := [], alts := [], laidByText := true, laidKinds := [.data], laidTests := true, laidLooks := .later }
def DigitsAllCardSaid : Prop := Claim7.holds Tryd.pinned (.plain (OpenSpec.ofChange digitsAllSpec)) digitsAllCard

/-- THE TIED CARD OF 'tmesislaw03.DigitsBack'. -/
def digitsBackCard : Claim7 := { stood := { row := digitsBackRow, standIns := [], harness := (true, "85963bc7d85ad7ec5d293736e471f99267814bafd2f848575b3a36f4589fefa0"), looks := false }, kinds := [], alts := [], laidByText := true, laidKinds := [.data], laidTests := true, laidLooks := .later }
def DigitsBackCardSaid : Prop := Claim7.holds Tryd.pinned (.plain (OpenSpec.ofChange digitsBackSpec)) digitsBackCard

/-- THE TIED CARD OF 'tmesislaw03.DigitsOrders'. -/
def digitsOrdersCard : Claim7 := { stood := { row := digitsOrdersRow, standIns := [], harness := (true, "85963bc7d85ad7ec5d293736e471f99267814bafd2f848575b3a36f4589fefa0"), looks := false }, kinds := [], alts := [], laidByText := true, laidKinds := [.data], laidTests := true, laidLooks := .later }
def DigitsOrdersCardSaid : Prop := Claim7.holds Tryd.pinned (.plain (OpenSpec.ofChange digitsOrdersSpec)) digitsOrdersCard

/-- THE SECOND FORM's CARD OF 'tmesislaw03.DigitsGoes'. -/
def digitsGoesUptoCard : Claim7 := { stood := { row := digitsGoesUptoRow, standIns := [], harness := (true, "85963bc7d85ad7ec5d293736e471f99267814bafd2f848575b3a36f4589fefa0"), looks := false }, kinds := [], alts := [], laidByText := true, laidKinds := [.data], laidTests := true, laidLooks := .later }
def DigitsGoesUptoCardSaid : Prop := Claim7.holds Tryd.pinned (.plain (OpenSpec.upto digitsGoesSpec)) digitsGoesUptoCard

/-- THE SECOND FORM's CARD OF 'tmesislaw03.DigitsAll'. -/
def digitsAllUptoCard : Claim7 := { stood := { row := digitsAllUptoRow, standIns := [], harness := (true, "85963bc7d85ad7ec5d293736e471f99267814bafd2f848575b3a36f4589fefa0"), looks := false }, kinds := [], alts := [], laidByText := true, laidKinds := [.data], laidTests := true, laidLooks := .later }
def DigitsAllUptoCardSaid : Prop := Claim7.holds Tryd.pinned (.plain (OpenSpec.upto digitsAllSpec)) digitsAllUptoCard

/-- THE SECOND FORM's CARD OF 'tmesislaw03.DigitsBack'. -/
def digitsBackUptoCard : Claim7 := { stood := { row := digitsBackUptoRow, standIns := [], harness := (true, "85963bc7d85ad7ec5d293736e471f99267814bafd2f848575b3a36f4589fefa0"), looks := false }, kinds := [], alts := [], laidByText := true, laidKinds := [.data], laidTests := true, laidLooks := .later }
def DigitsBackUptoCardSaid : Prop := Claim7.holds Tryd.pinned (.plain (OpenSpec.upto digitsBackSpec)) digitsBackUptoCard

/-- THE SECOND FORM's CARD OF 'tmesislaw03.DigitsOrders'. -/
def digitsOrdersUptoCard : Claim7 := { stood := { row := digitsOrdersUptoRow, standIns := [], harness := (true, "85963bc7d85ad7ec5d293736e471f99267814bafd2f848575b3a36f4589fefa0"), looks := false }, kinds := [], alts := [], laidByText := true, laidKinds := [.data], laidTests := true, laidLooks := .later }
def DigitsOrdersUptoCardSaid : Prop := Claim7.holds Tryd.pinned (.plain (OpenSpec.upto digitsOrdersSpec)) digitsOrdersUptoCard
end Rows
end Go.Proofs.YtapgcagnmlfdiaaDoor
