/-
  DERIVED. GIVEN WITH THE SEED: THE CARDS: each row of YtdejidhgeefmeaaDoorRows.lean that lists a variable, with what it lists TIED to the program's text (the seventh form; the later family's looks); each row that meets fmt, with fmt's text TOLD by the authors' own Lean function (tested against real Go, not proved from fmt's source: count such statements apart). THE CARD IS WHAT COUNTS. Prove the row's statement (the work); the ties are given (YtdejidhgeefmeaaDoorTie.lean); close each card by the builder's one call (the guide's Derived/Test/ToyasCard.lean, 'card_holds'). Laid BY PROGRAM, IN A SANDBOX (cutbox-door.mjs). By AI agents, Wed Nov 11 2026. No macro, syntax, notation, axiom, sorry.
-/
import Derived.Test.YtdejidhgeefmeaaDoorRows
import GoSem.ClaimSeven
namespace Go.Proofs.YtdejidhgeefmeaaDoor
namespace Rows

/-- THE TIED CARD OF 'tmesislaw07.LexAll'. -/
def lexAllCard : Claim7 := { stood := { row := lexAllRow, standIns := [], harness := (true, "57a77e8d681163da6d7a779be687ab8816753e9e3b47676b7220b8f35c808a53"), looks := false }, kinds := [], alts := [], laidByText := true, laidKinds := [.data, .data, .pinned], laidTests := true, laidLooks := .later }
def LexAllCardSaid : Prop := Claim7.holds Tryd.pinned (.plain (OpenSpec.ofChange lexAllSpec)) lexAllCard

/-- THE TIED CARD OF 'tmesislaw07.LexOrders'. -/
def lexOrdersCard : Claim7 := { stood := { row := lexOrdersRow, standIns := [], harness := (true, "57a77e8d681163da6d7a779be687ab8816753e9e3b47676b7220b8f35c808a53"), looks := false }, kinds := [], alts := [], laidByText := true, laidKinds := [.data, .data, .pinned], laidTests := true, laidLooks := .later }
def LexOrdersCardSaid : Prop := Claim7.holds Tryd.pinned (.plain (OpenSpec.ofChange lexOrdersSpec)) lexOrdersCard

/-- THE TIED CARD OF 'tmesislaw07.LexBack'. -/
def lexBackCard : Claim7 := { stood := { row := lexBackRow, standIns := [], harness := (true, "57a77e8d681163da6d7a779be687ab8816753e9e3b47676b7220b8f35c808a53"), looks := false }, kinds := [], alts := [], laidByText := true, laidKinds := [.data, .data, .pinned], laidTests := true, laidLooks := .later }
def LexBackCardSaid : Prop := Claim7.holds Tryd.pinned (.plain (OpenSpec.ofChange lexBackSpec)) lexBackCard

/-- THE TIED CARD OF 'tmesislaw07.LexParts'. -/
def lexPartsCard : Claim7 := { stood := { row := lexPartsRow, standIns := [], harness := (true, "57a77e8d681163da6d7a779be687ab8816753e9e3b47676b7220b8f35c808a53"), looks := false }, kinds := [], alts := [], laidByText := true, laidKinds := [.data, .data, .pinned], laidTests := true, laidLooks := .later }
def LexPartsCardSaid : Prop := Claim7.holds Tryd.pinned (.plain (OpenSpec.ofChange lexPartsSpec)) lexPartsCard

/-- THE TIED CARD OF 'tmesislaw07.LexNone'. -/
def lexNoneCard : Claim7 := { stood := { row := lexNoneRow, standIns := [], harness := (true, "57a77e8d681163da6d7a779be687ab8816753e9e3b47676b7220b8f35c808a53"), looks := false }, kinds := [], alts := [], laidByText := true, laidKinds := [.data, .data, .pinned], laidTests := true, laidLooks := .later }
def LexNoneCardSaid : Prop := Claim7.holds Tryd.pinned (.plain (OpenSpec.ofChange lexNoneSpec)) lexNoneCard

/-- THE TIED CARD OF 'tmesislaw07.LexJoins'. -/
def lexJoinsCard : Claim7 := { stood := { row := lexJoinsRow, standIns := [], harness := (true, "57a77e8d681163da6d7a779be687ab8816753e9e3b47676b7220b8f35c808a53"), looks := false }, kinds := [], alts := [], laidByText := true, laidKinds := [.data, .data, .pinned], laidTests := true, laidLooks := .later }
def LexJoinsCardSaid : Prop := Claim7.holds Tryd.pinned (.plain (OpenSpec.ofChange lexJoinsSpec)) lexJoinsCard

/-- THE SECOND FORM's CARD OF 'tmesislaw07.LexAll'. -/
def lexAllUptoCard : Claim7 := { stood := { row := lexAllUptoRow, standIns := [], harness := (true, "57a77e8d681163da6d7a779be687ab8816753e9e3b47676b7220b8f35c808a53"), looks := false }, kinds := [], alts := [], laidByText := true, laidKinds := [.data, .data, .pinned], laidTests := true, laidLooks := .later }
def LexAllUptoCardSaid : Prop := Claim7.holds Tryd.pinned (.plain (OpenSpec.upto lexAllSpec)) lexAllUptoCard

/-- THE SECOND FORM's CARD OF 'tmesislaw07.LexOrders'. -/
def lexOrdersUptoCard : Claim7 := { stood := { row := lexOrdersUptoRow, standIns := [], harness := (true, "57a77e8d681163da6d7a779be687ab8816753e9e3b47676b7220b8f35c808a53"), looks := false }, kinds := [], alts := [], laidByText := true, laidKinds := [.data, .data, .pinned], laidTests := true, laidLooks := .later }
def LexOrdersUptoCardSaid : Prop := Claim7.holds Tryd.pinned (.plain (OpenSpec.upto lexOrdersSpec)) lexOrdersUptoCard

/-- THE SECOND FORM's CARD OF 'tmesislaw07.LexBack'. -/
def lexBackUptoCard : Claim7 := { stood := { row := lexBackUptoRow, standIns := [], harness := (true, "57a77e8d681163da6d7a779be687ab8816753e9e3b47676b7220b8f35c808a53"), looks := false }, kinds := [], alts := [], laidByText := true, laidKinds := [.data, .data, .pinned], laidTests := true, laidLooks := .later }
def LexBackUptoCardSaid : Prop := Claim7.holds Tryd.pinned (.plain (OpenSpec.upto lexBackSpec)) lexBackUptoCard

/-- THE SECOND FORM's CARD OF 'tmesislaw07.LexParts'. -/
def lexPartsUptoCard : Claim7 := { stood := { row := lexPartsUptoRow, standIns := [], harness := (true, "57a77e8d681163da6d7a779be687ab8816753e9e3b47676b7220b8f35c808a53"), looks := false }, kinds := [], alts := [], laidByText := true, laidKinds := [.data, .data, .pinned], laidTests := true, laidLooks := .later }
def LexPartsUptoCardSaid : Prop := Claim7.holds Tryd.pinned (.plain (OpenSpec.upto lexPartsSpec)) lexPartsUptoCard

/-- THE SECOND FORM's CARD OF 'tmesislaw07.LexNone'. -/
def lexNoneUptoCard : Claim7 := { stood := { row := lexNoneUptoRow, standIns := [], harness := (true, "57a77e8d681163da6d7a779be687ab8816753e9e3b47676b7220b8f35c808a53"), looks := false }, kinds := [], alts := [], laidByText := true, laidKinds := [.data, .data, .pinned], laidTests := true, laidLooks := .later }
def LexNoneUptoCardSaid : Prop := Claim7.holds Tryd.pinned (.plain (OpenSpec.upto lexNoneSpec)) lexNoneUptoCard

/-- THE SECOND FORM's CARD OF 'tmesislaw07.LexJoins'. -/
def lexJoinsUptoCard : Claim7 := { stood := { row := lexJoinsUptoRow, standIns := [], harness := (true, "57a77e8d681163da6d7a779be687ab8816753e9e3b47676b7220b8f35c808a53"), looks := false }, kinds := [], alts := [], laidByText := true, laidKinds := [.data, .data, .pinned], laidTests := true, laidLooks := .later }
def LexJoinsUptoCardSaid : Prop := Claim7.holds Tryd.pinned (.plain (OpenSpec.upto lexJoinsSpec)) lexJoinsUptoCard
end Rows
end Go.Proofs.YtdejidhgeefmeaaDoor
