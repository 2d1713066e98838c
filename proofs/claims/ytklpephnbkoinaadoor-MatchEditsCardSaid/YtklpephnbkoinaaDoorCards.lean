/-
  DERIVED. GIVEN WITH THE SEED: THE CARDS: each row of YtklpephnbkoinaaDoorRows.lean that lists a variable, with what it lists TIED to the program's text (the seventh form; the later family's looks); each row that meets fmt, with fmt's text TOLD by the authors' own Lean function (tested against real Go, not proved from fmt's source: count such statements apart). THE CARD IS WHAT COUNTS. Prove the row's statement (the work); the ties are given (YtklpephnbkoinaaDoorTie.lean); close each card by the builder's one call (the guide's Derived/Test/ToyasCard.lean, 'card_holds'). Laid BY PROGRAM, IN A SANDBOX (cutbox-door.mjs). By AI agents, Wed Nov 11 2026. No macro, syntax, notation, axiom, sorry.
-/
import Derived.Test.YtklpephnbkoinaaDoorRows
import GoSem.ClaimSeven
namespace Go.Proofs.YtklpephnbkoinaaDoor
namespace Rows

/-- THE TIED CARD OF 'tmesislaw24.MatchAll'. -/
def matchAllCard : Claim7 := { stood := { row := matchAllRow, standIns := [], harness := (true, "32885446801f340353351e936d234f6fd633d9369a2d644061a739b225ca83d4"), looks := false }, kinds := [], alts := [], laidByText := true, laidKinds := [.data], laidTests := true, laidLooks := .later }
def MatchAllCardSaid : Prop := Claim7.holds Tryd.pinned (.plain (OpenSpec.ofChange matchAllSpec)) matchAllCard

/-- THE TIED CARD OF 'tmesislaw24.MatchEdits'. -/
def matchEditsCard : Claim7 := { stood := { row := matchEditsRow, standIns := [], harness := (true, "32885446801f340353351e936d234f6fd633d9369a2d644061a739b225ca83d4"), looks := false }, kinds := [], alts := [], laidByText := true, laidKinds := [.data], laidTests := true, laidLooks := .later }
def MatchEditsCardSaid : Prop := Claim7.holds Tryd.pinned (.plain (OpenSpec.ofChange matchEditsSpec)) matchEditsCard

/-- THE TIED CARD OF 'tmesislaw24.MatchBoth'. -/
def matchBothCard : Claim7 := { stood := { row := matchBothRow, standIns := [], harness := (true, "32885446801f340353351e936d234f6fd633d9369a2d644061a739b225ca83d4"), looks := false }, kinds := [], alts := [], laidByText := true, laidKinds := [.data], laidTests := true, laidLooks := .later }
def MatchBothCardSaid : Prop := Claim7.holds Tryd.pinned (.plain (OpenSpec.ofChange matchBothSpec)) matchBothCard

/-- THE SECOND FORM's CARD OF 'tmesislaw24.MatchAll'. -/
def matchAllUptoCard : Claim7 := { stood := { row := matchAllUptoRow, standIns := [], harness := (true, "32885446801f340353351e936d234f6fd633d9369a2d644061a739b225ca83d4"), looks := false }, kinds := [], alts := [], laidByText := true, laidKinds := [.data], laidTests := true, laidLooks := .later }
def MatchAllUptoCardSaid : Prop := Claim7.holds Tryd.pinned (.plain (OpenSpec.upto matchAllSpec)) matchAllUptoCard

/-- THE SECOND FORM's CARD OF 'tmesislaw24.MatchEdits'. -/
def matchEditsUptoCard : Claim7 := { stood := { row := matchEditsUptoRow, standIns := [], harness := (true, "32885446801f340353351e936d234f6fd633d9369a2d644061a739b225ca83d4"), looks := false }, kinds := [], alts := [], laidByText := true, laidKinds := [.data], laidTests := true, laidLooks := .later }
def MatchEditsUptoCardSaid : Prop := Claim7.holds Tryd.pinned (.plain (OpenSpec.upto matchEditsSpec)) matchEditsUptoCard

/-- THE SECOND FORM's CARD OF 'tmesislaw24.MatchBoth'. -/
def matchBothUptoCard : Claim7 := { stood := { row := matchBothUptoRow, standIns := [], harness := (true, "32885446801f340353351e936d234f6fd633d9369a2d644061a739b225ca83d4"), looks := false }, kinds := [], alts := [], laidByText := true, laidKinds := [.data], laidTests := true, laidLooks := .later }
def MatchBothUptoCardSaid : Prop := Claim7.holds Tryd.pinned (.plain (OpenSpec.upto matchBothSpec)) matchBothUptoCard
end Rows
end Go.Proofs.YtklpephnbkoinaaDoor
