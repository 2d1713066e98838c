/-
  DERIVED. GIVEN WITH THE SEED: THE CARDS: each row of YtfmhhjimnhfbaaaDoorRows.lean that lists a variable, with what it lists TIED to the program's text (the seventh form; the later family's looks); each row that meets fmt, with fmt's text TOLD by the authors' own Lean function (tested against real Go, not proved from fmt's source: count such statements apart). THE CARD IS WHAT COUNTS. Prove the row's statement (the work); the ties are given (YtfmhhjimnhfbaaaDoorTie.lean); close each card by the builder's one call (the guide's Derived/Test/ToyasCard.lean, 'card_holds'). Laid BY PROGRAM, IN A SANDBOX (cutbox-door.mjs). By AI agents, Wed Nov 11 2026. No macro, syntax, notation, axiom, sorry.
-/
import Derived.Test.YtfmhhjimnhfbaaaDoorRows
import GoSem.ClaimSeven
namespace Go.Proofs.YtfmhhjimnhfbaaaDoor
namespace Rows

/-- THE TIED CARD OF 'tmesislaw05.LayoutAll'. -/
def layoutAllCard : Claim7 := { stood := { row := layoutAllRow, standIns := [], harness := (true, "e984ecaf894b82aa360f0ab50f19d5d17dadf3f8437ed0d84f5a998e15e61318"), looks := false }, kinds := [], alts := [], laidByText := true, laidKinds := [.data], laidTests := true, laidLooks := .later }
def LayoutAllCardSaid : Prop := Claim7.holds Tryd.pinned (.plain (OpenSpec.ofChange layoutAllSpec)) layoutAllCard

/-- THE TIED CARD OF 'tmesislaw05.LayoutEnds'. -/
def layoutEndsCard : Claim7 := { stood := { row := layoutEndsRow, standIns := [], harness := (true, "e984ecaf894b82aa360f0ab50f19d5d17dadf3f8437ed0d84f5a998e15e61318"), looks := false }, kinds := [], alts := [], laidByText := true, laidKinds := [.data], laidTests := true, laidLooks := .later }
def LayoutEndsCardSaid : Prop := Claim7.holds Tryd.pinned (.plain (OpenSpec.ofChange layoutEndsSpec)) layoutEndsCard

/-- THE TIED CARD OF 'tmesislaw05.LayoutComments'. -/
def layoutCommentsCard : Claim7 := { stood := { row := layoutCommentsRow, standIns := [], harness := (true, "e984ecaf894b82aa360f0ab50f19d5d17dadf3f8437ed0d84f5a998e15e61318"), looks := false }, kinds := [], alts := [], laidByText := true, laidKinds := [.data], laidTests := true, laidLooks := .later }
def LayoutCommentsCardSaid : Prop := Claim7.holds Tryd.pinned (.plain (OpenSpec.ofChange layoutCommentsSpec)) layoutCommentsCard

/-- THE TIED CARD OF 'tmesislaw05.LayoutLines'. -/
def layoutLinesCard : Claim7 := { stood := { row := layoutLinesRow, standIns := [], harness := (true, "e984ecaf894b82aa360f0ab50f19d5d17dadf3f8437ed0d84f5a998e15e61318"), looks := false }, kinds := [], alts := [], laidByText := true, laidKinds := [.data], laidTests := true, laidLooks := .later }
def LayoutLinesCardSaid : Prop := Claim7.holds Tryd.pinned (.plain (OpenSpec.ofChange layoutLinesSpec)) layoutLinesCard

/-- THE SECOND FORM's CARD OF 'tmesislaw05.LayoutAll'. -/
def layoutAllUptoCard : Claim7 := { stood := { row := layoutAllUptoRow, standIns := [], harness := (true, "e984ecaf894b82aa360f0ab50f19d5d17dadf3f8437ed0d84f5a998e15e61318"), looks := false }, kinds := [], alts := [], laidByText := true, laidKinds := [.data], laidTests := true, laidLooks := .later }
def LayoutAllUptoCardSaid : Prop := Claim7.holds Tryd.pinned (.plain (OpenSpec.upto layoutAllSpec)) layoutAllUptoCard

/-- THE SECOND FORM's CARD OF 'tmesislaw05.LayoutEnds'. -/
def layoutEndsUptoCard : Claim7 := { stood := { row := layoutEndsUptoRow, standIns := [], harness := (true, "e984ecaf894b82aa360f0ab50f19d5d17dadf3f8437ed0d84f5a998e15e61318"), looks := false }, kinds := [], alts := [], laidByText := true, laidKinds := [.data], laidTests := true, laidLooks := .later }
def LayoutEndsUptoCardSaid : Prop := Claim7.holds Tryd.pinned (.plain (OpenSpec.upto layoutEndsSpec)) layoutEndsUptoCard

/-- THE SECOND FORM's CARD OF 'tmesislaw05.LayoutComments'. -/
def layoutCommentsUptoCard : Claim7 := { stood := { row := layoutCommentsUptoRow, standIns := [], harness := (true, "e984ecaf894b82aa360f0ab50f19d5d17dadf3f8437ed0d84f5a998e15e61318"), looks := false }, kinds := [], alts := [], laidByText := true, laidKinds := [.data], laidTests := true, laidLooks := .later }
def LayoutCommentsUptoCardSaid : Prop := Claim7.holds Tryd.pinned (.plain (OpenSpec.upto layoutCommentsSpec)) layoutCommentsUptoCard

/-- THE SECOND FORM's CARD OF 'tmesislaw05.LayoutLines'. -/
def layoutLinesUptoCard : Claim7 := { stood := { row := layoutLinesUptoRow, standIns := [], harness := (true, "e984ecaf894b82aa360f0ab50f19d5d17dadf3f8437ed0d84f5a998e15e61318"), looks := false }, kinds := [], alts := [], laidByText := true, laidKinds := [.data], laidTests := true, laidLooks := .later }
def LayoutLinesUptoCardSaid : Prop := Claim7.holds Tryd.pinned (.plain (OpenSpec.upto layoutLinesSpec)) layoutLinesUptoCard
end Rows
end Go.Proofs.YtfmhhjimnhfbaaaDoor
