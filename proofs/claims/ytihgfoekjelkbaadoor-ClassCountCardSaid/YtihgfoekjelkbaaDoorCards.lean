/-
  DERIVED. GIVEN WITH THE SEED: THE CARDS: each row of YtihgfoekjelkbaaDoorRows.lean that lists a variable, with what it lists TIED to the program's text (the seventh form; the later family's looks); each row that meets fmt, with fmt's text TOLD by the authors' own Lean function (tested against real Go, not proved from fmt's source: count such statements apart). THE CARD IS WHAT COUNTS. Prove the row's statement (the work); the ties are given (YtihgfoekjelkbaaDoorTie.lean); close each card by the builder's one call (the guide's Derived/Test/ToyasCard.lean, 'card_holds'). Laid BY PROGRAM, IN A SANDBOX (cutbox-door.mjs). By AI agents, Wed Nov 11 2026. No macro, syntax, notation, axiom, sorry.
-/
import Derived.Test.YtihgfoekjelkbaaDoorRows
import GoSem.ClaimSeven
namespace Go.Proofs.YtihgfoekjelkbaaDoor
namespace Rows

/-- THE TIED CARD OF 'tmesislaw02.ClassAll'. -/
def classAllCard : Claim7 := { stood := { row := classAllRow, standIns := [], harness := (true, "807b7bc908dc26e20a0cf064a1efcc28491e9713f197495f25042ffea76eebd9"), looks := false }, kinds := [], alts := [], laidByText := true, laidKinds := [.data], laidTests := true, laidLooks := .later }
def ClassAllCardSaid : Prop := Claim7.holds Tryd.pinned (.plain (OpenSpec.ofChange classAllSpec)) classAllCard

/-- THE TIED CARD OF 'tmesislaw02.ClassRuns'. -/
def classRunsCard : Claim7 := { stood := { row := classRunsRow, standIns := [], harness := (true, "807b7bc908dc26e20a0cf064a1efcc28491e9713f197495f25042ffea76eebd9"), looks := false }, kinds := [], alts := [], laidByText := true, laidKinds := [.data], laidTests := true, laidLooks := .later }
def ClassRunsCardSaid : Prop := Claim7.holds Tryd.pinned (.plain (OpenSpec.ofChange classRunsSpec)) classRunsCard

/-- THE TIED CARD OF 'tmesislaw02.ClassNames'. -/
def classNamesCard : Claim7 := { stood := { row := classNamesRow, standIns := [], harness := (true, "807b7bc908dc26e20a0cf064a1efcc28491e9713f197495f25042ffea76eebd9"), looks := false }, kinds := [], alts := [], laidByText := true, laidKinds := [.data], laidTests := true, laidLooks := .later }
def ClassNamesCardSaid : Prop := Claim7.holds Tryd.pinned (.plain (OpenSpec.ofChange classNamesSpec)) classNamesCard

/-- THE TIED CARD OF 'tmesislaw02.ClassCount'. -/
def classCountCard : Claim7 := { stood := { row := classCountRow, standIns := [], harness := (true, "807b7bc908dc26e20a0cf064a1efcc28491e9713f197495f25042ffea76eebd9"), looks := false }, kinds := [], alts := [], laidByText := true, laidKinds := [.data], laidTests := true, laidLooks := .later }
def ClassCountCardSaid : Prop := Claim7.holds Tryd.pinned (.plain (OpenSpec.ofChange classCountSpec)) classCountCard

/-- THE SECOND FORM's CARD OF 'tmesislaw02.ClassAll'. -/
def classAllUptoCard : Claim7 := { stood := { row := classAllUptoRow, standIns := [], harness := (true, "807b7bc908dc26e20a0cf064a1efcc28491e9713f197495f25042ffea76eebd9"), looks := false }, kinds := [], alts := [], laidByText := true, laidKinds := [.data], laidTests := true, laidLooks := .later }
def ClassAllUptoCardSaid : Prop := Claim7.holds Tryd.pinned (.plain (OpenSpec.upto classAllSpec)) classAllUptoCard

/-- THE SECOND FORM's CARD OF 'tmesislaw02.ClassRuns'. -/
def classRunsUptoCard : Claim7 := { stood := { row := classRunsUptoRow, standIns := [], harness := (true, "807b7bc908dc26e20a0cf064a1efcc28491e9713f197495f25042ffea76eebd9"), looks := false }, kinds := [], alts := [], laidByText := true, laidKinds := [.data], laidTests := true, laidLooks := .later }
def ClassRunsUptoCardSaid : Prop := Claim7.holds Tryd.pinned (.plain (OpenSpec.upto classRunsSpec)) classRunsUptoCard

/-- THE SECOND FORM's CARD OF 'tmesislaw02.ClassNames'. -/
def classNamesUptoCard : Claim7 := { stood := { row := classNamesUptoRow, standIns := [], harness := (true, "807b7bc908dc26e20a0cf064a1efcc28491e9713f197495f25042ffea76eebd9"), looks := false }, kinds := [], alts := [], laidByText := true, laidKinds := [.data], laidTests := true, laidLooks := .later }
def ClassNamesUptoCardSaid : Prop := Claim7.holds Tryd.pinned (.plain (OpenSpec.upto classNamesSpec)) classNamesUptoCard

/-- THE SECOND FORM's CARD OF 'tmesislaw02.ClassCount'. -/
def classCountUptoCard : Claim7 := { stood := { row := classCountUptoRow, standIns := [], harness := (true, "807b7bc908dc26e20a0cf064a1efcc28491e9713f197495f25042ffea76eebd9"), looks := false }, kinds := [], alts := [], laidByText := true, laidKinds := [.data], laidTests := true, laidLooks := .later }
def ClassCountUptoCardSaid : Prop := Claim7.holds Tryd.pinned (.plain (OpenSpec.upto classCountSpec)) classCountUptoCard
end Rows
end Go.Proofs.YtihgfoekjelkbaaDoor
