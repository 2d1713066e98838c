/- The head of each statement, and the first 200 bytes. -/
import Derived.Test.YtihgfoekjelkbaaDoorClass
import Derived.Test.YtihgfoekjelkbaaDoorPx1
import Derived.Test.YtihgfoekjelkbaaDoorPx2
namespace Go.Proofs.YtihgfoekjelkbaaDoor.Pure
set_option linter.unusedSimpArgs false
set_option linter.unusedVariables false
open Go.RowKit Go.Proofs.YtihgfoekjelkbaaDoor.P Go.Proofs.YtihgfoekjelkbaaDoorW.PrintWords Go.Proofs.YtihgfoekjelkbaaDoorW.PrintLast
theorem shown_ev : Ev (fun k => tmesislaw02_shown.f k) true := Ev.of (fun k => tmesislaw02_shown.mono k) (k := 6) (by decide +kernel)
theorem few_eq (l : List Int) : tmesislaw02_few.f l = some (l.take 200) := by
  unfold tmesislaw02_few.f
  have h1 : 0 ≤ mn (l.length : Int) 200 := by unfold mn; split <;> omega
  have h2 : mn (l.length : Int) 200 ≤ (l.length : Int) := by unfold mn; split <;> omega
  rw [if_pos h1, if_pos h2, mn_le _ _ (by omega)]
  congr 1
  rw [Nat.min_comm, ← List.take_take, List.take_length]
  rfl
end Go.Proofs.YtihgfoekjelkbaaDoor.Pure
