/- What the statements on layout share. -/
import Derived.Test.YtfmhhjimnhfbaaaDoorLayout
import Derived.Test.YtfmhhjimnhfbaaaDoorPx3
namespace Go.Proofs.YtfmhhjimnhfbaaaDoor.P
set_option linter.unusedSimpArgs false
set_option linter.unusedVariables false
open Go.RowKit Go.Proofs.YtfmhhjimnhfbaaaDoor.P Go.Proofs.YtfmhhjimnhfbaaaDoorW.PrintWords Go.Proofs.YtfmhhjimnhfbaaaDoorW.PrintLast Go.Proofs.YtfmhhjimnhfbaaaDoorW.PrintMore
theorem shown_ev : Ev (fun k => tmesislaw05_shown.f k) true := Ev.of (fun k => tmesislaw05_shown.mono k) (k := 20) (by decide +kernel)
theorem few_eq (l : List Int) : tmesislaw05_few.f l = some (l.take 150) := by
  unfold tmesislaw05_few.f
  have h1 : 0 ≤ mn (l.length : Int) 150 := by unfold mn; split <;> omega
  have h2 : mn (l.length : Int) 150 ≤ (l.length : Int) := by unfold mn; split <;> omega
  rw [if_pos h1, if_pos h2, mn_le _ _ (by omega)]
  congr 1
  rw [Nat.min_comm, ← List.take_take, List.take_length]
  rfl
theorem skipS_le (N : Nat) : ∀ l : List Int, l.length < N → (skipS l).1 ≤ l.length := by
  induction N with
  | zero => intro l h; omega
  | succ N ih =>
    intro l h
    have hs := stepS_le l
    by_cases h0 : (stepS l).1 = 0
    · rw [skipS_stop h0]; exact hs
    · have e := skipS_go h0
      have := ih (l.drop (stepS l).1) (by rw [List.length_drop]; omega)
      rw [List.length_drop] at this
      have e1 := congrArg Prod.fst e
      simp only at e1
      omega
/-- behind what is skipped nothing more is -/
theorem skipS_end (N : Nat) : ∀ l : List Int, l.length < N → stepS (l.drop (skipS l).1) = (0, (skipS l).2) := by
  induction N with
  | zero => intro l h; omega
  | succ N ih =>
    intro l h
    have hs := stepS_le l
    by_cases h0 : (stepS l).1 = 0
    · rw [skipS_stop h0, h0, List.drop_zero, ← h0]
    · have e := skipS_go h0
      have := ih (l.drop (stepS l).1) (by rw [List.length_drop]; omega)
      have e1 := congrArg Prod.fst e
      have e2 := congrArg Prod.snd e
      simp only at e1 e2
      rw [e1, e2, ← List.drop_drop]
      exact this
end Go.Proofs.YtfmhhjimnhfbaaaDoor.P
