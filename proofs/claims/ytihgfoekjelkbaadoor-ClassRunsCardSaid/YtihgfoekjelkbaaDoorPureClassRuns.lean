/- A run is all of one class, as long as it goes, and ends with the bytes, or ahead of another class. No conditions. -/
import Derived.Test.YtihgfoekjelkbaaDoorClassSh
import Derived.Test.YtihgfoekjelkbaaDoorPx2
namespace Go.Proofs.YtihgfoekjelkbaaDoor.Pure
set_option linter.unusedSimpArgs false
set_option linter.unusedVariables false
open Go.RowKit Go.Proofs.YtihgfoekjelkbaaDoor.P Go.Proofs.YtihgfoekjelkbaaDoorW.PrintWords Go.Proofs.YtihgfoekjelkbaaDoorW.PrintLast
theorem runS_ends (l : List Int) (cl : Int) : ∀ h : runS l cl < l.length, classOf l[runS l cl] ≠ cl := by
  induction l with
  | nil => intro h; simp at h
  | cons c l ih =>
    intro h
    by_cases hc : classOf c = cl
    · have e : runS (c :: l) cl = runS l cl + 1 := by rw [runS_cons, if_pos hc]
      have h2 : runS l cl < l.length := by rw [e] at h; simpa using h
      have := ih h2
      simp only [e]
      simpa using this
    · have e : runS (c :: l) cl = 0 := by rw [runS_cons, if_neg hc]
      simp only [e]
      simpa using hc
theorem runS_in (l : List Int) (cl : Int) : ∀ (i : Nat) (h : i < l.length), i < runS l cl → classOf l[i] = cl := by
  induction l with
  | nil => intro i h; simp at h
  | cons c l ih =>
    intro i h hi
    rw [runS_cons] at hi
    by_cases hc : classOf c = cl
    · rw [if_pos hc] at hi
      cases i with
      | zero => simpa using hc
      | succ i => simpa using ih i (by simpa using h) (by omega)
    · rw [if_neg hc] at hi; omega
theorem runS_take (l : List Int) (cl : Int) : runS (l.take (runS l cl)) cl = runS l cl := by
  induction l with
  | nil => rfl
  | cons c l ih =>
    rw [runS_cons]
    by_cases hc : classOf c = cl
    · rw [if_pos hc, List.take_succ_cons, runS_cons, if_pos hc, ih]
    · rw [if_neg hc]; rfl
theorem runS_drop (l : List Int) (cl : Int) : runS (l.drop (runS l cl)) cl = 0 := by
  induction l with
  | nil => rfl
  | cons c l ih =>
    rw [runS_cons]
    by_cases hc : classOf c = cl
    · rw [if_pos hc, List.drop_succ_cons, ih]
    · rw [if_neg hc, List.drop_zero, runS_cons, if_neg hc]
theorem runs_loop (l : List Int) (cl : Int) (hl : l.length ≤ 200) (d : Nat) : ∀ i : Nat, d + i = runS l cl →
    Ev (fun k => tmesislaw02_ClassRuns.l0 k l cl (runS l cl : Int) (i : Int)) true := by
  have hle := runS_le l cl
  induction d with
  | zero =>
    intro i hi
    refine Ev.step (fun k => tmesislaw02_ClassRuns.l0.eq_2 ..) (ev_else (by omega) (ev_if (by omega) (ev_if (by omega) ?_)))
    have e : ((runS l cl : Int)).toNat = runS l cl := rfl
    rw [e]
    refine Ev.bind (run_ev _ _ (by rw [List.length_take]; omega)) (ev_if (by rw [runS_take]) ?_)
    exact Ev.bind (run_ev _ _ (by rw [List.length_drop]; omega)) (ev_now (by rw [runS_drop]; rfl))
  | succ d ih =>
    intro i hi
    have hlt : i < l.length := by omega
    refine Ev.step (fun k => tmesislaw02_ClassRuns.l0.eq_2 ..) (ev_if (by omega) (ev_if (by omega) (ev_if (by omega) ?_)))
    rw [rd_at l i hlt, class_of, runS_in l cl i hlt (by omega)]
    refine ev_let (ev_if rfl ?_)
    rw [show wrap64 ((i : Int) + 1) = ((i + 1 : Nat) : Int) by rw [w64 (by omega) (by omega)]; omega]
    exact ih (i + 1) (by omega)
theorem ClassRuns : tmesislaw02_ClassRuns.Pure := by
  intro l n _ _ _ hn
  apply Ev.rounds
  unfold tmesislaw02_ClassRuns.f
  have hl : (l.take 200).length ≤ 200 := by rw [List.length_take]; omega
  refine Ev.bind shown_ev (ev_same (few_eq l) ?_)
  generalize l.take 200 = m at hl ⊢
  generalize wrap64 (Int.tmod n 10) = cl
  refine Ev.bind (run_ev m cl (by omega)) (ev_if rfl (ev_else (by omega) ?_))
  have hle := runS_le m cl
  have lp := runs_loop m cl hl (runS m cl) 0 (by omega)
  refine ev_else (by omega) ?_
  by_cases h : runS m cl < m.length
  · refine ev_if (by omega) (ev_if (by omega) ?_)
    rw [rd_at m _ h, class_of]
    refine ev_let (Ev.step (fun k => tmesislaw02_ClassRuns.j0.eq_2 ..) (ev_else ?_ lp))
    rw [beq_iff_eq]
    exact runS_ends m cl h
  · exact ev_else (by omega) (Ev.step (fun k => tmesislaw02_ClassRuns.j0.eq_2 ..) (ev_else (by simp) lp))
end Go.Proofs.YtihgfoekjelkbaaDoor.Pure
