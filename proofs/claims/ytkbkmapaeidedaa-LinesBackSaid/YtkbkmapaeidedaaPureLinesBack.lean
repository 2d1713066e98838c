/- Each place has a line and column, and these that place. No conditions. -/
import Derived.Test.YtkbkmapaeidedaaLines
import Derived.Test.YtkbkmapaeidedaaPx4
namespace Go.Proofs.Ytkbkmapaeidedaa.Pure
set_option linter.unusedSimpArgs false
set_option linter.unusedVariables false
open Go.RowKit Go.Proofs.Ytkbkmapaeidedaa.P Go.Proofs.YtkbkmapaeidedaaW.PrintWords Go.Proofs.YtkbkmapaeidedaaW.PrintLast Go.Proofs.YtkbkmapaeidedaaW.PrintMore
theorem back_end (l : List Int) (hl : Bytes l) (hn : l.length ≤ 1000000) : Ev (fun k => tmesislaw09_LinesBack.l0 k true l (nls l : Int) (colS l : Int) ((l.length + 1 : Nat) : Int)) true := by
  have h1 := nls_le l
  have h2 := colS_le l
  refine Ev.step (fun k => tmesislaw09_LinesBack.l0.eq_2 ..) (ev_else (by omega) ?_)
  rw [w64 (i := (colS l : Int) + 1) (by omega) (by omega), w64 (by omega) (by omega)]
  have n1 : ∀ p, ¬ IsAt l p (nls l : Int) ((colS l : Int) + 1) := by
    rintro p ⟨p1, p2, p3⟩
    have e : nls l = nls (l.take p) + nls (l.drop p) := by rw [← nls_append, List.take_append_drop]
    have e2 : colS l = colS (l.take p ++ l.drop p) := by rw [List.take_append_drop]
    rw [colS_append, if_pos (by omega)] at e2
    omega
  have n2 : ∀ p, ¬ IsAt l p ((nls l : Int) + 1) 0 := fun p hp => by have := isAt_some hp; omega
  have n3 : ∀ p, ¬ IsAt l p (-1) 0 := fun p hp => by have := isAt_some hp; omega
  refine Ev.bind (offset_none l hl hn n1) (Ev.bind (offset_none l hl hn n2) (Ev.bind (offset_none l hl hn n3) (ev_if rfl (Ev.bind (count_ev l hl hn) ?_))))
  exact ev_if (by omega) (ev_if rfl (ev_if rfl (ev_now rfl)))
theorem back_loop (l : List Int) (hl : Bytes l) (hn : l.length ≤ 1000000) (d : Nat) : ∀ p : Nat, d + (p + 1) = l.length + 1 → Ev (fun k => tmesislaw09_LinesBack.l0 k true l (nls (l.take p) : Int) (colS (l.take p) : Int) ((p + 1 : Nat) : Int)) true := by
  induction d with
  | zero =>
    intro p hp
    obtain rfl : p = l.length := by omega
    have := back_end l hl hn
    rw [List.take_length]
    exact this
  | succ d ih =>
    intro p hp
    have hlt : p < l.length := by omega
    have h1 := nls_le (l.take p)
    have h2 := colS_le (l.take p)
    rw [List.length_take] at h1 h2
    have hat : IsAt l (p + 1) (nls (l.take (p + 1)) : Int) (colS (l.take (p + 1)) : Int) := ⟨by omega, rfl, rfl⟩
    refine Ev.step (fun k => tmesislaw09_LinesBack.l0.eq_2 ..) (ev_if (by omega) (Ev.bind (place_ev l hl hn (p + 1) (by omega)) (Ev.bind (offset_at l hl hn hat) (ev_if rfl (ev_if rfl (ev_if rfl ?_))))))
    simp only
    have next := ih (p + 1) (by omega)
    have hs := take_snoc l p hlt
    have hnl : nls (l.take (p + 1)) = if l[p] = 10 then nls (l.take p) + 1 else nls (l.take p) := by rw [hs, nls_snoc]
    have hcl : colS (l.take (p + 1)) = if l[p] = 10 then 0 else colS (l.take p) + 1 := by rw [hs, colS_snoc]
    rw [w64 (i := ((p + 1 : Nat) : Int) + 1) (by omega) (by omega), w64 (i := ((p + 1 : Nat) : Int) - 1) (by omega) (by omega), w64 (i := (nls (l.take p) : Int) + 1) (by omega) (by omega), w64 (i := (colS (l.take p) : Int) + 1) (by omega) (by omega)]
    rw [show ((p + 1 : Nat) : Int) + 1 = ((p + 1 + 1 : Nat) : Int) by omega, show ((p + 1 : Nat) : Int) - 1 = (p : Int) by omega]
    by_cases hc : l[p] = 10
    · rw [if_pos hc] at hnl hcl
      refine ev_else (by omega) (ev_if (by omega) (ev_if (by omega) (ev_else (by omega) (ev_if (by omega) (ev_if (by omega) ?_)))))
      rw [rd_at l p hlt]
      exact ev_if hc next
    · rw [if_neg hc] at hnl hcl
      exact ev_if (by omega) (ev_if (by omega) next)
theorem LinesBack : tmesislaw09_LinesBack.Pure := by
  intro l0 hmax hmax2 hw
  have hl0 : Bytes l0 := bytes_wf hw
  apply Ev.rounds
  unfold tmesislaw09_LinesBack.f
  refine Ev.bind shown_ev (ev_same (few_eq l0) ?_)
  have hb : Bytes (l0.take 120) := hl0.take _
  have hn : (l0.take 120).length ≤ 1000000 := by rw [List.length_take]; omega
  generalize l0.take 120 = t at hb hn
  clear hmax hmax2 hw hl0
  have hat : IsAt t 0 0 0 := ⟨by omega, rfl, rfl⟩
  have hp := place_ev t hb hn 0 (by omega)
  refine Ev.step (fun k => tmesislaw09_LinesBack.l0.eq_2 ..) (ev_if (by omega) (Ev.bind hp (Ev.bind (offset_at t hb hn hat) (ev_if rfl (ev_if rfl (ev_if rfl (ev_if rfl (ev_if ?_ ?_))))))))
  · rw [w64 (by omega) (by omega)]; rfl
  · rw [w64 (by omega) (by omega)]
    exact back_loop t hb hn t.length 0 (by omega)
end Go.Proofs.Ytkbkmapaeidedaa.Pure
