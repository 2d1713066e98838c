/- A number that was put is taken, with noughts ahead of it, and whatever stands behind it that is no digit. No conditions. -/
import Derived.Test.YtapgcagnmlfdiaaDoorDigitsSh
import Derived.Test.YtapgcagnmlfdiaaDoorPx6
namespace Go.Proofs.YtapgcagnmlfdiaaDoor.Pure
set_option linter.unusedSimpArgs false
set_option linter.unusedVariables false
open Go.RowKit Go.Proofs.YtapgcagnmlfdiaaDoor.P Go.Proofs.YtapgcagnmlfdiaaDoorW.PrintWords Go.Proofs.YtapgcagnmlfdiaaDoorW.PrintLast Go.Proofs.YtapgcagnmlfdiaaDoorW.PrintMore
theorem numS_noughts (j : Nat) (l : List Int) : numS 0 (List.replicate j 48 ++ l) = numS 0 l := by
  induction j with
  | zero => rfl
  | succ j ih =>
    rw [List.replicate_succ, List.cons_append, numS_cons, if_neg (by omega)]
    exact ih
theorem back_take (x j : Nat) (c : Int) (hx : x ≤ 2147483647) (hc : 0 ≤ c ∧ c < 256) (hn : ¬ (48 ≤ c ∧ c ≤ 57)) : takeD ((List.replicate j 48 ++ putD x) ++ [c]) = ((x : Int), ((j + (putD x).length : Nat) : Int), (0 : Int)) := by
  have hd : Digs (List.replicate j 48 ++ putD x) := by
    refine Digs.append ?_ (putD_digs x)
    intro y hy
    have := List.eq_of_mem_replicate hy
    omega
  have h4 : classOf c ≠ 4 := fun h => hn ((digit_iff hc).1 h)
  rw [takeD_digs hd [c] (by rw [runS_cons, if_neg h4])]
  have hp := putD_len x hx
  rw [if_neg (by intro e; have h7 := congrArg List.length e; rw [List.length_append, List.length_nil] at h7; omega), numS_noughts, putD_num x hx]
  simp [resD]
theorem back_loop (a1 c : Int) (x j : Nat) (hx : x ≤ 2147483647) (hj : Int.tmod (wrap64 a1) 16 = (j : Int)) (hj2 : j < 16) (hc : 0 ≤ c ∧ c < 256) (hn : ¬ (48 ≤ c ∧ c ≤ 57)) (d : Nat) : ∀ i : Nat, d + i = j →
    Ev (fun k => tmesislaw03_DigitsBack.l0 k a1 c true (x : Int) (putD x) 0 (List.replicate i 48 ++ List.replicate (j - i) 0 ++ putD x) (i : Int)) true := by
  have hp := putD_len x hx
  induction d with
  | zero =>
    intro i hi
    have hij : i = j := by omega
    subst hij
    rw [Nat.sub_self, List.replicate_zero, List.append_nil]
    refine Ev.step (fun k => tmesislaw03_DigitsBack.l0.eq_2 ..) (ev_else (by rw [hj]; omega) (ev_if (by simp; omega) ?_))
    have hb : Bytes ((List.replicate i 48 ++ putD x) ++ [c]) := by
      intro y hy
      rcases List.mem_append.1 hy with h | h
      · rcases List.mem_append.1 h with h | h
        · have := List.eq_of_mem_replicate h; omega
        · have := putD_digs x y h; omega
      · rw [List.mem_singleton] at h; rw [h]; exact hc
    refine Ev.bind (dtake_ev _ hb (by simp; omega)) ?_
    rw [back_take x i c hx hc hn, hj]
    have fin : Ev (fun _ => if (x : Int) = (x : Int) then (if ((i + (putD x).length : Nat) : Int) = wrap64 ((i : Int) + ((putD x).length : Int)) then some ((0 : Int) == 0) else some false) else some false) true := by
      refine ev_if rfl (ev_if ?_ (ev_now rfl))
      rw [w64 (by omega) (by omega)]; omega
    refine ev_if rfl (ev_if rfl (ev_if (by omega) (ev_if (by omega) ?_)))
    by_cases h1 : ((putD x).length : Int) = 1
    · exact ev_if h1 fin
    · refine ev_else h1 (ev_if (by omega) ?_)
      rcases putD_head x with h | ⟨e, r, he, hne⟩
      · exact absurd (by omega) h1
      · have : rd (putD x) 0 = e := by rw [he]; rfl
        rw [this]
        exact ev_else hne fin
  | succ d ih =>
    intro i hi
    refine Ev.step (fun k => tmesislaw03_DigitsBack.l0.eq_2 ..) (ev_if (by rw [hj]; omega) (ev_if (by omega) (ev_if (by simp; omega) ?_)))
    have e : (List.replicate i 48 ++ List.replicate (j - i) 0 ++ putD x).set ((i : Int)).toNat 48 = List.replicate (i + 1) 48 ++ List.replicate (j - (i + 1)) 0 ++ putD x := by
      rw [show ((i : Int)).toNat = i from rfl, show j - i = (j - (i + 1)) + 1 by omega, List.replicate_succ, List.append_assoc, List.set_append_right _ _ (by simp)]
      have : i - (List.replicate i (48 : Int)).length = 0 := by simp
      rw [this, List.cons_append, List.set_cons_zero, List.replicate_succ', List.append_assoc, List.append_assoc]
      rfl
    rw [e, show wrap64 ((i : Int) + 1) = ((i + 1 : Nat) : Int) by rw [w64 (by omega) (by omega)]; omega]
    exact ih (i + 1) (by omega)
theorem back_j1 (a1 c : Int) (x : Nat) (ha : 0 ≤ a1 ∧ a1 < 256) (hx : x ≤ 2147483647) (hc : 0 ≤ c ∧ c < 256) (hn : ¬ (48 ≤ c ∧ c ≤ 57)) : Ev (fun k => tmesislaw03_DigitsBack.j1 k a1 c true (x : Int) (putD x) 0) true := by
  have hp := putD_len x hx
  obtain ⟨j, hj⟩ : ∃ j : Nat, Int.tmod (wrap64 a1) 16 = (j : Int) := ⟨(a1 % 16).toNat, by rw [w64 (by omega) (by omega), Int.tmod_eq_emod_of_nonneg ha.1]; omega⟩
  have hj2 : j < 16 := by rw [w64 (by omega) (by omega), Int.tmod_eq_emod_of_nonneg ha.1] at hj; omega
  refine Ev.step (fun k => tmesislaw03_DigitsBack.j1.eq_2 ..) ?_
  have lp := back_loop a1 c x j hx hj hj2 hc hn j 0 (by omega)
  refine ev_if (by rw [hj]; omega) (ev_if (by rw [hj]; omega) (ev_let ?_))
  rw [hj]
  refine ev_if (by simp; omega) ?_
  simpa using lp
theorem DigitsBack : tmesislaw03_DigitsBack.Pure := by
  intro a0 a1 a2 _ h1 h2
  have h1 := u8_wf h1
  have h2 := u8_wf h2
  apply Ev.rounds
  unfold tmesislaw03_DigitsBack.f
  rw [and_max]
  obtain ⟨x, hx⟩ : ∃ x : Nat, wrap64 a0 % 2147483648 = (x : Int) := ⟨(wrap64 a0 % 2147483648).toNat, by omega⟩
  rw [hx]
  have bx : x ≤ 2147483647 := by omega
  refine Ev.bind shown_ev (Ev.bind (put_ev x bx) ?_)
  by_cases h : a2 ≥ 48
  · refine ev_if h (Ev.step (fun k => tmesislaw03_DigitsBack.j0.eq_2 ..) ?_)
    by_cases h3 : a2 ≤ 57
    · exact ev_if (decide_eq_true h3) (back_j1 a1 120 x h1 bx (by omega) (by omega))
    · exact ev_else (by rw [decide_eq_false h3]; simp) (back_j1 a1 a2 x h1 bx h2 (by omega))
  · exact ev_else h (Ev.step (fun k => tmesislaw03_DigitsBack.j0.eq_2 ..) (ev_else (by simp) (back_j1 a1 a2 x h1 bx h2 (by omega))))
end Go.Proofs.YtapgcagnmlfdiaaDoor.Pure
