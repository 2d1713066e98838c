/- Sequences behind sequences are sequences, as many as both have; with a byte FF or C3 behind them they are none. No conditions. -/
import Derived.Test.YtcemcdjpihokoaaUtfEach
import Derived.Test.YtcemcdjpihokoaaPx4
namespace Go.Proofs.Ytcemcdjpihokoaa.Pure
open Go.RowKit Go.Proofs.Ytcemcdjpihokoaa.P Go.Proofs.YtcemcdjpihokoaaW.PrintWords Go.Proofs.YtcemcdjpihokoaaW.PrintLast

theorem restOk_append (n : Nat) : ∀ (lo hi : Int) (r s : List Int), restOk n lo hi r = true → restOk n lo hi (r ++ s) = true := by
  induction n with
  | zero => intro _ _ r s _; rfl
  | succ n ih =>
    intro lo hi r s h
    cases r with
    | nil => cases h
    | cons a t =>
      rw [restOk_cons, Bool.and_eq_true] at h
      rw [List.cons_append, restOk_cons, h.1, ih _ _ t s h.2]; rfl
theorem takeS_append {l : List Int} (s : List Int) (h : (takeS l).2 = true) : takeS (l ++ s) = takeS l := by
  cases l with
  | nil => cases h
  | cons c r =>
    rw [takeS_cons] at h
    rw [List.cons_append, takeS_cons, takeS_cons]
    by_cases h0 : uLong c = 0
    · rw [if_pos h0] at h; cases h
    · rw [if_neg h0] at h
      by_cases h1 : restOk (uLong c - 1) (uLo c) (uHi c) r = true
      · rw [if_neg h0, if_neg h0, if_pos h1, restOk_append _ _ _ _ s h1]; rfl
      · rw [if_neg h1] at h; cases h
theorem each_append (l s : List Int) (h : (eachS l).2 = true) : eachS (l ++ s) = ((eachS l).1 + (eachS s).1, (eachS s).2) := by
  by_cases hl : l = []
  · subst hl; rw [eachS_nil]; simp
  · rw [eachS_cons hl, Bool.and_eq_true] at h
    have ht := takeS_append s h.1
    have hp := take_prop hl
    have hc : cutS (l ++ s) = cutS l ++ s := by
      unfold cutS
      rw [ht, List.drop_append_of_le_length (by omega)]
    have hlt := cutS_lt hl
    rw [eachS_cons (by simp [hl]), hc, each_append (cutS l) s h.2, ht, eachS_cons hl, h.1]
    simp; omega
termination_by l.length
theorem each_bad (l : List Int) (c : Int) (hc : 192 ≤ c) : (eachS (l ++ [c])).2 = false := by
  by_cases h : l = []
  · subst h
    have e : (takeS [c]).2 = false := by
      rw [takeS_cons]
      by_cases h0 : uLong c = 0
      · rw [if_pos h0]
      · rw [if_neg h0, restOk_short]
        · rfl
        · unfold uLong at h0 ⊢
          rw [if_neg (by omega)] at h0 ⊢
          by_cases h2 : c < 194 ∨ c > 244
          · rw [if_pos h2] at h0; exact absurd rfl h0
          · rw [if_neg h2]; simp only [List.length_nil]; repeat' split
            all_goals omega
    rw [List.nil_append, eachS_cons (by simp), e]; rfl
  · by_cases ht : (takeS l).2 = true
    · have hta := takeS_append [c] ht
      have hp := take_prop h
      have hcut : cutS (l ++ [c]) = cutS l ++ [c] := by
        unfold cutS
        rw [hta, List.drop_append_of_le_length (by omega)]
      have hlt := cutS_lt h
      rw [eachS_cons (by simp), hcut, each_bad (cutS l) c hc]
      simp
    · -- the first is no sequence: what stands behind it makes it one, or not
      have hne : l ++ [c] ≠ [] := by simp
      by_cases ht2 : (takeS (l ++ [c])).2 = true
      · exfalso
        cases l with
        | nil => exact h rfl
        | cons d r =>
          rw [List.cons_append, takeS_cons] at ht2
          rw [takeS_cons] at ht
          by_cases h0 : uLong d = 0
          · rw [if_pos h0] at ht2; cases ht2
          · rw [if_neg h0] at ht ht2
            have key : ∀ (n : Nat) (lo hi : Int) (r : List Int), hi ≤ 191 → restOk n lo hi (r ++ [c]) = true → restOk n lo hi r = true := by
              intro n
              induction n with
              | zero => intro _ _ _ _ _; rfl
              | succ n ih =>
                intro lo hi r hhi hr
                cases r with
                | nil =>
                  rw [List.nil_append, restOk_cons, Bool.and_eq_true] at hr
                  have := of_decide_eq_true hr.1
                  omega
                | cons a t =>
                  rw [List.cons_append, restOk_cons, Bool.and_eq_true] at hr
                  rw [restOk_cons, hr.1, ih _ _ t (by omega) hr.2]; rfl
            have hu : uHi d ≤ 191 := by unfold uHi; repeat' split
                                        all_goals omega
            by_cases h1 : restOk (uLong d - 1) (uLo d) (uHi d) (r ++ [c]) = true
            · rw [if_pos (key _ _ _ _ hu h1)] at ht; exact ht rfl
            · rw [if_neg h1] at ht2; cases ht2
      · rw [eachS_cons hne, Bool.eq_false_iff.2 ht2]; rfl
termination_by l.length

theorem UtfJoins : tmesislaw01_UtfJoins.Pure := by
  intro l0 l1 _ _ _ _ _ _
  apply Ev.rounds
  unfold tmesislaw01_UtfJoins.f
  have hx : (l0.take 200).length ≤ 200 := by rw [List.length_take]; omega
  have hy : (l1.take 200).length ≤ 200 := by rw [List.length_take]; omega
  refine Ev.bind shown_ev (ev_same (few_eq l0) (ev_same (few_eq l1) ?_))
  generalize l0.take 200 = x at hx ⊢
  generalize l1.take 200 = y at hy ⊢
  have v : ∀ m : List Int, m.length ≤ 1000 → Ev (fun k => utf_Valid.f k m) (eachS m).2 := fun m hm => valid_ev m (by omega)
  have c : ∀ m : List Int, m.length ≤ 1000 → Ev (fun k => utf_Count.f k m) ((eachS m).1 : Int) := fun m hm => count_ev m (by omega)
  have bad : ∀ (b : Int), 192 ≤ b → Ev (fun k => utf_Valid.f k (([] ++ x) ++ [b])) false := fun b hb => ev_eq (v _ (by simp; omega)) (each_bad x b hb)
  refine ev_let (ev_if (by simp; omega) (ev_let (ev_if (by simp; omega) (ev_let ?_))))
  refine Ev.bind (v x (by omega)) ?_
  by_cases hv : (eachS x).2 = true
  · have hj := each_append x y hv
    refine ev_if hv (ev_if rfl ?_)
    refine Ev.bind (v _ (by simp; omega)) (Ev.bind (v y (by omega)) (ev_if (by simp [hj]) ?_))
    refine Ev.bind (c _ (by simp; omega)) (Ev.bind (c x (by omega)) (Ev.bind (c y (by omega)) (ev_if ?_ ?_)))
    · have := eachS_le x
      have := eachS_le y
      rw [w64 (by omega) (by omega), List.nil_append, hj]; simp
    · refine ev_let (ev_if (by simp; omega) (ev_let (ev_if (by simp; omega) ?_)))
      refine Ev.bind (bad 255 (by omega)) (ev_else (by simp) ?_)
      refine ev_let (ev_if (by simp; omega) (ev_let (ev_if (by simp; omega) ?_)))
      exact Ev.bind (bad 195 (by omega)) (ev_now rfl)
  · refine ev_else hv (ev_if rfl ?_)
    refine ev_let (ev_if (by simp; omega) (ev_let (ev_if (by simp; omega) ?_)))
    exact Ev.bind (bad 255 (by omega)) (ev_now rfl)
end Go.Proofs.Ytcemcdjpihokoaa.Pure
