/- There are no more sequences than bytes, as many just if none is longer than a byte; to take them off one by one ends where the bytes do. No conditions. -/
import Derived.Test.YtcemcdjpihokoaaUtfEach
import Derived.Test.YtcemcdjpihokoaaPx5
namespace Go.Proofs.Ytcemcdjpihokoaa.Pure
open Go.RowKit Go.Proofs.Ytcemcdjpihokoaa.P Go.Proofs.YtcemcdjpihokoaaW.PrintWords Go.Proofs.YtcemcdjpihokoaaW.PrintLast

theorem counts_loop (l : List Int) (hl : l.length ≤ 200) (N : Nat) : ∀ (m : List Int) (i n : Nat) (b lg : Bool), m.length < N → m = l.drop i → i ≤ l.length → n ≤ i → (lg = false → n = i) → (lg = true → n < i) →
    (eachS l).1 = n + (eachS m).1 → (eachS l).2 = (b && (eachS m).2) → Ev (fun k => tmesislaw01_UtfCounts.l0 k true l (i : Int) (n : Int) b lg) true := by
  induction N with
  | zero => intro m i n b lg hN; omega
  | succ N ih =>
  intro m i n b lg hN hm hi hn h0 h1 hc hv
  have hml : m.length = l.length - i := by rw [hm]; simp
  refine Ev.step (fun k => tmesislaw01_UtfCounts.l0.eq_2 ..) ?_
  by_cases h : m = []
  · have hil : i = l.length := by rw [h] at hml; simp at hml; omega
    rw [h, eachS_nil] at hc hv
    refine ev_else (by omega) ?_
    refine Ev.step (fun k => tmesislaw01_UtfCounts.j1.eq_2 ..) ?_
    refine ev_else (by simp) (ev_if rfl (ev_if (by omega) ?_))
    refine Ev.bind (count_ev l (by omega)) (ev_if (by rw [hc]; simp) ?_)
    refine Ev.bind (valid_ev l (by omega)) (ev_if (by rw [hv]; simp) (ev_now ?_))
    cases lg with
    | false => have := h0 rfl; subst this; subst hil; simp
    | true =>
      have := h1 rfl
      have e : ((n : Int) == (l.length : Int)) = false := by rw [beq_eq_false_iff_ne]; omega
      rw [e]; rfl
  · have hlt := cutS_lt h
    have hp := take_prop h
    refine ev_if (by omega) ?_
    rw [decide_eq_true (show (n : Int) ≤ 200 by omega)]
    refine Ev.step (fun k => tmesislaw01_UtfCounts.j1.eq_2 ..) ?_
    refine ev_if rfl (ev_if (by omega) (ev_if (by omega) ?_))
    have e : l.drop ((i : Int)).toNat = m := by rw [hm]; rfl
    rw [e]
    refine Ev.bind (take_ev m) ?_
    have hw : wrap64 ((i : Int) + (takeS m).1) = ((i + (takeS m).1.toNat : Nat) : Int) := by rw [w64 (by omega) (by omega)]; omega
    have hw2 : wrap64 ((n : Int) + 1) = ((n + 1 : Nat) : Int) := by rw [w64 (by omega) (by omega)]; omega
    rw [hw, hw2]
    refine ev_else (by omega) (ev_else (by omega) (ev_else (by omega) ?_))
    rw [eachS_fst h] at hc
    rw [eachS_snd h] at hv
    have next : ∀ (b' lg' : Bool), b' = (b && (takeS m).2) → lg' = (lg || decide ((takeS m).1 > 1)) → Ev (fun k => tmesislaw01_UtfCounts.l0 k true l ((i + (takeS m).1.toNat : Nat) : Int) ((n + 1 : Nat) : Int) b' lg') true := by
      intro b' lg' hb' hlg'
      have q1 : 1 ≤ (takeS m).1.toNat := by have := hp.1; clear hc hv h0 h1 hw hw2; omega
      have x0 : (cutS m).length < N := by omega
      have x1 : i + (takeS m).1.toNat ≤ l.length := by omega
      have x2 : n + 1 ≤ i + (takeS m).1.toNat := Nat.add_le_add hn q1
      have x3 : cutS m = l.drop (i + (takeS m).1.toNat) := by unfold cutS; rw [hm, List.drop_drop]
      have x4 : (eachS l).1 = n + 1 + (eachS (cutS m)).1 := by rw [hc]; omega
      have x5 : (eachS l).2 = (b' && (eachS (cutS m)).2) := by rw [hv, hb', Bool.and_assoc]
      have x6 : lg' = false → n + 1 = i + (takeS m).1.toNat := by
        intro hf
        rw [hlg', Bool.or_eq_false_iff] at hf
        have y1 := h0 hf.1
        have y2 := of_decide_eq_false hf.2
        have y3 : (takeS m).1.toNat = 1 := by clear hc hv h0 h1 hw hw2; omega
        rw [y1, y3]
      have x7 : lg' = true → n + 1 < i + (takeS m).1.toNat := by
        intro ht
        rw [hlg', Bool.or_eq_true] at ht
        rcases ht with ht | ht
        · have y1 := h1 ht
          exact Nat.lt_of_lt_of_le (Nat.add_lt_add_right y1 1) (Nat.add_le_add_left q1 i)
        · have y2 := of_decide_eq_true ht
          have y3 : 1 < (takeS m).1.toNat := by clear hc hv h0 h1 hw hw2; omega
          exact Nat.add_lt_add_of_le_of_lt hn y3
      exact ih (cutS m) (i + (takeS m).1.toNat) (n + 1) b' lg' x0 x3 x1 x2 x6 x7 x4 x5
    have fin : ∀ t : Bool, (takeS m).2 = t → Ev (fun k => if lg = true then (if b = true then tmesislaw01_UtfCounts.l0 k true l ((i + (takeS m).1.toNat : Nat) : Int) ((n + 1 : Nat) : Int) t true else tmesislaw01_UtfCounts.l0 k true l ((i + (takeS m).1.toNat : Nat) : Int) ((n + 1 : Nat) : Int) false true) else (if b = true then tmesislaw01_UtfCounts.l0 k true l ((i + (takeS m).1.toNat : Nat) : Int) ((n + 1 : Nat) : Int) t (decide ((takeS m).1 > 1)) else tmesislaw01_UtfCounts.l0 k true l ((i + (takeS m).1.toNat : Nat) : Int) ((n + 1 : Nat) : Int) false (decide ((takeS m).1 > 1)))) true := by
      intro t ht
      cases lg <;> cases b
      · exact ev_else (by simp) (ev_else (by simp) (next _ _ (by simp) (by simp)))
      · exact ev_else (by simp) (ev_if rfl (next _ _ (by simp [ht]) (by simp)))
      · exact ev_if rfl (ev_else (by simp) (next _ _ (by simp) (by simp)))
      · exact ev_if rfl (ev_if rfl (next _ _ (by simp [ht]) (by simp)))
    by_cases ht : (takeS m).2 = true
    · exact ev_if ht (fin _ rfl)
    · exact ev_else ht (ev_if (hp.2.2.2 (Bool.eq_false_iff.2 ht)) (fin _ rfl))

theorem UtfCounts : tmesislaw01_UtfCounts.Pure := by
  intro l _ _ _
  apply Ev.rounds
  unfold tmesislaw01_UtfCounts.f
  have hl : (l.take 200).length ≤ 200 := by rw [List.length_take]; omega
  refine Ev.bind shown_ev (ev_same (few_eq l) ?_)
  generalize l.take 200 = m at hl ⊢
  exact counts_loop m hl (m.length + 1) m 0 0 true false (by omega) rfl (by omega) (by omega) (fun _ => rfl) (fun h => by cases h) (by simp) (by simp)
end Go.Proofs.Ytcemcdjpihokoaa.Pure
