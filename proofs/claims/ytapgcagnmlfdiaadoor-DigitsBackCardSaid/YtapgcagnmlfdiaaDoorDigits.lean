/- digits.Take and Put as plain functions. -/
import Derived.Test.YtapgcagnmlfdiaaDoorClass
import Derived.Test.YtapgcagnmlfdiaaDoorPx1
import Derived.Test.YtapgcagnmlfdiaaDoorPx4
namespace Go.Proofs.YtapgcagnmlfdiaaDoor.P
set_option linter.unusedSimpArgs false
set_option linter.unusedVariables false
open Go.RowKit Go.Proofs.YtapgcagnmlfdiaaDoorW.PrintWords Go.Proofs.YtapgcagnmlfdiaaDoorW.PrintLast Go.Proofs.YtapgcagnmlfdiaaDoorW.PrintMore
theorem digit_all : ∀ n : Nat, n < 256 → (classOf (n : Int) = 4 ↔ 48 ≤ (n : Int) ∧ (n : Int) ≤ 57) := by decide +kernel
theorem digit_iff {c : Int} (h : 0 ≤ c ∧ c < 256) : classOf c = 4 ↔ 48 ≤ c ∧ c ≤ 57 := byte_all (p := fun c => classOf c = 4 ↔ 48 ≤ c ∧ c ≤ 57) digit_all h
/-- a number with digits more behind it; none, as soon as it is too great -/
def numS : Int → List Int → Option Int
  | n, [] => some n
  | n, c :: r => if n * 10 + (c - 48) > 2147483647 then none else numS (n * 10 + (c - 48)) r
theorem numS_cons (n c : Int) (r : List Int) : numS n (c :: r) = if n * 10 + (c - 48) > 2147483647 then none else numS (n * 10 + (c - 48)) r := rfl
def resD (q : Int) : Option Int → Int × Int × Int
  | some m => (m, q, 0)
  | none => (0, q, 4)
/-- the digits at the beginning -/
def headD (l : List Int) : List Int := l.take (runS l 4)
def takeD (l : List Int) : Int × Int × Int :=
  if runS l 4 = 0 then (0, 0, 2) else resD (runS l 4 : Int) (numS 0 (headD l))
def Digs (l : List Int) : Prop := ∀ c ∈ l, 48 ≤ c ∧ c ≤ 57
theorem digit_loop (l : List Int) (hd : Digs l) (hl : l.length ≤ 9223372036854775806) (q : Int) (d : Nat) : ∀ (i : Nat) (n : Int), d + i = l.length → 0 ≤ n → n ≤ 2147483647 →
    Ev (fun k => digits_Take.l0 k n q 0 l (l.length : Int) (i : Int)) (resD q (numS n (l.drop i))) := by
  induction d with
  | zero =>
    intro i n hi h0 h1
    refine Ev.step (fun k => digits_Take.l0.eq_2 ..) (ev_else (by omega) (ev_now ?_))
    rw [List.drop_of_length_le (by omega)]
    rfl
  | succ d ih =>
    intro i n hi h0 h1
    have hlt : i < l.length := by omega
    have hc := hd _ (List.getElem_mem hlt)
    refine Ev.step (fun k => digits_Take.l0.eq_2 ..) (ev_if (by omega) (ev_if (by omega) (ev_if (by omega) ?_)))
    rw [rd_at l i hlt, List.drop_eq_getElem_cons hlt]
    have e : wrap64 (wrap64 (n * 10) + (l[i] - 48) % 256) = n * 10 + (l[i] - 48) := by
      rw [w64 (i := n * 10) (by omega) (by omega), show (l[i] - 48) % 256 = l[i] - 48 by omega, w64 (by omega) (by omega)]
    rw [e]
    rw [numS_cons]
    by_cases h : n * 10 + (l[i] - 48) > 2147483647
    · rw [if_pos h]
      exact ev_if h (ev_now rfl)
    · rw [if_neg h]
      refine ev_else h ?_
      rw [show wrap64 ((i : Int) + 1) = ((i + 1 : Nat) : Int) by rw [w64 (by omega) (by omega)]; omega]
      exact ih (i + 1) _ (by omega) (by omega) (by omega)
theorem headD_len (l : List Int) : (headD l).length = runS l 4 := by
  unfold headD
  rw [List.length_take]
  have := runS_le l 4
  omega
theorem headD_digs {l : List Int} (hb : Bytes l) : Digs (headD l) := by
  unfold headD
  induction l with
  | nil => intro c hc; simp [runS_nil] at hc
  | cons a l ih =>
    rw [runS_cons]
    by_cases h : classOf a = 4
    · rw [if_pos h, List.take_succ_cons]
      intro c hc
      rcases List.mem_cons.1 hc with rfl | hc
      · exact (digit_iff (hb _ (by simp))).1 h
      · exact ih (fun x hx => hb x (by simp [hx])) c hc
    · rw [if_neg h]
      intro c hc
      simp at hc
theorem dtake_ev (l : List Int) (hb : Bytes l) (hl : l.length ≤ 1000000) : Ev (fun k => digits_Take.f k l) (takeD l) := by
  unfold digits_Take.f takeD
  have hle := runS_le l 4
  refine Ev.bind (run_ev l 4 (by omega)) ?_
  by_cases h : runS l 4 = 0
  · rw [h]
    exact ev_if rfl (ev_now rfl)
  · rw [if_neg h]
    refine ev_else (by omega) (ev_if (by omega) (ev_if (by omega) ?_))
    have e : ((runS l 4 : Int)).toNat = runS l 4 := rfl
    rw [e]
    have hh := headD_len l
    exact digit_loop (headD l) (headD_digs hb) (by omega) _ (headD l).length 0 0 (by omega) (by omega) (by omega)
/-- a number's digits, the last one first -/
def revD (n : Nat) : List Int := if h : n < 10 then [48 + (n : Int)] else (48 + ((n % 10 : Nat) : Int)) :: revD (n / 10)
termination_by n
decreasing_by omega
def putD (n : Nat) : List Int := (revD n).reverse
theorem revD_len (n : Nat) : 1 ≤ (revD n).length := by
  rw [revD]
  split <;> simp
theorem rev_loop (l : List Int) (hl : l.length ≤ 1000000) (d : Nat) : ∀ (m : List Int) (i : Nat), m.length = l.length → d = (l.length - 2 * i) / 2 → 2 * i ≤ l.length + 1 →
    (∀ j, j < l.length → (j < i ∨ l.length - i ≤ j) → m[j]? = l.reverse[j]?) → (∀ j, i ≤ j → j < l.length - i → m[j]? = l[j]?) →
    Ev (fun k => digits_Put.l1 k m (i : Int) ((l.length : Int) - 1 - (i : Int))) (l.reverse, (0 : Int)) := by
  induction d with
  | zero =>
    intro m i hm hd hi h1 h2
    refine Ev.step (fun k => digits_Put.l1.eq_2 ..) (ev_else (by omega) (ev_now ?_))
    congr 1
    apply List.ext_getElem?
    intro j
    by_cases hj : j < l.length
    · by_cases hj2 : j < i ∨ l.length - i ≤ j
      · exact h1 j hj hj2
      · rw [h2 j (by omega) (by omega)]
        have : l.length = 2 * j + 1 := by omega
        rw [List.getElem?_reverse hj, show l.length - 1 - j = j by omega]
    · rw [List.getElem?_eq_none (by omega), List.getElem?_eq_none (by simp; omega)]
  | succ d ih =>
    intro m i hm hd hi h1 h2
    have hlt : 2 * i + 1 < l.length := by omega
    refine Ev.step (fun k => digits_Put.l1.eq_2 ..) (ev_if (by omega) (ev_if (by omega) (ev_if (by omega) (ev_if (by omega) (ev_if (by omega) ?_)))))
    have e1 : ((l.length : Int) - 1 - (i : Int)) = ((l.length - 1 - i : Nat) : Int) := by omega
    have e2 : wrap64 ((l.length : Int) - 1 - (i : Int) - 1) = (l.length : Int) - 1 - ((i + 1 : Nat) : Int) := by rw [w64 (by omega) (by omega)]; omega
    have e3 : wrap64 ((i : Int) + 1) = ((i + 1 : Nat) : Int) := by rw [w64 (by omega) (by omega)]; omega
    rw [e2, e3, e1, rd_at m _ (by omega), rd_at m i (by omega)]
    simp only [Int.toNat_natCast]
    have g1 : m[l.length - 1 - i]? = l[l.length - 1 - i]? := h2 _ (by omega) (by omega)
    have g2 : m[i]? = l[i]? := h2 _ (by omega) (by omega)
    rw [List.getElem?_eq_getElem (by omega), List.getElem?_eq_getElem (by omega)] at g1 g2
    have g1 := Option.some.inj g1
    have g2 := Option.some.inj g2
    refine ih _ (i + 1) (by simp; omega) (by omega) (by omega) ?_ ?_
    · intro j hj hj2
      rw [List.getElem?_set, List.getElem?_set]
      by_cases ha : l.length - 1 - i = j
      · rw [if_pos ha, if_pos (by simp; omega), g2, List.getElem?_reverse hj, show l.length - 1 - j = i by omega, List.getElem?_eq_getElem (by omega)]
      · rw [if_neg ha]
        by_cases hb : i = j
        · rw [if_pos hb, if_pos (by omega), g1, List.getElem?_reverse hj, show l.length - 1 - j = l.length - 1 - i by omega, List.getElem?_eq_getElem (by omega)]
        · rw [if_neg hb]
          exact h1 j hj (by omega)
    · intro j hj1 hj2
      rw [List.getElem?_set, List.getElem?_set, if_neg (by omega), if_neg (by omega)]
      exact h2 j (by omega) (by omega)
theorem tmod_nat (n : Nat) : Int.tmod (n : Int) 10 = ((n % 10 : Nat) : Int) := by rw [Int.tmod_eq_emod_of_nonneg (by omega)]; omega
theorem tdiv_nat (n : Nat) : Int.tdiv (n : Int) 10 = ((n / 10 : Nat) : Int) := by rw [Int.tdiv_eq_ediv_of_nonneg (by omega)]; omega
theorem put_loop (N : Nat) : ∀ (n : Nat) (acc : List Int), n < N → n ≤ 2147483647 → acc.length + N ≤ 140737488355328 → acc.length + (revD n).length ≤ 1000000 →
    Ev (fun k => digits_Put.l0 k (n : Int) acc true) ((acc ++ revD n).reverse, (0 : Int)) := by
  induction N with
  | zero => intro n acc h; omega
  | succ N ih =>
    intro n acc h hn ha hr
    refine Ev.step (fun k => digits_Put.l0.eq_2 ..) (ev_if rfl (ev_if (by omega) ?_))
    have e0 : (wrap64 (48 + Int.tmod (n : Int) 10)) % 256 = 48 + ((n % 10 : Nat) : Int) := by
      rw [tmod_nat, w64 (by omega) (by omega)]; omega
    have e1 : wrap64 (Int.tdiv (n : Int) 10) = ((n / 10 : Nat) : Int) := by rw [tdiv_nat, w64 (by omega) (by omega)]
    rw [e0, e1]
    by_cases h10 : n < 10
    · have e2 : n / 10 = 0 := by omega
      have e3 : n % 10 = n := by omega
      rw [revD, dif_pos h10] at hr ⊢
      rw [e2, e3, decide_eq_false (by omega)]
      refine Ev.step (fun k => digits_Put.l0.eq_2 ..) (ev_else (by simp) ?_)
      generalize hg : acc ++ [48 + (n : Int)] = m
      have hml : m.length = acc.length + 1 := by rw [← hg]; simp
      have lp := rev_loop m (by rw [hml]; simpa using hr) ((m.length - 2 * 0) / 2) m 0 rfl rfl (by omega) (fun j hj h => by omega) (fun j _ _ => rfl)
      have e4 : wrap64 ((m.length : Int) - 1) = (m.length : Int) - 1 - ((0 : Nat) : Int) := by rw [w64 (by omega) (by omega)]; omega
      rw [e4]
      exact lp
    · rw [revD, dif_neg h10] at hr ⊢
      rw [decide_eq_true (by omega)]
      refine ev_eq (ih (n / 10) _ (by omega) (by omega) (by simp; omega) (by simp at hr ⊢; omega)) ?_
      simp
theorem revD_le (n : Nat) : (revD n).length ≤ n + 1 := by
  induction n using Nat.strongRecOn with
  | _ n ih =>
    rw [revD]
    split
    · simp
    · have := ih (n / 10) (by omega)
      simp; omega
theorem revD_ten (n : Nat) (m : Nat) (h : n < 10 ^ (m + 1)) : (revD n).length ≤ m + 1 := by
  induction m generalizing n with
  | zero => rw [revD, dif_pos (by simpa using h)]; simp
  | succ m ih =>
    rw [revD]
    split
    · simp
    · have := ih (n / 10) (by rw [Nat.pow_succ] at h; omega)
      simp; omega
theorem put_ev (n : Nat) (hn : n ≤ 2147483647) : Ev (fun k => digits_Put.f k (n : Int)) (putD n, (0 : Int)) := by
  unfold digits_Put.f
  refine ev_else (by omega) ?_
  rw [decide_eq_false (by omega)]
  refine Ev.step (fun k => digits_Put.j0.eq_2 ..) (ev_else (by simp) ?_)
  have := revD_ten n 9 (by omega)
  refine ev_eq (put_loop (n + 1) n [] (by omega) hn (by simp; omega) (by simp; omega)) ?_
  rfl
theorem put_bad (n : Int) (hn : n < 0 ∨ 2147483647 < n) : Ev (fun k => digits_Put.f k n) (([] : List Int), (1 : Int)) := by
  unfold digits_Put.f
  by_cases h : n < 0
  · exact ev_if h (Ev.step (fun k => digits_Put.j0.eq_2 ..) (ev_if rfl (ev_now rfl)))
  · refine ev_else h ?_
    rw [decide_eq_true (by omega)]
    exact Ev.step (fun k => digits_Put.j0.eq_2 ..) (ev_if rfl (ev_now rfl))
end Go.Proofs.YtapgcagnmlfdiaaDoor.P
