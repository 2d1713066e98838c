/- The number at the beginning of any bytes, and any number's digits, are as the reference says. No conditions. -/
import Derived.Test.YtapgcagnmlfdiaaDoorDigitsSh
import Derived.Test.YtapgcagnmlfdiaaDoorClassRef
import Derived.Test.YtapgcagnmlfdiaaDoorPx5
import Derived.Test.YtapgcagnmlfdiaaDoorPx3
import Derived.Test.YtapgcagnmlfdiaaDoorPx4
namespace Go.Proofs.YtapgcagnmlfdiaaDoor.Pure
set_option linter.unusedSimpArgs false
set_option linter.unusedVariables false
open Go.RowKit Go.Proofs.YtapgcagnmlfdiaaDoor.P Go.Proofs.YtapgcagnmlfdiaaDoorW.PrintWords Go.Proofs.YtapgcagnmlfdiaaDoorW.PrintLast Go.Proofs.YtapgcagnmlfdiaaDoorW.PrintMore
theorem few_eq (l : List Int) : tmesislaw03_few.f l = some (l.take 40) := by
  unfold tmesislaw03_few.f
  have h1 : 0 ≤ mn (l.length : Int) 40 := by unfold mn; split <;> omega
  have h2 : mn (l.length : Int) 40 ≤ (l.length : Int) := by unfold mn; split <;> omega
  rw [if_pos h1, if_pos h2, mn_le _ _ (by omega)]
  congr 1
  rw [Nat.min_comm, ← List.take_take, List.take_length]
  rfl
theorem rdigit_loop (l : List Int) (hb : Bytes l) (hl : l.length ≤ 1000000) (d : Nat) : ∀ (i : Nat) (n : Int), d + i = runS l 4 → 0 ≤ n → n ≤ 2147483647 →
    Ev (fun k => tmesisref03_Take.l0 k l (runS l 4 : Int) n (i : Int)) (resD (runS l 4 : Int) (numS n ((headD l).drop i))) := by
  have hle := runS_le l 4
  have hh := headD_len l
  have hd := headD_digs hb
  induction d with
  | zero =>
    intro i n hi h0 h1
    refine Ev.step (fun k => tmesisref03_Take.l0.eq_2 ..) (ev_else (by omega) (ev_now ?_))
    rw [List.drop_of_length_le (by omega)]
    rfl
  | succ d ih =>
    intro i n hi h0 h1
    have hlt : i < (headD l).length := by omega
    have hc := hd _ (List.getElem_mem hlt)
    have eg : (headD l)[i] = l[i] := by simp [headD, List.getElem_take]
    refine Ev.step (fun k => tmesisref03_Take.l0.eq_2 ..) (ev_if (by omega) (ev_if (by omega) (ev_if (by omega) ?_)))
    rw [rd_at l i (by omega), List.drop_eq_getElem_cons hlt, eg]
    rw [eg] at hc
    have e : wrap64 (wrap64 (n * 10) + (l[i] - 48) % 256) = n * 10 + (l[i] - 48) := by
      rw [w64 (i := n * 10) (by omega) (by omega), show (l[i] - 48) % 256 = l[i] - 48 by omega, w64 (by omega) (by omega)]
    rw [e, numS_cons]
    by_cases h : n * 10 + (l[i] - 48) > 2147483647
    · rw [if_pos h]
      exact ev_if h (ev_now rfl)
    · rw [if_neg h]
      refine ev_else h ?_
      rw [show wrap64 ((i : Int) + 1) = ((i + 1 : Nat) : Int) by rw [w64 (by omega) (by omega)]; omega]
      exact ih (i + 1) _ (by omega) (by omega) (by omega)
theorem rtake_ev (l : List Int) (hb : Bytes l) (hl : l.length ≤ 1000000) : Ev (fun k => tmesisref03_Take.f k l) (takeD l) := by
  unfold tmesisref03_Take.f takeD
  refine Ev.bind (rrun_ev l 4 (by omega) hb) ?_
  by_cases h : runS l 4 = 0
  · rw [h]
    exact ev_if rfl (ev_now rfl)
  · rw [if_neg h]
    exact ev_else (by omega) (rdigit_loop l hb hl (runS l 4) 0 0 (by omega) (by omega) (by omega))
theorem rput_loop (N : Nat) : ∀ (n : Nat) (rest : List Int), n < N → n ≤ 2147483647 → rest.length + (putD n).length ≤ 1000000 →
    Ev (fun k => tmesisref03_Put.l0 k (n : Int) ([48 + ((n % 10 : Nat) : Int)] ++ rest)) (putD n ++ rest, (0 : Int)) := by
  induction N with
  | zero => intro n rest h; omega
  | succ N ih =>
    intro n rest h hn hr
    refine Ev.step (fun k => tmesisref03_Put.l0.eq_2 ..) ?_
    by_cases h10 : n < 10
    · refine ev_else (by omega) (ev_now ?_)
      rw [putD_small h10, show n % 10 = n by omega]
    · refine ev_if (by omega) (ev_let ?_)
      have e1 : wrap64 (Int.tdiv (n : Int) 10) = ((n / 10 : Nat) : Int) := by rw [tdiv_nat, w64 (by omega) (by omega)]
      have e0 : (wrap64 (48 + Int.tmod ((n / 10 : Nat) : Int) 10)) % 256 = 48 + ((n / 10 % 10 : Nat) : Int) := by
        rw [tmod_nat, w64 (by omega) (by omega)]; omega
      rw [e1, e0]
      rw [putD_big h10] at hr ⊢
      simp only [List.length_append, List.length_cons, List.length_nil] at hr
      refine ev_if (by simp; omega) ?_
      refine ev_eq (ih (n / 10) ([48 + ((n % 10 : Nat) : Int)] ++ rest) (by omega) (by omega) (by simp; omega)) ?_
      simp
theorem rput_ev (n : Nat) (hn : n ≤ 2147483647) : Ev (fun k => tmesisref03_Put.f k (n : Int)) (putD n, (0 : Int)) := by
  unfold tmesisref03_Put.f
  refine ev_else (by omega) ?_
  rw [decide_eq_false (by omega)]
  refine Ev.step (fun k => tmesisref03_Put.j0.eq_2 ..) (ev_else (by simp) ?_)
  have e0 : (wrap64 (48 + Int.tmod (n : Int) 10)) % 256 = 48 + ((n % 10 : Nat) : Int) := by
    rw [tmod_nat, w64 (by omega) (by omega)]; omega
  rw [e0]
  have := putD_len n hn
  refine ev_eq (rput_loop (n + 1) n [] (by omega) hn (by simp; omega)) ?_
  rw [List.append_nil]
theorem rput_bad (n : Int) (hn : n < 0 ∨ 2147483647 < n) : Ev (fun k => tmesisref03_Put.f k n) (([] : List Int), (1 : Int)) := by
  unfold tmesisref03_Put.f
  by_cases h : n < 0
  · exact ev_if h (Ev.step (fun k => tmesisref03_Put.j0.eq_2 ..) (ev_if rfl (ev_now rfl)))
  · refine ev_else h ?_
    rw [decide_eq_true (by omega)]
    exact Ev.step (fun k => tmesisref03_Put.j0.eq_2 ..) (ev_if rfl (ev_now rfl))
theorem DigitsAll : tmesislaw03_DigitsAll.Pure := by
  intro l n _ _ hb _
  have hb := (bytes_wf hb).take 40
  have hl : (l.take 40).length ≤ 40 := by rw [List.length_take]; omega
  apply Ev.rounds
  unfold tmesislaw03_DigitsAll.f
  refine Ev.bind shown_ev (ev_same (few_eq l) (Ev.bind (dtake_ev _ hb (by omega)) (ev_same (few_eq l) (Ev.bind (rtake_ev _ hb (by omega)) ?_))))
  have fin : ∀ p : List Int × Int, Ev (fun k => digits_Put.f k n) p → Ev (fun k => tmesisref03_Put.f k n) p → Ev (fun k => (digits_Put.f k n).bind fun bt183 => (tmesisref03_Put.f k n).bind fun bt187 => if true = true then (if (takeD (l.take 40)).1 = (takeD (l.take 40)).1 then (if (takeD (l.take 40)).2.1 = (takeD (l.take 40)).2.1 then (if (takeD (l.take 40)).2.2 = (takeD (l.take 40)).2.2 then (if (strOfNums bt183.1).toList = (strOfNums bt187.1).toList then some (bt183.2 == bt187.2) else some false) else some false) else some false) else some false) else some false) true := by
    intro p h1 h2
    exact Ev.bind h1 (Ev.bind h2 (ev_if rfl (ev_if rfl (ev_if rfl (ev_if rfl (ev_if rfl (ev_now (by simp))))))))
  by_cases h : n < 0 ∨ 2147483647 < n
  · exact fin _ (put_bad n h) (rput_bad n h)
  · have e : n = ((n.toNat : Nat) : Int) := by omega
    rw [e] at fin ⊢
    exact fin _ (put_ev n.toNat (by omega)) (rput_ev n.toNat (by omega))
end Go.Proofs.YtapgcagnmlfdiaaDoor.Pure
