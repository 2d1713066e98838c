/- With a digit more a number is ten times as great, and that digit more; or too great. No conditions. -/
import Derived.Test.YtapgcagnmlfdiaaDoorDigitsSh
import Derived.Test.YtapgcagnmlfdiaaDoorPx2
namespace Go.Proofs.YtapgcagnmlfdiaaDoor.Pure
set_option linter.unusedSimpArgs false
set_option linter.unusedVariables false
open Go.RowKit Go.Proofs.YtapgcagnmlfdiaaDoor.P Go.Proofs.YtapgcagnmlfdiaaDoorW.PrintWords Go.Proofs.YtapgcagnmlfdiaaDoorW.PrintLast Go.Proofs.YtapgcagnmlfdiaaDoorW.PrintMore
def dg (x : Int) : Int := (48 + Int.tmod x 10) % 256
theorem dg_digit {x : Int} (h : 0 ≤ x ∧ x < 256) : dg x = 48 + x % 10 := by
  unfold dg
  rw [Int.tmod_eq_emod_of_nonneg h.1]; omega
theorem digs_map {l : List Int} (h : Bytes l) : Digs (l.map dg) := by
  intro c hc
  obtain ⟨x, hx, rfl⟩ := List.mem_map.1 hc
  rw [dg_digit (h x hx)]
  omega
theorem j1_ev (d : Int) (hd : 0 ≤ d ∧ d < 256) (m : List Int) (hm : Digs m) :
    Ev (fun k => tmesislaw03_DigitsGoes.j1 k d true (takeD m).1 (takeD m).2.2 (takeD (m ++ [dg d])).1 (takeD (m ++ [dg d])).2.2 (((takeD m).2.2 == 2) != ((m.length : Int) == 0))) true := by
  have hdd : Digs [dg d] := digs_map (l := [d]) (fun x hx => by rw [List.mem_singleton] at hx; rw [hx]; exact hd)
  have e1 : takeD m = if m = [] then (0, 0, 2) else resD (m.length : Int) (numS 0 m) := by
    have := takeD_digs hm [] rfl
    rwa [List.append_nil] at this
  have e2 : takeD (m ++ [dg d]) = resD ((m ++ [dg d]).length : Int) (numS 0 (m ++ [dg d])) := by
    have := takeD_digs (hm.append hdd) [] rfl
    rw [List.append_nil] at this
    rw [this, if_neg (by simp)]
  have e3 : numS 0 (m ++ [dg d]) = (numS 0 m).bind fun q => if q * 10 + (dg d - 48) > 2147483647 then none else some (q * 10 + (dg d - 48)) := by rw [numS_append]; rfl
  have hk := dg_digit hd
  have hw : wrap64 (Int.tmod d 10) = d % 10 := by rw [Int.tmod_eq_emod_of_nonneg hd.1, w64 (by omega) (by omega)]
  refine Ev.step (fun k => tmesislaw03_DigitsGoes.j1.eq_2 ..) ?_
  by_cases hm0 : m = []
  · subst hm0
    have f1 : takeD [] = (0, 0, 2) := e1
    rw [f1, e2, e3]
    refine ev_else (by simp) (ev_else (by simp) ?_)
    rw [hw, w64 (i := 10 * 0) (by omega) (by omega), w64 (by omega) (by omega)]
    have e4 : (numS 0 []).bind (fun q => if q * 10 + (dg d - 48) > 2147483647 then none else some (q * 10 + (dg d - 48))) = some (dg d - 48) := by
      show (if (0 : Int) * 10 + (dg d - 48) > 2147483647 then none else some ((0 : Int) * 10 + (dg d - 48))) = _
      rw [if_neg (by omega)]; congr 1; omega
    rw [e4]
    refine ev_else (by simp; omega) (ev_if rfl (ev_if rfl (ev_now ?_)))
    show (dg d - 48 == 10 * 0 + d % 10) = true
    rw [beq_iff_eq]; omega
  · rw [if_neg hm0] at e1
    cases hn : numS 0 m with
    | none =>
      rw [hn] at e1 e3
      rw [e1, e2, e3]
      refine ev_else (by simp [resD, hm0]) (ev_if rfl (ev_if rfl (ev_if rfl (ev_if rfl (ev_now rfl)))))
    | some q =>
      have hq := numS_bd m hm 0 q (by omega) (by omega) hn
      rw [hn] at e1 e3
      have e4 : (some q).bind (fun q => if q * 10 + (dg d - 48) > 2147483647 then none else some (q * 10 + (dg d - 48))) = if q * 10 + (dg d - 48) > 2147483647 then none else some (q * 10 + (dg d - 48)) := rfl
      rw [e1, e2, e3, e4, hw]
      have a1 : (resD (m.length : Int) (some q)).1 = q := rfl
      rw [a1]
      refine ev_else (by simp [resD, hm0]) (ev_else (by simp [resD]) ?_)
      rw [w64 (i := 10 * q) (by omega) (by omega), w64 (by omega) (by omega)]
      by_cases hb : q * 10 + (dg d - 48) > 2147483647
      · rw [if_pos hb]
        exact ev_if (by omega) (ev_if rfl (ev_if rfl (ev_now rfl)))
      · rw [if_neg hb]
        refine ev_else (by omega) (ev_if rfl (ev_if rfl (ev_now ?_)))
        show (q * 10 + (dg d - 48) == 10 * q + d % 10) = true
        rw [beq_iff_eq]; omega
theorem goes_loop (d : Int) (hd : 0 ≤ d ∧ d < 256) (l : List Int) (hb : Bytes l) (hl : l.length ≤ 30) (n : Nat) : ∀ i : Nat, n + i = l.length →
    Ev (fun k => tmesislaw03_DigitsGoes.l0 k d true ((l.take i).map dg ++ l.drop i) (i : Int)) true := by
  induction n with
  | zero =>
    intro i hi
    have e : (l.take i).map dg ++ l.drop i = l.map dg := by
      rw [List.drop_of_length_le (by omega), List.take_of_length_le (by omega), List.append_nil]
    rw [e]
    have hm := digs_map hb
    have hml : (l.map dg).length = l.length := by simp
    have hdd : Digs [dg d] := digs_map (l := [d]) (fun x hx => by rw [List.mem_singleton] at hx; rw [hx]; exact hd)
    refine Ev.step (fun k => tmesislaw03_DigitsGoes.l0.eq_2 ..) (ev_else (by omega) ?_)
    have j := j1_ev d hd (l.map dg) hm
    generalize l.map dg = m at hm hml j ⊢
    refine Ev.bind (dtake_ev m hm.bytes (by omega)) (ev_let (ev_if (by simp; omega) (ev_let (ev_if (by simp; omega) ?_))))
    rw [List.nil_append]
    refine Ev.bind (dtake_ev (m ++ [dg d]) (hm.append hdd).bytes (by simp; omega)) ?_
    have k1 : (takeD m).2.1 = (m.length : Int) := by
      have := takeD_digs hm [] rfl
      rw [List.append_nil] at this
      rw [this]
      by_cases h0 : m = []
      · rw [if_pos h0, h0]; rfl
      · rw [if_neg h0]; cases numS 0 m <;> rfl
    have k2 : (takeD (m ++ [dg d])).2.1 = ((m ++ [dg d]).length : Int) := by
      have := takeD_digs (hm.append hdd) [] rfl
      rw [List.append_nil] at this
      rw [this, if_neg (by simp)]
      cases numS 0 (m ++ [dg d]) <;> rfl
    refine ev_if k1 (ev_if ?_ j)
    rw [k2, w64 (by omega) (by omega)]; simp
  | succ n ih =>
    intro i hi
    have hlt : i < l.length := by omega
    have hlen : ((l.take i).map dg ++ l.drop i).length = l.length := by simp; omega
    refine Ev.step (fun k => tmesislaw03_DigitsGoes.l0.eq_2 ..) (ev_if (by omega) (ev_if (by omega) ?_))
    have e1 : rd ((l.take i).map dg ++ l.drop i) (i : Int) = l[i] := by
      rw [rd_at _ i (by omega), List.getElem_append_right (by simp; omega)]
      simp; congr 1; omega
    have e2 : ((l.take i).map dg ++ l.drop i).set i (dg l[i]) = (l.take (i + 1)).map dg ++ l.drop (i + 1) := by
      rw [List.set_append_right _ _ (by simp; omega), List.drop_eq_getElem_cons hlt, List.take_succ_eq_append_getElem hlt]
      have : i - ((l.take i).map dg).length = 0 := by simp; omega
      rw [this, List.set_cons_zero, List.map_append, List.append_assoc]
      rfl
    rw [e1, show wrap64 ((i : Int) + 1) = ((i + 1 : Nat) : Int) by rw [w64 (by omega) (by omega)]; omega]
    show Ev (fun k => tmesislaw03_DigitsGoes.l0 k d true (((l.take i).map dg ++ l.drop i).set i (dg l[i])) ((i + 1 : Nat) : Int)) true
    rw [e2]
    exact ih (i + 1) (by omega)
theorem DigitsGoes : tmesislaw03_DigitsGoes.Pure := by
  intro l d _ _ hb hd
  have hb := (bytes_wf hb).take 30
  have hd := u8_wf hd
  have hl : (l.take 30).length ≤ 30 := by rw [List.length_take]; omega
  apply Ev.rounds
  unfold tmesislaw03_DigitsGoes.f
  have h1 : 0 ≤ mn (l.length : Int) 30 := by unfold mn; split <;> omega
  have h2 : mn (l.length : Int) 30 ≤ (l.length : Int) := by unfold mn; split <;> omega
  have e : l.take (mn (l.length : Int) 30).toNat = l.take 30 := by
    rw [mn_le _ _ (by omega), Nat.min_comm, ← List.take_take, List.take_length]
    rfl
  rw [e]
  refine Ev.bind shown_ev (ev_let (ev_if h1 (ev_if h2 (ev_if (by simp; omega) ?_))))
  exact goes_loop d hd (l.take 30) hb hl _ 0 rfl
end Go.Proofs.YtapgcagnmlfdiaaDoor.Pure
