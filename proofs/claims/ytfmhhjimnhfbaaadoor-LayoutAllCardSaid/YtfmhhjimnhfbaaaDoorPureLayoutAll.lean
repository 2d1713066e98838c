/- How much of any bytes stands between tokens is as the reference says. No conditions. -/
import Derived.Test.YtfmhhjimnhfbaaaDoorLayoutSh
import Derived.Test.YtfmhhjimnhfbaaaDoorClassRefOf
import Derived.Test.YtfmhhjimnhfbaaaDoorPx6
import Derived.Test.YtfmhhjimnhfbaaaDoorPx5
import Derived.Test.YtfmhhjimnhfbaaaDoorPx4
namespace Go.Proofs.YtfmhhjimnhfbaaaDoor.Pure
set_option linter.unusedSimpArgs false
set_option linter.unusedVariables false
open Go.RowKit Go.Proofs.YtfmhhjimnhfbaaaDoor.P Go.Proofs.YtfmhhjimnhfbaaaDoorW.PrintWords Go.Proofs.YtfmhhjimnhfbaaaDoorW.PrintLast Go.Proofs.YtfmhhjimnhfbaaaDoorW.PrintMore
theorem pair_eq {l : List Int} (hl : Bytes l) (hn : l.length ≤ 1000000) (p : Nat) (hp : p ≤ l.length) {a b : Int} (ha : 0 ≤ a ∧ a < 256) (hb : 0 ≤ b ∧ b < 256) (s : ByteArray) (hs : s.toList = [UInt8.ofNat a.toNat, UInt8.ofNat b.toNat]) : tmesisref05_pair.f l (p : Int) s = some (two a b (l.drop p)) := by
  unfold tmesisref05_pair.f
  rw [show wrap64 ((p : Int) + 2) = ((p + 2 : Nat) : Int) by rw [w64 (by omega) (by omega)]; omega]
  by_cases h : p + 2 ≤ l.length
  · rw [if_pos (by omega), if_pos (by omega), if_pos (by omega), hs]
    show some ((strOfNums ((l.take (p + 2)).drop p)).toList == _) = _
    congr 1
    rw [strOf_list, List.drop_take, show p + 2 - p = 2 by omega]
    have hb2 := hl.drop p
    match hm : l.drop p with
    | [] => have := congrArg List.length hm; simp at this; omega
    | [x] => have := congrArg List.length hm; simp at this; omega
    | x :: y :: r =>
      rw [hm] at hb2
      have hx := hb2 x (by simp)
      have hy := hb2 y (by simp)
      show (([UInt8.ofNat x.toNat, UInt8.ofNat y.toNat] : List UInt8) == [UInt8.ofNat a.toNat, UInt8.ofNat b.toNat]) = (x == a && y == b)
      rw [Bool.eq_iff_iff, beq_iff_eq, Bool.and_eq_true, beq_iff_eq, beq_iff_eq, List.cons.injEq, List.cons.injEq]
      constructor
      · rintro ⟨h1, h2, _⟩
        exact ⟨u8_inj hx ha h1, u8_inj hy hb h2⟩
      · rintro ⟨rfl, rfl⟩
        exact ⟨rfl, rfl, rfl⟩
  · rw [if_neg (by omega)]
    congr 1
    match hm : l.drop p with
    | [] => rfl
    | [x] => rfl
    | x :: y :: r => have := congrArg List.length hm; simp at this; omega
def optM (p : Nat) : Option Nat → Int
  | some n => ((p + n : Nat) : Int)
  | none => -1
theorem optM_map (p k : Nat) (o : Option Nat) : optM p (o.map (· + k)) = optM (p + k) o := by
  cases o with
  | none => rfl
  | some n => show ((p + (n + k) : Nat) : Int) = ((p + k + n : Nat) : Int); congr 1; omega
theorem com1_ev (l : List Int) (hl : Bytes l) (hn : l.length ≤ 1000000) (N : Nat) : ∀ (d p : Nat), l.length - p < N → 1 ≤ d → d ≤ p → p ≤ l.length →
    Ev (fun k => tmesisref05_comment.l0 k l (p : Int) (d : Int)) (optM p (comL d (l.drop p))) := by
  induction N with
  | zero => intro d p h; omega
  | succ N ih =>
    intro d p hN hd hdp hp
    have hml : (l.drop p).length = l.length - p := List.length_drop
    refine Ev.step (fun k => tmesisref05_comment.l0.eq_2 ..) ?_
    have w2 : wrap64 ((p : Int) + 2) = ((p + 2 : Nat) : Int) := by rw [w64 (by omega) (by omega)]; omega
    have w1 : wrap64 ((p : Int) + 1) = ((p + 1 : Nat) : Int) := by rw [w64 (by omega) (by omega)]; omega
    have w3 : wrap64 ((d : Int) + 1) = ((d + 1 : Nat) : Int) := by rw [w64 (by omega) (by omega)]; omega
    have w4 : wrap64 ((d : Int) - 1) = ((d - 1 : Nat) : Int) := by rw [w64 (by omega) (by omega)]; omega
    rw [w1, w2, w3, w4]
    match hm : l.drop p with
    | [] =>
      rw [hm] at hml
      simp only [List.length_nil] at hml
      exact ev_else (by omega) (ev_now rfl)
    | [x] =>
      rw [hm] at hml
      simp only [List.length_cons, List.length_nil] at hml
      have e := ih d (p + 1) (by omega) hd (by omega) (by omega)
      rw [List.drop_of_length_le (by omega)] at e
      refine ev_if (by omega) (ev_same (pair_eq hl hn p hp (a := 47) (b := 42) (by omega) (by omega) _ (by decide +kernel)) ?_)
      rw [hm]
      refine ev_else (by simp [two]) (ev_same (pair_eq hl hn p hp (a := 42) (b := 47) (by omega) (by omega) _ (by decide +kernel)) ?_)
      rw [hm]
      exact ev_else (by simp [two]) e
    | x :: y :: r =>
      obtain ⟨e2, e1⟩ := drop_two hm
      rw [hm] at hml
      simp only [List.length_cons] at hml
      rw [comL]
      refine ev_if (by omega) (ev_same (pair_eq hl hn p hp (a := 47) (b := 42) (by omega) (by omega) _ (by decide +kernel)) ?_)
      rw [hm]
      by_cases h1 : x = 47 ∧ y = 42
      · have t : two 47 42 (x :: y :: r) = true := by simp [two, h1.1, h1.2]
        rw [if_pos h1, optM_map, ← e2]
        exact ev_if t (ih (d + 1) (p + 2) (by omega) (by omega) (by omega) (by omega))
      · have t : ¬ two 47 42 (x :: y :: r) = true := by simpa [two] using h1
        rw [if_neg h1]
        refine ev_else t (ev_same (pair_eq hl hn p hp (a := 42) (b := 47) (by omega) (by omega) _ (by decide +kernel)) ?_)
        rw [hm]
        by_cases h2 : x = 42 ∧ y = 47
        · have t : two 42 47 (x :: y :: r) = true := by simp [two, h2.1, h2.2]
          rw [if_pos h2]
          refine ev_if t ?_
          by_cases h3 : d = 1
          · rw [if_pos h3]
            exact ev_if (by omega) (ev_now rfl)
          · rw [if_neg h3, optM_map, ← e2]
            exact ev_else (by omega) (ih (d - 1) (p + 2) (by omega) (by omega) (by omega) (by omega))
        · have t : ¬ two 42 47 (x :: y :: r) = true := by simpa [two] using h2
          have e3 := ih d (p + 1) (by omega) hd (by omega) (by omega)
          rw [e1] at e3
          rw [if_neg h2, optM_map]
          exact ev_else t e3
theorem rcom_ev (l : List Int) (hl : Bytes l) (hn : l.length ≤ 1000000) (p : Nat) (hp : p ≤ l.length) (h : two 47 42 (l.drop p) = true) : Ev (fun k => tmesisref05_comment.f k l (p : Int)) (optM p (comS (l.drop p))) := by
  unfold tmesisref05_comment.f
  have hml : (l.drop p).length = l.length - p := List.length_drop
  refine Ev.step (fun k => tmesisref05_comment.l0.eq_2 ..) ?_
  match hm : l.drop p, h with
  | x :: y :: r, h =>
    obtain ⟨e2, e1⟩ := drop_two hm
    rw [hm] at hml
    simp only [List.length_cons] at hml
    refine ev_if (by omega) (ev_same (pair_eq hl hn p hp (a := 47) (b := 42) (by omega) (by omega) _ (by decide +kernel)) ?_)
    rw [hm]
    refine ev_if h ?_
    rw [show wrap64 ((p : Int) + 2) = ((p + 2 : Nat) : Int) by rw [w64 (by omega) (by omega)]; omega, show wrap64 ((0 : Int) + 1) = ((1 : Nat) : Int) by rw [w64 (by omega) (by omega)]; rfl]
    refine ev_eq (com1_ev l hl hn (l.length + 1) 1 (p + 2) (by omega) (by omega) (by omega) (by omega)) ?_
    unfold comS
    rw [optM_map, e2]
    rfl
theorem layout_37 : classOf 37 ≠ 1 := by decide +kernel
theorem rskip_loop (l : List Int) (hl : Bytes l) (hn : l.length ≤ 1000000) (N : Nat) : ∀ p : Nat, l.length - p < N → p ≤ l.length →
    Ev (fun k => tmesisref05_Skip.l0 k l (p : Int)) (((p + (skipS (l.drop p)).1 : Nat) : Int), (skipS (l.drop p)).2) := by
  induction N with
  | zero => intro p h; omega
  | succ N ih =>
    intro p hN hp
    have hb := hl.drop p
    have hml : (l.drop p).length = l.length - p := List.length_drop
    refine Ev.step (fun k => tmesisref05_Skip.l0.eq_2 ..) ?_
    match hm : l.drop p with
    | [] =>
      rw [hm] at hml
      simp only [List.length_nil] at hml
      refine ev_else (by omega) (ev_now ?_)
      rw [skipS_stop rfl]; rfl
    | c :: r =>
      rw [hm] at hml hb
      simp only [List.length_cons] at hml
      have hcb := hb.cons.1
      have cut : ∀ n : Nat, l.drop (p + n) = (c :: r).drop n := fun n => by rw [← hm, List.drop_drop]
      have erd : rd l (p : Int) = c := by
        rw [rd_at l p (by omega)]
        have : (l.drop p)[0]? = some c := by rw [hm]; rfl
        rw [List.getElem?_drop, List.getElem?_eq_getElem (by omega)] at this
        exact Option.some.inj this
      have next : ∀ n : Nat, 1 ≤ n → p + n ≤ l.length → stepS (c :: r) = (n, 0) → Ev (fun k => tmesisref05_Skip.l0 k l ((p + n : Nat) : Int)) (((p + (skipS (c :: r)).1 : Nat) : Int), (skipS (c :: r)).2) := by
        intro n h1 h2 es
        have eg := skipS_go (l := c :: r) (by rw [es]; simp only; omega)
        rw [es] at eg
        refine ev_eq (ih (p + n) (by omega) h2) ?_
        rw [cut, eg]
        simp only [Prod.mk.injEq, and_true]
        omega
      rw [erd]
      refine ev_if (by omega) (ev_if (by omega) (Ev.bind (rof_ev hcb) ?_))
      by_cases h1 : classOf c = 1
      · refine ev_if h1 ?_
        rw [show wrap64 ((p : Int) + 1) = ((p + 1 : Nat) : Int) by rw [w64 (by omega) (by omega)]; omega]
        exact next 1 (by omega) (by omega) (by rw [stepS, if_pos h1])
      · refine ev_else h1 ?_
        by_cases h2 : c = 37
        · refine ev_if h2 ?_
          have hls := lineS_le (c :: r)
          simp only [List.length_cons] at hls
          have h1l : 1 ≤ lineS (c :: r) := by rw [lineS_cons, if_neg (by omega)]; omega
          have es : stepS (c :: r) = (lineS (c :: r), 0) := by rw [stepS, if_neg h1, if_pos h2]
          have line : ∀ (d q : Nat), d + q = p + lineS (c :: r) → p ≤ q → lineS (l.drop q) = d → Ev (fun k => tmesisref05_Skip.l1 k l (q : Int)) (((p + (skipS (c :: r)).1 : Nat) : Int), (skipS (c :: r)).2) := by
            intro d
            induction d with
            | zero =>
              intro q hq hpq hd
              refine Ev.step (fun k => tmesisref05_Skip.l1.eq_2 ..) ?_
              have nx := next (lineS (c :: r)) h1l (by omega) es
              rw [show p + lineS (c :: r) = q by omega] at nx
              by_cases hql : q < l.length
              · have e10 : rd l (q : Int) = 10 := by
                  rw [rd_at l q hql]
                  rw [List.drop_eq_getElem_cons hql, lineS_cons] at hd
                  by_cases h10 : l[q] = 10
                  · exact h10
                  · rw [if_neg h10] at hd; omega
                exact ev_if (by omega) (ev_if (by omega) (ev_if e10 nx))
              · exact ev_else (by omega) nx
            | succ d ihd =>
              intro q hq hpq hd
              have hql : q < l.length := by omega
              rw [List.drop_eq_getElem_cons hql, lineS_cons] at hd
              refine Ev.step (fun k => tmesisref05_Skip.l1.eq_2 ..) ?_
              have n10 : l[q] ≠ 10 := by
                intro h10
                rw [if_pos h10] at hd; omega
              rw [if_neg n10] at hd
              rw [rd_at l q hql]
              refine ev_if (by omega) (ev_if (by omega) (ev_else n10 ?_))
              rw [show wrap64 ((q : Int) + 1) = ((q + 1 : Nat) : Int) by rw [w64 (by omega) (by omega)]; omega]
              exact ihd (q + 1) (by omega) (by omega) (by omega)
          exact line (lineS (c :: r)) p (by omega) (by omega) (by rw [hm])
        · refine ev_else h2 (ev_same (pair_eq hl hn p hp (a := 47) (b := 42) (by omega) (by omega) _ (by decide +kernel)) ?_)
          rw [hm]
          by_cases ht : two 47 42 (c :: r) = true
          · refine ev_if ht ?_
            have rc := rcom_ev l hl hn p hp (by rw [hm]; exact ht)
            rw [hm] at rc
            refine Ev.bind rc ?_
            cases h4 : comS (c :: r) with
            | none =>
              have es : stepS (c :: r) = (0, 14) := by rw [stepS, if_neg h1, if_neg h2, if_pos ht, h4]
              refine ev_if (by show (-1 : Int) < 0; omega) (ev_now ?_)
              rw [skipS_stop (by rw [es]), es]; rfl
            | some n =>
              have es : stepS (c :: r) = (n, 0) := by rw [stepS, if_neg h1, if_neg h2, if_pos ht, h4]
              have hsl := stepS_le (c :: r)
              rw [es] at hsl
              simp only [List.length_cons] at hsl
              have h1n : 1 ≤ n := by
                obtain ⟨m, hm2, rfl⟩ := Option.map_eq_some_iff.1 h4
                omega
              exact ev_else (by show ¬ ((p + n : Nat) : Int) < 0; omega) (next n h1n (by omega) es)
          · have es : stepS (c :: r) = (0, 0) := by rw [stepS, if_neg h1, if_neg h2, if_neg ht]
            refine ev_else ht (ev_now ?_)
            rw [skipS_stop (by rw [es]), es]; rfl
theorem rskip_ev (l : List Int) (hl : Bytes l) (hn : l.length ≤ 1000000) : Ev (fun k => tmesisref05_Skip.f k l) (((skipS l).1 : Int), (skipS l).2) := by
  refine ev_eq (rskip_loop l hl hn (l.length + 1) 0 (by omega) (by omega)) ?_
  simp
theorem LayoutAll : tmesislaw05_LayoutAll.Pure := by
  intro l _ _ hb
  have hb := (bytes_wf hb).take 150
  have hl : (l.take 150).length ≤ 150 := by rw [List.length_take]; omega
  apply Ev.rounds
  unfold tmesislaw05_LayoutAll.f
  refine Ev.bind shown_ev (ev_same (few_eq l) (Ev.bind (skip_ev _ hb (by omega)) (ev_same (few_eq l) (Ev.bind (rskip_ev _ hb (by omega)) ?_))))
  exact ev_if rfl (ev_if rfl (ev_now (by simp)))
end Go.Proofs.YtfmhhjimnhfbaaaDoor.Pure
