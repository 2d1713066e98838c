/- Part of the proof: what the theorem needs of this text. -/
import Derived.Test.YtpkklbdclghcfaaDoorKPx0
namespace Go.Proofs.YtpkklbdclghcfaaDoor.P
open Go.RowKit Go.Proofs.YtpkklbdclghcfaaDoorW.PrintWords Go.Proofs.YtpkklbdclghcfaaDoorW.PrintLast Go.Proofs.YtpkklbdclghcfaaDoorW.PrintMore
attribute [local go_sem] max2_int min2_int max_two min_two max_three min_three max_four min_four   -- for this text's walks alone
set_option linter.unusedVariables false
set_option linter.unusedSimpArgs false
mutual
def tmesisref10_Nest.l0 : Nat → Int → Int → Int → Int → Int → Int → List (S38) → Option (Int)
 | 0, _, _, _, _, _, _, _ => none
 | k + 1, x3, x4, x5, x485000, x485001, x485002, x485003 => if x5 < (x485003.length : Int) then (if 0 ≤ x5 then (if ((rd_T38 x485003 x5).f0) = 6 then (tmesisref10_Nest.j1 k x3 x4 x5 (((rd_T38 x485003 x5).f3).toList == ([40] : List UInt8)) x485000 x485001 x485002 x485003 ((rd_T38 x485003 x5).f0) ((rd_T38 x485003 x5).f1) ((rd_T38 x485003 x5).f2) ((rd_T38 x485003 x5).f3) ((rd_T38 x485003 x5).f4)) else (tmesisref10_Nest.j1 k x3 x4 x5 false x485000 x485001 x485002 x485003 ((rd_T38 x485003 x5).f0) ((rd_T38 x485003 x5).f1) ((rd_T38 x485003 x5).f2) ((rd_T38 x485003 x5).f3) ((rd_T38 x485003 x5).f4))) else (none)) else (some x4)
def tmesisref10_Nest.j1 : Nat → Int → Int → Int → Bool → Int → Int → Int → List (S38) → Int → Int → Int → ByteArray → Int → Option (Int)
 | 0, _, _, _, _, _, _, _, _, _, _, _, _, _ => none
 | k + 1, x3, x4, x5, x26, x485000, x485001, x485002, x485003, x487000, x487001, x487002, x487003, x487004 => if x26 = true then (if x487000 = 6 then (if x487003.toList = ([41] : List UInt8) then (if (wrap64 (x3 + 1)) > 0 then (tmesisref10_Nest.l0 k (wrap64 ((wrap64 (x3 + 1)) - 1)) (mx x4 (wrap64 ((wrap64 (x3 + 1)) - 1))) (wrap64 (x5 + 1)) x485000 x485001 x485002 x485003) else (tmesisref10_Nest.l0 k (wrap64 (x3 + 1)) (mx x4 (wrap64 (x3 + 1))) (wrap64 (x5 + 1)) x485000 x485001 x485002 x485003)) else (tmesisref10_Nest.l0 k (wrap64 (x3 + 1)) (mx x4 (wrap64 (x3 + 1))) (wrap64 (x5 + 1)) x485000 x485001 x485002 x485003)) else (tmesisref10_Nest.l0 k (wrap64 (x3 + 1)) (mx x4 (wrap64 (x3 + 1))) (wrap64 (x5 + 1)) x485000 x485001 x485002 x485003)) else (if x487000 = 6 then (if x487003.toList = ([41] : List UInt8) then (if x3 > 0 then (tmesisref10_Nest.l0 k (wrap64 (x3 - 1)) (mx x4 (wrap64 (x3 - 1))) (wrap64 (x5 + 1)) x485000 x485001 x485002 x485003) else (tmesisref10_Nest.l0 k x3 (mx x4 x3) (wrap64 (x5 + 1)) x485000 x485001 x485002 x485003)) else (tmesisref10_Nest.l0 k x3 (mx x4 x3) (wrap64 (x5 + 1)) x485000 x485001 x485002 x485003)) else (tmesisref10_Nest.l0 k x3 (mx x4 x3) (wrap64 (x5 + 1)) x485000 x485001 x485002 x485003))
end
def tmesisref10_Nest.f (k : Nat) (a0_0 : Int) (a0_1 : Int) (a0_2 : Int) (l0_3 : List (S38)) : Option (Int) := tmesisref10_Nest.l0 k 0 0 0 a0_0 a0_1 a0_2 l0_3
theorem tmesisref10_Nest.mono_l : ∀ k, (∀ y0 y1 y2 y3 y4 y5 y6, LeO (tmesisref10_Nest.l0 k y0 y1 y2 y3 y4 y5 y6) (tmesisref10_Nest.l0 (k + 1) y0 y1 y2 y3 y4 y5 y6)) ∧ (∀ y0 y1 y2 y3 y4 y5 y6 y7 y8 y9 y10 y11 y12, LeO (tmesisref10_Nest.j1 k y0 y1 y2 y3 y4 y5 y6 y7 y8 y9 y10 y11 y12) (tmesisref10_Nest.j1 (k + 1) y0 y1 y2 y3 y4 y5 y6 y7 y8 y9 y10 y11 y12))
 | 0 => ⟨fun _ _ _ _ _ _ _ r h => by simp [tmesisref10_Nest.l0] at h, fun _ _ _ _ _ _ _ _ _ _ _ _ _ r h => by simp [tmesisref10_Nest.j1] at h⟩
 | k + 1 => by
  obtain ⟨ih0, ih1⟩ := tmesisref10_Nest.mono_l k
  refine ⟨?_, ?_⟩
  ·intro y0 y1 y2 y3 y4 y5 y6
   unfold tmesisref10_Nest.l0
   repeat' with_reducible first | exact ih0 _ _ _ _ _ _ _ | exact ih1 _ _ _ _ _ _ _ _ _ _ _ _ _ | exact LeO.refl _ | exact LeO.none _ | refine LeO.ite ?_ ?_ | refine LeO.bind ?_ (fun _ => ?_)
  ·intro y0 y1 y2 y3 y4 y5 y6 y7 y8 y9 y10 y11 y12
   unfold tmesisref10_Nest.j1
   repeat' with_reducible first | exact ih0 _ _ _ _ _ _ _ | exact ih1 _ _ _ _ _ _ _ _ _ _ _ _ _ | exact LeO.refl _ | exact LeO.none _ | refine LeO.ite ?_ ?_ | refine LeO.bind ?_ (fun _ => ?_)
theorem tmesisref10_Nest.mono : ∀ a0 a1 a2 a3 k, LeO (tmesisref10_Nest.f k a0 a1 a2 a3) (tmesisref10_Nest.f (k + 1) a0 a1 a2 a3) := by
 intro a0 a1 a2 a3 k
 obtain ⟨ih0, ih1⟩ := tmesisref10_Nest.mono_l k
 unfold tmesisref10_Nest.f
 repeat' with_reducible first | exact ih0 _ _ _ _ _ _ _ | exact ih1 _ _ _ _ _ _ _ _ _ _ _ _ _ | exact LeO.refl _ | exact LeO.none _ | refine LeO.ite ?_ ?_ | refine LeO.bind ?_ (fun _ => ?_)
set_option maxHeartbeats 8000000 in
set_option maxRecDepth 100000 in
theorem tmesisref10_Nest.calls (k : Nat) (a0_0 : Int) (a0_1 : Int) (a0_2 : Int) (A0_3 : Option Addr) (c0_3 : Nat) (l0_3 : List (S38)) (r : Int) (w : World) (hr0_3 : Kd.C k38 w A0_3 l0_3.length l0_3) (hc0_3 : l0_3.length ≤ c0_3) (h : tmesisref10_Nest.f k a0_0 a0_1 a0_2 l0_3 = some r) :
  Calls Tryd.prog 17 #[.agg #[.int .i64 a0_0, .int .i64 a0_1, .int .i64 a0_2, .slice A0_3 l0_3.length c0_3]] w fun e w' => e = .returned (.int .i64 r) ∧ Below w.heap.size w w' := by
 have hu25 := Tryd.underlying25
 have hu38 := Tryd.underlying38
 have HR0_3 := Aside0.mk hr0_3
 have HC0_3 := Aside0.mk hc0_3
 clear hr0_3 hc0_3
 have HB := Aside0.mk (Below.refl w.heap.size w)
 have H : (tmesisref10_Nest.l0 k 0 0 0 a0_0 a0_1 a0_2 l0_3) = some r := h
 clear h
 have H' := Aside0.mk H
 clear H
 go_enter Tryd.func17, Tryd.ntmps17
 go_wp2_with (first | ((with_reducible refine gate_dst (N := 1) rfl ?_); refine box_event ?hg (N := 1) ?hd (cs := #[.int .i64 a0_0, .int .i64 a0_1, .int .i64 a0_2, .slice A0_3 l0_3.length c0_3]) (t := 25) ?hr ?_; (case hd => rfl); (case hg => rfl); (case hr => first | (go_simp; done) | (go_simp; rfl)); intro gb484 hg w2 hbox hb; have BK484 := Aside0.mk (hbox); have GW484 := Aside0.mk (gE (g := gb484) hg HB.out); have GE484 := Aside0.mk (gE (g := gb484) hg HB.out); replace HB := Aside0.mk (below_step (bAt HB.out) hb); clear hb hbox hg))
 go_loopg [3, 4, 5] k (fun kq v3 v4 v5 w' => ∃ (x3_1 : Int) (x4_1 : Int) (x5_1 : Int), v3 = .int .i64 x3_1 ∧ v4 = .int .i64 x4_1 ∧ v5 = .int .i64 x5_1 ∧ Aside0 (tmesisref10_Nest.l0 kq x3_1 x4_1 x5_1 a0_0 a0_1 a0_2 l0_3 = some r) ∧ Aside0 (kq ≤ k) ∧ Aside0 (w'.heap[gb484]? = some (.cells #[.int .i64 a0_0, .int .i64 a0_1, .int .i64 a0_2, (.slice A0_3 l0_3.length c0_3)] 25 (0, 0))) ∧ Aside0 (Below w.heap.size w w'))
 case atStart => exact ⟨(0), (0), (0), sR, sR, sR, H', ⟨Nat.le_refl _⟩, ⟨kAt BK484.out⟩, ⟨bAt HB.out⟩⟩
 case round =>
  clear H'
  try clear c1
  try clear p2
  obtain ⟨x3_1, x4_1, x5_1, rfl, rfl, rfl, HA, HK1, BK484, HB⟩ := hrel
  cases gk with
  | zero => exact absurd HA.out (by simp [tmesisref10_Nest.l0])
  | succ k1 =>
   have H := HA.out
   clear HA
   simp only [tmesisref10_Nest.l0] at H
   by_cases c3 : x5_1 < (l0_3.length : Int)
   ·rw [if_pos c3] at H
    have c3b0 := decide_eq_true c3
    clear c3
    by_cases c4 : 0 ≤ x5_1
    ·rw [if_pos c4] at H
     have c4b0 := decide_eq_true c4
     clear c4
     have HC5 := Aside0.mk H
     clear H
     obtain ⟨hcz6_0, hcz6_1, hcz6_2, hcz6_3, hfz6_0, hfz6_1, hfz6_2, hfz6_3⟩ := blk4 BK484.out
     have p485 : 0 ≤ (x5_1 : Int) := dt
     have q485 : x5_1 < (l0_3.length : Int) := dt
     obtain ⟨ad485, e485, hx485_0, hx485_1, hx485_2, hx485_3, hx485_4⟩ := at_T38 HR0_3.out x5_1 p485 q485
     cases e485
     replace hx485_0 := pw_cell_below HB.out hx485_0
     replace hx485_1 := pw_cell_below HB.out hx485_1
     replace hx485_2 := pw_cell_below HB.out hx485_2
     replace hx485_3 := pw_cell_below HB.out hx485_3
     replace hx485_4 := pw_cell_below HB.out hx485_4
     replace p485 := eq_true p485
     replace q485 := eq_true q485
     go_upto_region 7 with (first | ((with_reducible refine gate_dst (N := 6) rfl ?_); refine box_event ?hg (N := 6) ?hd (cs := #[.int .i64 0, .int .i64 0, .int .i64 0, .string (⟨#[]⟩ : ByteArray), .int .i64 0]) (t := 38) ?hr ?_; (case hd => rfl); (case hg => rfl); (case hr => first | (go_simp; done) | (go_simp; rfl)); intro gb486 hg w7 hbox hb; have BK486 := Aside0.mk (hbox); have GW486 := Aside0.mk (gE (g := gb486) hg HB.out); have GE486 := Aside0.mk (gE (g := gb486) hg HB.out); replace HB := Aside0.mk (below_step (bAt HB.out) hb); have NB484_486 := Aside0.mk ((by rw [hg]; exact Nat.ne_of_lt (blk_lt (g := gb484) (o := .cells #[.int .i64 a0_0, .int .i64 a0_1, .int .i64 a0_2, .slice (some ad485) l0_3.length c0_3] 25 (0, 0)) (kAt BK484.out)) : gb484 ≠ gb486)); have NB486_484 := Aside0.mk ((by rw [hg]; exact Nat.ne_of_gt (blk_lt (g := gb484) (o := .cells #[.int .i64 a0_0, .int .i64 a0_1, .int .i64 a0_2, .slice (some ad485) l0_3.length c0_3] 25 (0, 0)) (kAt BK484.out)) : gb486 ≠ gb484)); replace BK484 := Aside0.mk (blk_below (g := gb484) (o := .cells #[.int .i64 a0_0, .int .i64 a0_1, .int .i64 a0_2, .slice (some ad485) l0_3.length c0_3] 25 (0, 0)) (kAt BK484.out) hb); clear hb hbox hg; have hnb8 := NB486_484.out; have hnc8 := NB484_486.out; obtain ⟨hcz9_0, hcz9_1, hcz9_2, hcz9_3, hcz9_4, hfz9_0, hfz9_1, hfz9_2, hfz9_3, hfz9_4⟩ := blk5 BK486.out))
     (try simp only [Act.put, List.setIfInBounds_toArray, List.set_cons_zero, List.set_cons_succ])
     go_cut [26] (fun v26 wc => ∃ (kq : Nat) (x26_4 : Bool), v26 = .bool x26_4 ∧ Aside0 (tmesisref10_Nest.j1 kq x3_1 x4_1 x5_1 x26_4 a0_0 a0_1 a0_2 l0_3 ((rd_T38 l0_3 x5_1).f0) ((rd_T38 l0_3 x5_1).f1) ((rd_T38 l0_3 x5_1).f2) ((rd_T38 l0_3 x5_1).f3) ((rd_T38 l0_3 x5_1).f4) = some r) ∧ Aside0 (kq ≤ k1) ∧ Aside0 (wc.heap[gb484]? = some (.cells #[.int .i64 a0_0, .int .i64 a0_1, .int .i64 a0_2, (.slice (some ad485) l0_3.length c0_3)] 25 (0, 0))) ∧ Aside0 (wc.heap[gb486]? = some (.cells #[.int .i64 ((rd_T38 l0_3 x5_1).f0), .int .i64 ((rd_T38 l0_3 x5_1).f1), .int .i64 ((rd_T38 l0_3 x5_1).f2), .string ((rd_T38 l0_3 x5_1).f3), .int .i64 ((rd_T38 l0_3 x5_1).f4)] 38 (0, 0))) ∧ Aside0 (Below w.heap.size w wc))
     case first =>
      have H := HC5.out
      clear HC5
      by_cases c10 : ((rd_T38 l0_3 x5_1).f0) = 6
      ·rw [if_pos c10] at H
       obtain ⟨c10b0, c10b1⟩ := eqB c10
       clear c10
       (first | rw [c10b0] | (simp only [i64_w, i32_w]; rw [c10b0]) | skip)
       have H' := Aside0.mk H
       clear H
       have hnb11 := NB486_484.out
       have hnc11 := NB484_486.out
       obtain ⟨hcz12_0, hcz12_1, hcz12_2, hcz12_3, hcz12_4, hfz12_0, hfz12_1, hfz12_2, hfz12_3, hfz12_4⟩ := blk5 BK486.out
       go_wp2
       go_meet
       case rel => exact ⟨_, ((((rd_T38 l0_3 x5_1).f3).toList == ([40] : List UInt8))), sR, H', ⟨by have := HK1.out; first | omega | exact Nat.le_refl _⟩, ⟨by (with_reducible repeat (first | refine blk_drewN ?_ _ | refine blk_drew ?_ | refine blk_alloc ?_ _)); refine blk_far ?_ NB484_486.out _; (with_reducible repeat (first | refine blk_drewN ?_ _ | refine blk_drew ?_ | refine blk_alloc ?_ _)); refine blk_far ?_ NB484_486.out _; (with_reducible repeat (first | refine blk_drewN ?_ _ | refine blk_drew ?_ | refine blk_alloc ?_ _)); refine blk_far ?_ NB484_486.out _; (with_reducible repeat (first | refine blk_drewN ?_ _ | refine blk_drew ?_ | refine blk_alloc ?_ _)); refine blk_far ?_ NB484_486.out _; (with_reducible repeat (first | refine blk_drewN ?_ _ | refine blk_drew ?_ | refine blk_alloc ?_ _)); refine blk_far ?_ NB484_486.out _; (with_reducible repeat (first | refine blk_drewN ?_ _ | refine blk_drew ?_ | refine blk_alloc ?_ _)); exact BK484.out⟩, ⟨by refine bP #[.int .i64 ((rd_T38 l0_3 x5_1).f0), .int .i64 ((rd_T38 l0_3 x5_1).f1), .int .i64 ((rd_T38 l0_3 x5_1).f2), .string ((rd_T38 l0_3 x5_1).f3), .int .i64 0] 4 ?_; refine bP #[.int .i64 ((rd_T38 l0_3 x5_1).f0), .int .i64 ((rd_T38 l0_3 x5_1).f1), .int .i64 ((rd_T38 l0_3 x5_1).f2), .string (⟨#[]⟩ : ByteArray), .int .i64 0] 3 ?_; refine bP #[.int .i64 ((rd_T38 l0_3 x5_1).f0), .int .i64 ((rd_T38 l0_3 x5_1).f1), .int .i64 0, .string (⟨#[]⟩ : ByteArray), .int .i64 0] 2 ?_; refine bP #[.int .i64 ((rd_T38 l0_3 x5_1).f0), .int .i64 0, .int .i64 0, .string (⟨#[]⟩ : ByteArray), .int .i64 0] 1 ?_; refine bP #[.int .i64 0, .int .i64 0, .int .i64 0, .string (⟨#[]⟩ : ByteArray), .int .i64 0] 0 ?_; (with_reducible repeat (first | refine blk_drewN ?_ _ | refine blk_drew ?_ | refine blk_alloc ?_ _)); exact BK486.out⟩, ⟨bAt HB.out⟩⟩
      ·rw [if_neg c10] at H
       obtain ⟨c10b0, c10b1⟩ := neB c10
       (first | rw [c10b0] | (simp only [i64_w, i32_w]; rw [c10b0]) | skip)
       have H' := Aside0.mk H
       clear H
       have hnb13 := NB486_484.out
       have hnc13 := NB484_486.out
       obtain ⟨hcz14_0, hcz14_1, hcz14_2, hcz14_3, hcz14_4, hfz14_0, hfz14_1, hfz14_2, hfz14_3, hfz14_4⟩ := blk5 BK486.out
       go_wp2
       go_meet
       case rel => exact ⟨_, (false), sR, H', ⟨by have := HK1.out; first | omega | exact Nat.le_refl _⟩, ⟨by (with_reducible repeat (first | refine blk_drewN ?_ _ | refine blk_drew ?_ | refine blk_alloc ?_ _)); refine blk_far ?_ NB484_486.out _; (with_reducible repeat (first | refine blk_drewN ?_ _ | refine blk_drew ?_ | refine blk_alloc ?_ _)); refine blk_far ?_ NB484_486.out _; (with_reducible repeat (first | refine blk_drewN ?_ _ | refine blk_drew ?_ | refine blk_alloc ?_ _)); refine blk_far ?_ NB484_486.out _; (with_reducible repeat (first | refine blk_drewN ?_ _ | refine blk_drew ?_ | refine blk_alloc ?_ _)); refine blk_far ?_ NB484_486.out _; (with_reducible repeat (first | refine blk_drewN ?_ _ | refine blk_drew ?_ | refine blk_alloc ?_ _)); refine blk_far ?_ NB484_486.out _; (with_reducible repeat (first | refine blk_drewN ?_ _ | refine blk_drew ?_ | refine blk_alloc ?_ _)); exact BK484.out⟩, ⟨by refine bP #[.int .i64 ((rd_T38 l0_3 x5_1).f0), .int .i64 ((rd_T38 l0_3 x5_1).f1), .int .i64 ((rd_T38 l0_3 x5_1).f2), .string ((rd_T38 l0_3 x5_1).f3), .int .i64 0] 4 ?_; refine bP #[.int .i64 ((rd_T38 l0_3 x5_1).f0), .int .i64 ((rd_T38 l0_3 x5_1).f1), .int .i64 ((rd_T38 l0_3 x5_1).f2), .string (⟨#[]⟩ : ByteArray), .int .i64 0] 3 ?_; refine bP #[.int .i64 ((rd_T38 l0_3 x5_1).f0), .int .i64 ((rd_T38 l0_3 x5_1).f1), .int .i64 0, .string (⟨#[]⟩ : ByteArray), .int .i64 0] 2 ?_; refine bP #[.int .i64 ((rd_T38 l0_3 x5_1).f0), .int .i64 0, .int .i64 0, .string (⟨#[]⟩ : ByteArray), .int .i64 0] 1 ?_; refine bP #[.int .i64 0, .int .i64 0, .int .i64 0, .string (⟨#[]⟩ : ByteArray), .int .i64 0] 0 ?_; (with_reducible repeat (first | refine blk_drewN ?_ _ | refine blk_drew ?_ | refine blk_alloc ?_ _)); exact BK486.out⟩, ⟨bAt HB.out⟩⟩
     case rest =>
      clear HC5
      try clear c1
      try clear p2
      try clear c3
      try clear c3b0
      try clear c4
      try clear c4b0
      try clear p4
      try clear q4
      try clear hx4
      try clear c8
      try clear c10
      try clear c10b0 c10b1
      try clear c11
      try clear c13
      try clear hcz12_0
      try clear hcz12_1
      try clear hcz12_2
      try clear hcz12_3
      try clear hcz12_4
      try clear hcz14_0
      try clear hcz14_1
      try clear hcz14_2
      try clear hcz14_3
      try clear hcz14_4
      try clear hcz6_0
      try clear hcz6_1
      try clear hcz6_2
      try clear hcz6_3
      try clear hcz9_0
      try clear hcz9_1
      try clear hcz9_2
      try clear hcz9_3
      try clear hcz9_4
      try clear hfz12_0
      try clear hfz12_1
      try clear hfz12_2
      try clear hfz12_3
      try clear hfz12_4
      try clear hfz14_0
      try clear hfz14_1
      try clear hfz14_2
      try clear hfz14_3
      try clear hfz14_4
      try clear hfz6_0
      try clear hfz6_1
      try clear hfz6_2
      try clear hfz6_3
      try clear hfz9_0
      try clear hfz9_1
      try clear hfz9_2
      try clear hfz9_3
      try clear hfz9_4
      try clear hx485_0
      try clear hx485_1
      try clear hx485_2
      try clear hx485_3
      try clear hx485_4
      try clear p2
      try clear p485
      try clear q485
      obtain ⟨kq, x26_4, rfl, HA, HJ4, BK484, BK486, HB⟩ := hcut
      cases kq with
      | zero => exact absurd HA.out (by simp [tmesisref10_Nest.j1])
      | succ kj4 =>
       have H := HA.out
       clear HA
       simp only [tmesisref10_Nest.j1] at H
       by_cases c15 : x26_4 = true
       ·subst c15
        replace H := tP H
        by_cases c16 : ((rd_T38 l0_3 x5_1).f0) = 6
        ·rw [if_pos c16] at H
         obtain ⟨c16b0, c16b1⟩ := eqB c16
         clear c16
         by_cases c17 : ((rd_T38 l0_3 x5_1).f3).toList = ([41] : List UInt8)
         ·rw [if_pos c17] at H
          obtain ⟨c17b0, c17b1⟩ := eqB c17
          clear c17
          by_cases c18 : (wrap64 (x3_1 + 1)) > 0
          ·rw [if_pos c18] at H
           have c18b0 : decide (0 < (wrap64 (x3_1 + 1))) = true := decide_eq_true c18
           clear c18
           obtain ⟨ji19, hji19⟩ : ∃ j_ : Int, (mx x4_1 (wrap64 ((wrap64 (x3_1 + 1)) - 1))) = j_ := ⟨_, rfl⟩
           replace H : (tmesisref10_Nest.l0 kj4 (wrap64 ((wrap64 (x3_1 + 1)) - 1)) ji19 (wrap64 (x5_1 + 1)) a0_0 a0_1 a0_2 l0_3) = some r := by first | (rw [hji19] at H; exact H) | (simp only [hji19] at H ⊢; exact H)
           have hji19_ : (if x4_1 < (wrap64 ((wrap64 (x3_1 + 1)) - 1)) then (wrap64 ((wrap64 (x3_1 + 1)) - 1)) else x4_1) = ji19 := hji19
           have H' := Aside0.mk H
           clear H
           have hnb20 := NB486_484.out
           have hnc20 := NB484_486.out
           obtain ⟨hcz21_0, hcz21_1, hcz21_2, hcz21_3, hcz21_4, hfz21_0, hfz21_1, hfz21_2, hfz21_3, hfz21_4⟩ := blk5 BK486.out
           go_wp2
           go_roundg kj4
           case measure => have := HK1.out; have := HJ4.out; omega
           case rel => exact ⟨(wrap64 ((wrap64 (x3_1 + 1)) - 1)), (ji19), (wrap64 (x5_1 + 1)), sR, (by first | rfl | (simp; done) | (simp only [← hji19] <;> (first | rfl | simp)) | (simp [*]; done)), sR, H', ⟨by have := HK1.out; have := HJ4.out; omega⟩, ⟨kAt BK484.out⟩, ⟨bAt HB.out⟩⟩
          ·rw [if_neg c18] at H
           have c18b0 : decide (0 < (wrap64 (x3_1 + 1))) = false := decide_eq_false c18
           clear c18
           obtain ⟨ji22, hji22⟩ : ∃ j_ : Int, (mx x4_1 (wrap64 (x3_1 + 1))) = j_ := ⟨_, rfl⟩
           replace H : (tmesisref10_Nest.l0 kj4 (wrap64 (x3_1 + 1)) ji22 (wrap64 (x5_1 + 1)) a0_0 a0_1 a0_2 l0_3) = some r := by first | (rw [hji22] at H; exact H) | (simp only [hji22] at H ⊢; exact H)
           have hji22_ : (if x4_1 < (wrap64 (x3_1 + 1)) then (wrap64 (x3_1 + 1)) else x4_1) = ji22 := hji22
           have H' := Aside0.mk H
           clear H
           have hnb23 := NB486_484.out
           have hnc23 := NB484_486.out
           obtain ⟨hcz24_0, hcz24_1, hcz24_2, hcz24_3, hcz24_4, hfz24_0, hfz24_1, hfz24_2, hfz24_3, hfz24_4⟩ := blk5 BK486.out
           go_wp2
           go_roundg kj4
           case measure => have := HK1.out; have := HJ4.out; omega
           case rel => exact ⟨(wrap64 (x3_1 + 1)), (ji22), (wrap64 (x5_1 + 1)), sR, (by first | rfl | (simp; done) | (simp only [← hji22] <;> (first | rfl | simp)) | (simp [*]; done)), sR, H', ⟨by have := HK1.out; have := HJ4.out; omega⟩, ⟨kAt BK484.out⟩, ⟨bAt HB.out⟩⟩
         ·rw [if_neg c17] at H
          obtain ⟨c17b0, c17b1⟩ := neB c17
          obtain ⟨ji25, hji25⟩ : ∃ j_ : Int, (mx x4_1 (wrap64 (x3_1 + 1))) = j_ := ⟨_, rfl⟩
          replace H : (tmesisref10_Nest.l0 kj4 (wrap64 (x3_1 + 1)) ji25 (wrap64 (x5_1 + 1)) a0_0 a0_1 a0_2 l0_3) = some r := by first | (rw [hji25] at H; exact H) | (simp only [hji25] at H ⊢; exact H)
          have hji25_ : (if x4_1 < (wrap64 (x3_1 + 1)) then (wrap64 (x3_1 + 1)) else x4_1) = ji25 := hji25
          have H' := Aside0.mk H
          clear H
          have hnb26 := NB486_484.out
          have hnc26 := NB484_486.out
          obtain ⟨hcz27_0, hcz27_1, hcz27_2, hcz27_3, hcz27_4, hfz27_0, hfz27_1, hfz27_2, hfz27_3, hfz27_4⟩ := blk5 BK486.out
          go_wp2
          go_roundg kj4
          case measure => have := HK1.out; have := HJ4.out; omega
          case rel => exact ⟨(wrap64 (x3_1 + 1)), (ji25), (wrap64 (x5_1 + 1)), sR, (by first | rfl | (simp; done) | (simp only [← hji25] <;> (first | rfl | simp)) | (simp [*]; done)), sR, H', ⟨by have := HK1.out; have := HJ4.out; omega⟩, ⟨kAt BK484.out⟩, ⟨bAt HB.out⟩⟩
        ·rw [if_neg c16] at H
         obtain ⟨c16b0, c16b1⟩ := neB c16
         obtain ⟨ji28, hji28⟩ : ∃ j_ : Int, (mx x4_1 (wrap64 (x3_1 + 1))) = j_ := ⟨_, rfl⟩
         replace H : (tmesisref10_Nest.l0 kj4 (wrap64 (x3_1 + 1)) ji28 (wrap64 (x5_1 + 1)) a0_0 a0_1 a0_2 l0_3) = some r := by first | (rw [hji28] at H; exact H) | (simp only [hji28] at H ⊢; exact H)
         have hji28_ : (if x4_1 < (wrap64 (x3_1 + 1)) then (wrap64 (x3_1 + 1)) else x4_1) = ji28 := hji28
         have H' := Aside0.mk H
         clear H
         have hnb29 := NB486_484.out
         have hnc29 := NB484_486.out
         obtain ⟨hcz30_0, hcz30_1, hcz30_2, hcz30_3, hcz30_4, hfz30_0, hfz30_1, hfz30_2, hfz30_3, hfz30_4⟩ := blk5 BK486.out
         go_wp2
         go_roundg kj4
         case measure => have := HK1.out; have := HJ4.out; omega
         case rel => exact ⟨(wrap64 (x3_1 + 1)), (ji28), (wrap64 (x5_1 + 1)), sR, (by first | rfl | (simp; done) | (simp only [← hji28] <;> (first | rfl | simp)) | (simp [*]; done)), sR, H', ⟨by have := HK1.out; have := HJ4.out; omega⟩, ⟨kAt BK484.out⟩, ⟨bAt HB.out⟩⟩
       ·replace c15 := Bool.eq_false_iff.mpr c15
        subst c15
        replace H := fP H
        by_cases c31 : ((rd_T38 l0_3 x5_1).f0) = 6
        ·rw [if_pos c31] at H
         obtain ⟨c31b0, c31b1⟩ := eqB c31
         clear c31
         by_cases c32 : ((rd_T38 l0_3 x5_1).f3).toList = ([41] : List UInt8)
         ·rw [if_pos c32] at H
          obtain ⟨c32b0, c32b1⟩ := eqB c32
          clear c32
          by_cases c33 : x3_1 > 0
          ·rw [if_pos c33] at H
           have c33b0 : decide (0 < x3_1) = true := decide_eq_true c33
           clear c33
           obtain ⟨ji34, hji34⟩ : ∃ j_ : Int, (mx x4_1 (wrap64 (x3_1 - 1))) = j_ := ⟨_, rfl⟩
           replace H : (tmesisref10_Nest.l0 kj4 (wrap64 (x3_1 - 1)) ji34 (wrap64 (x5_1 + 1)) a0_0 a0_1 a0_2 l0_3) = some r := by first | (rw [hji34] at H; exact H) | (simp only [hji34] at H ⊢; exact H)
           have hji34_ : (if x4_1 < (wrap64 (x3_1 - 1)) then (wrap64 (x3_1 - 1)) else x4_1) = ji34 := hji34
           have H' := Aside0.mk H
           clear H
           have hnb35 := NB486_484.out
           have hnc35 := NB484_486.out
           obtain ⟨hcz36_0, hcz36_1, hcz36_2, hcz36_3, hcz36_4, hfz36_0, hfz36_1, hfz36_2, hfz36_3, hfz36_4⟩ := blk5 BK486.out
           go_wp2
           go_roundg kj4
           case measure => have := HK1.out; have := HJ4.out; omega
           case rel => exact ⟨(wrap64 (x3_1 - 1)), (ji34), (wrap64 (x5_1 + 1)), sR, (by first | rfl | (simp; done) | (simp only [← hji34] <;> (first | rfl | simp)) | (simp [*]; done)), sR, H', ⟨by have := HK1.out; have := HJ4.out; omega⟩, ⟨kAt BK484.out⟩, ⟨bAt HB.out⟩⟩
          ·rw [if_neg c33] at H
           have c33b0 : decide (0 < x3_1) = false := decide_eq_false c33
           clear c33
           obtain ⟨ji37, hji37⟩ : ∃ j_ : Int, (mx x4_1 x3_1) = j_ := ⟨_, rfl⟩
           replace H : (tmesisref10_Nest.l0 kj4 x3_1 ji37 (wrap64 (x5_1 + 1)) a0_0 a0_1 a0_2 l0_3) = some r := by first | (rw [hji37] at H; exact H) | (simp only [hji37] at H ⊢; exact H)
           have hji37_ : (if x4_1 < x3_1 then x3_1 else x4_1) = ji37 := hji37
           have H' := Aside0.mk H
           clear H
           have hnb38 := NB486_484.out
           have hnc38 := NB484_486.out
           obtain ⟨hcz39_0, hcz39_1, hcz39_2, hcz39_3, hcz39_4, hfz39_0, hfz39_1, hfz39_2, hfz39_3, hfz39_4⟩ := blk5 BK486.out
           go_wp2
           go_roundg kj4
           case measure => have := HK1.out; have := HJ4.out; omega
           case rel => exact ⟨(x3_1), (ji37), (wrap64 (x5_1 + 1)), sR, (by first | rfl | (simp; done) | (simp only [← hji37] <;> (first | rfl | simp)) | (simp [*]; done)), sR, H', ⟨by have := HK1.out; have := HJ4.out; omega⟩, ⟨kAt BK484.out⟩, ⟨bAt HB.out⟩⟩
         ·rw [if_neg c32] at H
          obtain ⟨c32b0, c32b1⟩ := neB c32
          obtain ⟨ji40, hji40⟩ : ∃ j_ : Int, (mx x4_1 x3_1) = j_ := ⟨_, rfl⟩
          replace H : (tmesisref10_Nest.l0 kj4 x3_1 ji40 (wrap64 (x5_1 + 1)) a0_0 a0_1 a0_2 l0_3) = some r := by first | (rw [hji40] at H; exact H) | (simp only [hji40] at H ⊢; exact H)
          have hji40_ : (if x4_1 < x3_1 then x3_1 else x4_1) = ji40 := hji40
          have H' := Aside0.mk H
          clear H
          have hnb41 := NB486_484.out
          have hnc41 := NB484_486.out
          obtain ⟨hcz42_0, hcz42_1, hcz42_2, hcz42_3, hcz42_4, hfz42_0, hfz42_1, hfz42_2, hfz42_3, hfz42_4⟩ := blk5 BK486.out
          go_wp2
          go_roundg kj4
          case measure => have := HK1.out; have := HJ4.out; omega
          case rel => exact ⟨(x3_1), (ji40), (wrap64 (x5_1 + 1)), sR, (by first | rfl | (simp; done) | (simp only [← hji40] <;> (first | rfl | simp)) | (simp [*]; done)), sR, H', ⟨by have := HK1.out; have := HJ4.out; omega⟩, ⟨kAt BK484.out⟩, ⟨bAt HB.out⟩⟩
        ·rw [if_neg c31] at H
         obtain ⟨c31b0, c31b1⟩ := neB c31
         obtain ⟨ji43, hji43⟩ : ∃ j_ : Int, (mx x4_1 x3_1) = j_ := ⟨_, rfl⟩
         replace H : (tmesisref10_Nest.l0 kj4 x3_1 ji43 (wrap64 (x5_1 + 1)) a0_0 a0_1 a0_2 l0_3) = some r := by first | (rw [hji43] at H; exact H) | (simp only [hji43] at H ⊢; exact H)
         have hji43_ : (if x4_1 < x3_1 then x3_1 else x4_1) = ji43 := hji43
         have H' := Aside0.mk H
         clear H
         have hnb44 := NB486_484.out
         have hnc44 := NB484_486.out
         obtain ⟨hcz45_0, hcz45_1, hcz45_2, hcz45_3, hcz45_4, hfz45_0, hfz45_1, hfz45_2, hfz45_3, hfz45_4⟩ := blk5 BK486.out
         go_wp2
         go_roundg kj4
         case measure => have := HK1.out; have := HJ4.out; omega
         case rel => exact ⟨(x3_1), (ji43), (wrap64 (x5_1 + 1)), sR, (by first | rfl | (simp; done) | (simp only [← hji43] <;> (first | rfl | simp)) | (simp [*]; done)), sR, H', ⟨by have := HK1.out; have := HJ4.out; omega⟩, ⟨kAt BK484.out⟩, ⟨bAt HB.out⟩⟩
    ·exact nB H c4
   ·rw [if_neg c3] at H
    have c3b0 := decide_eq_false c3
    clear c3
    obtain rfl := Option.some.inj H
    obtain ⟨hcz46_0, hcz46_1, hcz46_2, hcz46_3, hfz46_0, hfz46_1, hfz46_2, hfz46_3⟩ := blk4 BK484.out
    go_wp2
    go_ret
    exact ⟨eR, bAt HB.out⟩
end Go.Proofs.YtpkklbdclghcfaaDoor.P
