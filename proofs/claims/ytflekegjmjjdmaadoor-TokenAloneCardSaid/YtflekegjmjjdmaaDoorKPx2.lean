/- Part of the proof: what the theorem needs of this text. -/
import Derived.Test.YtflekegjmjjdmaaDoorKHG
import Derived.Test.YtflekegjmjjdmaaDoorKPx0
namespace Go.Proofs.YtflekegjmjjdmaaDoor.P
open Go.RowKit Go.Proofs.YtflekegjmjjdmaaDoorW.PrintWords Go.Proofs.YtflekegjmjjdmaaDoorW.PrintLast Go.Proofs.YtflekegjmjjdmaaDoorW.PrintMore
attribute [local go_sem] max2_int min2_int max_two min_two max_three min_three max_four min_four   -- for this text's walks alone
set_option linter.unusedVariables false
set_option linter.unusedSimpArgs false
def utf_behind.j0 : Nat → Int → Bool → Option (Int × Int × Int)
 | 0, _, _ => none
 | k + 1, x0, x7 => if x7 = true then (some (0, 0, (-1))) else (if x0 < 224 then (some (128, 191, 1)) else (if x0 = 224 then (some (160, 191, 2)) else (if x0 = 237 then (some (128, 159, 2)) else (if x0 < 240 then (some (128, 191, 2)) else (if x0 = 240 then (some (144, 191, 3)) else (if x0 = 244 then (some (128, 143, 3)) else (some (128, 191, 3))))))))
def utf_behind.f (k : Nat) (a0 : Int) : Option (Int × Int × Int) := if a0 < 128 then (some (0, 0, 0)) else (if a0 < 194 then (utf_behind.j0 k a0 true) else (utf_behind.j0 k a0 (decide (a0 > 244))))
theorem utf_behind.mono_l : ∀ k, (∀ y0 y1, LeO (utf_behind.j0 k y0 y1) (utf_behind.j0 (k + 1) y0 y1))
 | 0 => fun _ _ r h => by simp [utf_behind.j0] at h
 | k + 1 => by
  have ih0 := utf_behind.mono_l k
  ·intro y0 y1
   unfold utf_behind.j0
   repeat' with_reducible first | exact ih0 _ _ | exact LeO.refl _ | exact LeO.none _ | refine LeO.ite ?_ ?_ | refine LeO.bind ?_ (fun _ => ?_)
theorem utf_behind.mono : ∀ a0 k, LeO (utf_behind.f k a0) (utf_behind.f (k + 1) a0) := by
 intro a0 k
 have ih0 := utf_behind.mono_l k
 unfold utf_behind.f
 repeat' with_reducible first | exact ih0 _ _ | exact LeO.refl _ | exact LeO.none _ | refine LeO.ite ?_ ?_ | refine LeO.bind ?_ (fun _ => ?_)
set_option maxHeartbeats 8000000 in
set_option maxRecDepth 100000 in
theorem utf_behind.calls (k : Nat) (a0 : Int) (r1 : Int) (r2 : Int) (r3 : Int) (w : World) (h : utf_behind.f k a0 = some (r1, r2, r3)) :
  Calls Tryd.prog 52 #[.int .u8 a0] w fun e w' => e = .returned (.agg #[.int .u8 r1, .int .u8 r2, .int .i64 r3]) ∧ Below w.heap.size w w' := by
 have hu64 := Tryd.underlying64
 have HB := Aside0.mk (Below.refl w.heap.size w)
 have H : (if a0 < 128 then (some (0, 0, 0)) else (if a0 < 194 then (utf_behind.j0 k a0 true) else (utf_behind.j0 k a0 (decide (a0 > 244))))) = some (r1, r2, r3) := h
 clear h
 by_cases c2 : a0 < 128
 ·rw [if_pos c2] at H
  have c2b0 := decide_eq_true c2
  clear c2
  simp only [Option.some.injEq, Prod.mk.injEq] at H
  obtain ⟨rfl, rfl, rfl⟩ := H
  go_enter Tryd.func52, Tryd.ntmps52
  go_wp2_with (first | ((with_reducible refine gate_dst (N := 2) rfl ?_); refine box_event ?hg (N := 2) ?hd (cs := #[.int .u8 0, .int .u8 0, .int .i64 0]) (t := 64) ?hr ?_; (case hd => rfl); (case hg => rfl); (case hr => first | (go_simp; done) | (go_simp; rfl)); intro gb101 hg w3 hbox hb; have BK101 := Aside0.mk (hbox); have GW101 := Aside0.mk (gE (g := gb101) hg HB.out); have GE101 := Aside0.mk (gE (g := gb101) hg HB.out); replace HB := Aside0.mk (below_step (bAt HB.out) hb); clear hb hbox hg; obtain ⟨hcz4_0, hcz4_1, hcz4_2, hfz4_0, hfz4_1, hfz4_2⟩ := blk3 BK101.out))
  refine bodyPost_ret (results_cell_row rfl _ _ gb101 64 #[.int .u8 0, .int .u8 0, .int .i64 0] (0, 0) _ rfl (by refine bP #[.int .u8 0, .int .u8 0, .int .i64 0] 2 ?_; refine bP #[.int .u8 0, .int .u8 0, .int .i64 0] 1 ?_; refine bP #[.int .u8 0, .int .u8 0, .int .i64 0] 0 ?_; (with_reducible repeat (first | refine blk_drewN ?_ _ | refine blk_drew ?_ | refine blk_alloc ?_ _)); exact BK101.out) Tryd.underlying64 rfl (by kernel_rfl)) rfl ?_
  exact ⟨eR, bAt HB.out⟩
 ·rw [if_neg c2] at H
  have c2b0 := decide_eq_false c2
  clear c2
  have HC5 := Aside0.mk H
  clear H
  go_enter Tryd.func52, Tryd.ntmps52
  go_upto_region 3 with (first | ((with_reducible refine gate_dst (N := 2) rfl ?_); refine box_event ?hg (N := 2) ?hd (cs := #[.int .u8 0, .int .u8 0, .int .i64 0]) (t := 64) ?hr ?_; (case hd => rfl); (case hg => rfl); (case hr => first | (go_simp; done) | (go_simp; rfl)); intro gb101 hg w6 hbox hb; have BK101 := Aside0.mk (hbox); have GW101 := Aside0.mk (gE (g := gb101) hg HB.out); have GE101 := Aside0.mk (gE (g := gb101) hg HB.out); replace HB := Aside0.mk (below_step (bAt HB.out) hb); clear hb hbox hg))
  (try simp only [Act.put, List.setIfInBounds_toArray, List.set_cons_zero, List.set_cons_succ])
  go_cut [7] (fun v7 wc => ∃ (kq : Nat) (x7_4 : Bool), v7 = .bool x7_4 ∧ Aside0 (utf_behind.j0 kq a0 x7_4 = some (r1, r2, r3)) ∧ Aside0 (kq ≤ k) ∧ Aside0 (wc.heap[gb101]? = some (.cells #[.int .u8 0, .int .u8 0, .int .i64 0] 64 (0, 0))) ∧ Aside0 (Below w.heap.size w wc))
  case first =>
   have H := HC5.out
   clear HC5
   by_cases c7 : a0 < 194
   ·rw [if_pos c7] at H
    have c7b0 := decide_eq_true c7
    clear c7
    (first | rw [c7b0] | (simp only [i64_w, i32_w]; rw [c7b0]) | skip)
    have H' := Aside0.mk H
    clear H
    go_wp2
    go_meet
    case rel => exact ⟨_, (true), sR, H', ⟨by first | omega | exact Nat.le_refl _⟩, ⟨kAt BK101.out⟩, ⟨bAt HB.out⟩⟩
   ·rw [if_neg c7] at H
    have c7b0 := decide_eq_false c7
    clear c7
    (first | rw [c7b0] | (simp only [i64_w, i32_w]; rw [c7b0]) | skip)
    have H' := Aside0.mk H
    clear H
    go_wp2
    go_meet
    case rel => exact ⟨_, (decide (a0 > 244)), sR, H', ⟨by first | omega | exact Nat.le_refl _⟩, ⟨kAt BK101.out⟩, ⟨bAt HB.out⟩⟩
  case rest =>
   clear HC5
   try clear c2
   try clear c2b0
   try clear p2
   try clear c5
   try clear c7
   try clear c7b0
   try clear hcz4_0
   try clear hcz4_1
   try clear hcz4_2
   try clear hfz4_0
   try clear hfz4_1
   try clear hfz4_2
   obtain ⟨kq, x7_4, rfl, HA, HJ4, BK101, HB⟩ := hcut
   cases kq with
   | zero => exact absurd HA.out (by simp [utf_behind.j0])
   | succ kj4 =>
    have H := HA.out
    clear HA
    simp only [utf_behind.j0] at H
    by_cases c8 : x7_4 = true
    ·subst c8
     replace H := tP H
     simp only [Option.some.injEq, Prod.mk.injEq] at H
     obtain ⟨rfl, rfl, rfl⟩ := H
     obtain ⟨hcz9_0, hcz9_1, hcz9_2, hfz9_0, hfz9_1, hfz9_2⟩ := blk3 BK101.out
     go_wp2
     refine bodyPost_ret (results_cell_row rfl _ _ gb101 64 #[.int .u8 0, .int .u8 0, .int .i64 (-1)] (0, 0) _ rfl (by refine bP #[.int .u8 0, .int .u8 0, .int .i64 0] 2 ?_; refine bP #[.int .u8 0, .int .u8 0, .int .i64 0] 1 ?_; refine bP #[.int .u8 0, .int .u8 0, .int .i64 0] 0 ?_; (with_reducible repeat (first | refine blk_drewN ?_ _ | refine blk_drew ?_ | refine blk_alloc ?_ _)); exact BK101.out) Tryd.underlying64 rfl (by kernel_rfl)) rfl ?_
     exact ⟨eR, bAt HB.out⟩
    ·replace c8 := Bool.eq_false_iff.mpr c8
     subst c8
     replace H := fP H
     by_cases c10 : a0 < 224
     ·rw [if_pos c10] at H
      have c10b0 := decide_eq_true c10
      clear c10
      simp only [Option.some.injEq, Prod.mk.injEq] at H
      obtain ⟨rfl, rfl, rfl⟩ := H
      obtain ⟨hcz11_0, hcz11_1, hcz11_2, hfz11_0, hfz11_1, hfz11_2⟩ := blk3 BK101.out
      go_wp2
      refine bodyPost_ret (results_cell_row rfl _ _ gb101 64 #[.int .u8 128, .int .u8 191, .int .i64 1] (0, 0) _ rfl (by refine bP #[.int .u8 128, .int .u8 191, .int .i64 0] 2 ?_; refine bP #[.int .u8 128, .int .u8 0, .int .i64 0] 1 ?_; refine bP #[.int .u8 0, .int .u8 0, .int .i64 0] 0 ?_; (with_reducible repeat (first | refine blk_drewN ?_ _ | refine blk_drew ?_ | refine blk_alloc ?_ _)); exact BK101.out) Tryd.underlying64 rfl (by kernel_rfl)) rfl ?_
      exact ⟨eR, bAt HB.out⟩
     ·rw [if_neg c10] at H
      have c10b0 := decide_eq_false c10
      clear c10
      by_cases c12 : a0 = 224
      ·rw [if_pos c12] at H
       obtain ⟨c12b0, c12b1⟩ := eqB c12
       clear c12
       simp only [Option.some.injEq, Prod.mk.injEq] at H
       obtain ⟨rfl, rfl, rfl⟩ := H
       obtain ⟨hcz13_0, hcz13_1, hcz13_2, hfz13_0, hfz13_1, hfz13_2⟩ := blk3 BK101.out
       go_wp2
       refine bodyPost_ret (results_cell_row rfl _ _ gb101 64 #[.int .u8 160, .int .u8 191, .int .i64 2] (0, 0) _ rfl (by refine bP #[.int .u8 160, .int .u8 191, .int .i64 0] 2 ?_; refine bP #[.int .u8 160, .int .u8 0, .int .i64 0] 1 ?_; refine bP #[.int .u8 0, .int .u8 0, .int .i64 0] 0 ?_; (with_reducible repeat (first | refine blk_drewN ?_ _ | refine blk_drew ?_ | refine blk_alloc ?_ _)); exact BK101.out) Tryd.underlying64 rfl (by kernel_rfl)) rfl ?_
       exact ⟨eR, bAt HB.out⟩
      ·rw [if_neg c12] at H
       obtain ⟨c12b0, c12b1⟩ := neB c12
       by_cases c14 : a0 = 237
       ·rw [if_pos c14] at H
        obtain ⟨c14b0, c14b1⟩ := eqB c14
        clear c14
        simp only [Option.some.injEq, Prod.mk.injEq] at H
        obtain ⟨rfl, rfl, rfl⟩ := H
        obtain ⟨hcz15_0, hcz15_1, hcz15_2, hfz15_0, hfz15_1, hfz15_2⟩ := blk3 BK101.out
        go_wp2
        refine bodyPost_ret (results_cell_row rfl _ _ gb101 64 #[.int .u8 128, .int .u8 159, .int .i64 2] (0, 0) _ rfl (by refine bP #[.int .u8 128, .int .u8 159, .int .i64 0] 2 ?_; refine bP #[.int .u8 128, .int .u8 0, .int .i64 0] 1 ?_; refine bP #[.int .u8 0, .int .u8 0, .int .i64 0] 0 ?_; (with_reducible repeat (first | refine blk_drewN ?_ _ | refine blk_drew ?_ | refine blk_alloc ?_ _)); exact BK101.out) Tryd.underlying64 rfl (by kernel_rfl)) rfl ?_
        exact ⟨eR, bAt HB.out⟩
       ·rw [if_neg c14] at H
        obtain ⟨c14b0, c14b1⟩ := neB c14
        by_cases c16 : a0 < 240
        ·rw [if_pos c16] at H
         have c16b0 := decide_eq_true c16
         clear c16
         simp only [Option.some.injEq, Prod.mk.injEq] at H
         obtain ⟨rfl, rfl, rfl⟩ := H
         obtain ⟨hcz17_0, hcz17_1, hcz17_2, hfz17_0, hfz17_1, hfz17_2⟩ := blk3 BK101.out
         go_wp2
         refine bodyPost_ret (results_cell_row rfl _ _ gb101 64 #[.int .u8 128, .int .u8 191, .int .i64 2] (0, 0) _ rfl (by refine bP #[.int .u8 128, .int .u8 191, .int .i64 0] 2 ?_; refine bP #[.int .u8 128, .int .u8 0, .int .i64 0] 1 ?_; refine bP #[.int .u8 0, .int .u8 0, .int .i64 0] 0 ?_; (with_reducible repeat (first | refine blk_drewN ?_ _ | refine blk_drew ?_ | refine blk_alloc ?_ _)); exact BK101.out) Tryd.underlying64 rfl (by kernel_rfl)) rfl ?_
         exact ⟨eR, bAt HB.out⟩
        ·rw [if_neg c16] at H
         have c16b0 := decide_eq_false c16
         clear c16
         by_cases c18 : a0 = 240
         ·rw [if_pos c18] at H
          obtain ⟨c18b0, c18b1⟩ := eqB c18
          clear c18
          simp only [Option.some.injEq, Prod.mk.injEq] at H
          obtain ⟨rfl, rfl, rfl⟩ := H
          obtain ⟨hcz19_0, hcz19_1, hcz19_2, hfz19_0, hfz19_1, hfz19_2⟩ := blk3 BK101.out
          go_wp2
          refine bodyPost_ret (results_cell_row rfl _ _ gb101 64 #[.int .u8 144, .int .u8 191, .int .i64 3] (0, 0) _ rfl (by refine bP #[.int .u8 144, .int .u8 191, .int .i64 0] 2 ?_; refine bP #[.int .u8 144, .int .u8 0, .int .i64 0] 1 ?_; refine bP #[.int .u8 0, .int .u8 0, .int .i64 0] 0 ?_; (with_reducible repeat (first | refine blk_drewN ?_ _ | refine blk_drew ?_ | refine blk_alloc ?_ _)); exact BK101.out) Tryd.underlying64 rfl (by kernel_rfl)) rfl ?_
          exact ⟨eR, bAt HB.out⟩
         ·rw [if_neg c18] at H
          obtain ⟨c18b0, c18b1⟩ := neB c18
          by_cases c20 : a0 = 244
          ·rw [if_pos c20] at H
           obtain ⟨c20b0, c20b1⟩ := eqB c20
           clear c20
           simp only [Option.some.injEq, Prod.mk.injEq] at H
           obtain ⟨rfl, rfl, rfl⟩ := H
           obtain ⟨hcz21_0, hcz21_1, hcz21_2, hfz21_0, hfz21_1, hfz21_2⟩ := blk3 BK101.out
           go_wp2
           refine bodyPost_ret (results_cell_row rfl _ _ gb101 64 #[.int .u8 128, .int .u8 143, .int .i64 3] (0, 0) _ rfl (by refine bP #[.int .u8 128, .int .u8 143, .int .i64 0] 2 ?_; refine bP #[.int .u8 128, .int .u8 0, .int .i64 0] 1 ?_; refine bP #[.int .u8 0, .int .u8 0, .int .i64 0] 0 ?_; (with_reducible repeat (first | refine blk_drewN ?_ _ | refine blk_drew ?_ | refine blk_alloc ?_ _)); exact BK101.out) Tryd.underlying64 rfl (by kernel_rfl)) rfl ?_
           exact ⟨eR, bAt HB.out⟩
          ·rw [if_neg c20] at H
           obtain ⟨c20b0, c20b1⟩ := neB c20
           simp only [Option.some.injEq, Prod.mk.injEq] at H
           obtain ⟨rfl, rfl, rfl⟩ := H
           obtain ⟨hcz22_0, hcz22_1, hcz22_2, hfz22_0, hfz22_1, hfz22_2⟩ := blk3 BK101.out
           go_wp2
           refine bodyPost_ret (results_cell_row rfl _ _ gb101 64 #[.int .u8 128, .int .u8 191, .int .i64 3] (0, 0) _ rfl (by refine bP #[.int .u8 128, .int .u8 191, .int .i64 0] 2 ?_; refine bP #[.int .u8 128, .int .u8 0, .int .i64 0] 1 ?_; refine bP #[.int .u8 0, .int .u8 0, .int .i64 0] 0 ?_; (with_reducible repeat (first | refine blk_drewN ?_ _ | refine blk_drew ?_ | refine blk_alloc ?_ _)); exact BK101.out) Tryd.underlying64 rfl (by kernel_rfl)) rfl ?_
           exact ⟨eR, bAt HB.out⟩
mutual
def utf_Take.j0 : Nat → List Int → Bool → Int → Int → Int → Option (Int × Bool)
 | 0, _, _, _, _, _ => none
 | k + 1, x0, x23, x107000, x107001, x107002 => if x23 = true then (some (1, false)) else (utf_Take.l0 k x0 x107002 0 x107000 x107001 x107002)
def utf_Take.l0 : Nat → List Int → Int → Int → Int → Int → Int → Option (Int × Bool)
 | 0, _, _, _, _, _, _ => none
 | k + 1, x0, x25, x26, x107000, x107001, x107002 => if x26 < x25 then (if 0 ≤ (wrap64 (x26 + 1)) then (if (wrap64 (x26 + 1)) < (x0.length : Int) then (if (rd x0 (wrap64 (x26 + 1))) < x107000 then (some (1, false)) else (if (rd x0 (wrap64 (x26 + 1))) > x107001 then (some (1, false)) else (utf_Take.l0 k x0 x25 (wrap64 (x26 + 1)) 128 191 x107002))) else (none)) else (none)) else (some (wrap64 (x107002 + 1), true))
end
def utf_Take.f (k : Nat) (l0 : List Int) : Option (Int × Bool) := if (l0.length : Int) = 0 then (some (0, false)) else (if 0 < (l0.length : Int) then ((utf_behind.f k (rd l0 0)).bind fun bt103 => (if bt103.2.2 < 0 then (utf_Take.j0 k l0 true bt103.1 bt103.2.1 bt103.2.2) else (utf_Take.j0 k l0 (decide ((l0.length : Int) ≤ bt103.2.2)) bt103.1 bt103.2.1 bt103.2.2))) else (none))
theorem utf_Take.mono_l : ∀ k, (∀ y0 y1 y2 y3 y4, LeO (utf_Take.j0 k y0 y1 y2 y3 y4) (utf_Take.j0 (k + 1) y0 y1 y2 y3 y4)) ∧ (∀ y0 y1 y2 y3 y4 y5, LeO (utf_Take.l0 k y0 y1 y2 y3 y4 y5) (utf_Take.l0 (k + 1) y0 y1 y2 y3 y4 y5))
 | 0 => ⟨fun _ _ _ _ _ r h => by simp [utf_Take.j0] at h, fun _ _ _ _ _ _ r h => by simp [utf_Take.l0] at h⟩
 | k + 1 => by
  obtain ⟨ih0, ih1⟩ := utf_Take.mono_l k
  refine ⟨?_, ?_⟩
  ·intro y0 y1 y2 y3 y4
   unfold utf_Take.j0
   repeat' with_reducible first | exact ih0 _ _ _ _ _ | exact ih1 _ _ _ _ _ _ | exact utf_behind.mono _ _ | exact LeO.refl _ | exact LeO.none _ | refine LeO.ite ?_ ?_ | refine LeO.bind ?_ (fun _ => ?_)
  ·intro y0 y1 y2 y3 y4 y5
   unfold utf_Take.l0
   repeat' with_reducible first | exact ih0 _ _ _ _ _ | exact ih1 _ _ _ _ _ _ | exact utf_behind.mono _ _ | exact LeO.refl _ | exact LeO.none _ | refine LeO.ite ?_ ?_ | refine LeO.bind ?_ (fun _ => ?_)
theorem utf_Take.mono : ∀ a0 k, LeO (utf_Take.f k a0) (utf_Take.f (k + 1) a0) := by
 intro a0 k
 obtain ⟨ih0, ih1⟩ := utf_Take.mono_l k
 unfold utf_Take.f
 repeat' with_reducible first | exact ih0 _ _ _ _ _ | exact ih1 _ _ _ _ _ _ | exact utf_behind.mono _ _ | exact LeO.refl _ | exact LeO.none _ | refine LeO.ite ?_ ?_ | refine LeO.bind ?_ (fun _ => ?_)
set_option maxHeartbeats 8000000 in
set_option maxRecDepth 100000 in
theorem utf_Take.calls (k : Nat) (A0 : Option Addr) (c0 : Nat) (l0 : List Int) (r1 : Int) (r2 : Bool) (w : World) (hr0 : Kd.C (Kd.int .u8) w A0 l0.length l0) (hc0 : l0.length ≤ c0) (h : utf_Take.f k l0 = some (r1, r2)) :
  Calls Tryd.prog 42 #[.slice A0 l0.length c0] w fun e w' => e = .returned (.tuple #[.int .i64 r1, .bool r2]) ∧ Below w.heap.size w w' := by
 have hu64 := Tryd.underlying64
 have HR0 := Aside0.mk hr0
 have HC0 := Aside0.mk hc0
 clear hr0 hc0
 have HB := Aside0.mk (Below.refl w.heap.size w)
 have H : (if (l0.length : Int) = 0 then (some (0, false)) else (if 0 < (l0.length : Int) then ((utf_behind.f k (rd l0 0)).bind fun bt103 => (if bt103.2.2 < 0 then (utf_Take.j0 k l0 true bt103.1 bt103.2.1 bt103.2.2) else (utf_Take.j0 k l0 (decide ((l0.length : Int) ≤ bt103.2.2)) bt103.1 bt103.2.1 bt103.2.2))) else (none))) = some (r1, r2) := h
 clear h
 by_cases c2 : (l0.length : Int) = 0
 ·rw [if_pos c2] at H
  obtain ⟨c2b0, c2b1⟩ := eqB c2
  clear c2
  simp only [Option.some.injEq, Prod.mk.injEq] at H
  obtain ⟨rfl, rfl⟩ := H
  go_enter Tryd.func42, Tryd.ntmps42
  go_wp2
  go_ret2
  exact ⟨eR, bAt HB.out⟩
 ·rw [if_neg c2] at H
  obtain ⟨c2b0, c2b1⟩ := neB c2
  have c2b2 : ¬ (l0 = []) := fun h_ => c2 (by rw [h_]; rfl)
  by_cases c3 : 0 < (l0.length : Int)
  ·rw [if_pos c3] at H
   have c3b0 := decide_eq_true c3
   have c3b1 : decide (0 < l0.length) = true := decide_eq_true (by omega)
   clear c3
   obtain ⟨⟨t103, t104, t105⟩, A4, H⟩ := bE H
   replace H : (if t105 < 0 then (utf_Take.j0 k l0 true t103 t104 t105) else (utf_Take.j0 k l0 (decide ((l0.length : Int) ≤ t105)) t103 t104 t105)) = some (r1, r2) := H
   have HC5 := Aside0.mk H
   clear H
   have p102 : 0 ≤ (0 : Int) := (by omega)
   have q102 : 0 < (l0.length : Int) := dt
   obtain ⟨ad102, e102, hx102_0⟩ := Kd.at_int HR0.out 0 p102 q102
   cases e102
   have qi102 : (0 < l0.length) = True := eq_true (by omega)
   (try rw [show ((0 : Int)).toNat = 0 from rfl] at hx102_0)
   (try rw [Addr.add_zero'] at hx102_0)
   replace p102 := eq_true p102
   replace q102 := eq_true q102
   go_enter Tryd.func42, Tryd.ntmps42
   go_upto_region 4 with (first | ((with_reducible refine gate_callee (f := 52) rfl ?_); refine gL (some 13) Tryd.func52 #[.int .u8 (rd l0 0)] rfl gA ?_; (with_reducible refine (utf_behind.calls k (rd l0 0) t103 t104 t105 _ A4.out).mono ?_); rintro e w6 ⟨rfl, hb⟩; refine ⟨_, rfl, ?_⟩; replace HB := Aside0.mk (below_step (bAt HB.out) hb); (try clear hb); (try clear hb2); (try clear hk); (try clear hi)) | ((with_reducible refine gate_dst (N := 4) rfl ?_); (try (refine gate_guard (by rfl) ?_; dsimp only)); refine box_event ?hg (N := 4) ?hd (cs := #[.int .u8 0, .int .u8 0, .int .i64 0]) (t := 64) ?hr ?_; (case hd => rfl); (case hg => rfl); (case hr => first | (go_simp; done) | (go_simp; rfl)); intro gb106 hg w7 hbox hb; have BK106 := Aside0.mk (hbox); have GW106 := Aside0.mk (gE (g := gb106) hg HB.out); have GE106 := Aside0.mk (gE (g := gb106) hg HB.out); replace HB := Aside0.mk (below_step (bAt HB.out) hb); clear hb hbox hg; obtain ⟨hcz8_0, hcz8_1, hcz8_2, hfz8_0, hfz8_1, hfz8_2⟩ := blk3 BK106.out))
   (try simp only [Act.put, List.setIfInBounds_toArray, List.set_cons_zero, List.set_cons_succ])
   go_cut [23] (fun v23 wc => ∃ (kq : Nat) (x23_4 : Bool), v23 = .bool x23_4 ∧ Aside0 (utf_Take.j0 kq l0 x23_4 t103 t104 t105 = some (r1, r2)) ∧ Aside0 (kq ≤ k) ∧ Aside0 (wc.heap[gb106]? = some (.cells #[.int .u8 t103, .int .u8 t104, .int .i64 t105] 64 (0, 0))) ∧ Aside0 (Below w.heap.size w wc))
   case first =>
    have H := HC5.out
    clear HC5
    by_cases c9 : t105 < 0
    ·rw [if_pos c9] at H
     have c9b0 := decide_eq_true c9
     clear c9
     (first | rw [c9b0] | (simp only [i64_w, i32_w]; rw [c9b0]) | skip)
     have H' := Aside0.mk H
     clear H
     obtain ⟨hcz10_0, hcz10_1, hcz10_2, hfz10_0, hfz10_1, hfz10_2⟩ := blk3 BK106.out
     go_wp2
     go_meet
     case rel => exact ⟨_, (true), sR, H', ⟨by first | omega | exact Nat.le_refl _⟩, ⟨by refine bP #[.int .u8 t103, .int .u8 t104, .int .i64 0] 2 ?_; refine bP #[.int .u8 t103, .int .u8 0, .int .i64 0] 1 ?_; refine bP #[.int .u8 0, .int .u8 0, .int .i64 0] 0 ?_; (with_reducible repeat (first | refine blk_drewN ?_ _ | refine blk_drew ?_ | refine blk_alloc ?_ _)); exact BK106.out⟩, ⟨bAt HB.out⟩⟩
    ·rw [if_neg c9] at H
     have c9b0 := decide_eq_false c9
     clear c9
     (first | rw [c9b0] | (simp only [i64_w, i32_w]; rw [c9b0]) | skip)
     have H' := Aside0.mk H
     clear H
     obtain ⟨hcz11_0, hcz11_1, hcz11_2, hfz11_0, hfz11_1, hfz11_2⟩ := blk3 BK106.out
     go_wp2
     go_meet
     case rel => exact ⟨_, (decide ((l0.length : Int) ≤ t105)), sR, H', ⟨by first | omega | exact Nat.le_refl _⟩, ⟨by refine bP #[.int .u8 t103, .int .u8 t104, .int .i64 0] 2 ?_; refine bP #[.int .u8 t103, .int .u8 0, .int .i64 0] 1 ?_; refine bP #[.int .u8 0, .int .u8 0, .int .i64 0] 0 ?_; (with_reducible repeat (first | refine blk_drewN ?_ _ | refine blk_drew ?_ | refine blk_alloc ?_ _)); exact BK106.out⟩, ⟨bAt HB.out⟩⟩
   case rest =>
    clear HC5
    try clear p1
    try clear q1
    try clear hx1
    try clear qi1
    try clear c2
    try clear c2b0 c2b1
    try clear c2b2
    try clear p2
    try clear c3
    try clear c3b0 c3b1
    try clear c4
    try clear c5
    try clear c9
    try clear c9b0
    try clear p10
    try clear q10
    try clear hx10
    try clear qi10
    try clear hcz10_0
    try clear hcz10_1
    try clear hcz10_2
    try clear hcz11_0
    try clear hcz11_1
    try clear hcz11_2
    try clear hcz8_0
    try clear hcz8_1
    try clear hcz8_2
    try clear hfz10_0
    try clear hfz10_1
    try clear hfz10_2
    try clear hfz11_0
    try clear hfz11_1
    try clear hfz11_2
    try clear hfz8_0
    try clear hfz8_1
    try clear hfz8_2
    try clear hx102_0
    try clear p102
    try clear q102
    obtain ⟨kq, x23_4, rfl, HA, HJ4, BK106, HB⟩ := hcut
    cases kq with
    | zero => exact absurd HA.out (by simp [utf_Take.j0])
    | succ kj4 =>
     have H := HA.out
     clear HA
     simp only [utf_Take.j0] at H
     by_cases c12 : x23_4 = true
     ·subst c12
      replace H := tP H
      simp only [Option.some.injEq, Prod.mk.injEq] at H
      obtain ⟨rfl, rfl⟩ := H
      go_wp2
      go_ret2
      exact ⟨eR, bAt HB.out⟩
     ·replace c12 := Bool.eq_false_iff.mpr c12
      subst c12
      replace H := fP H
      have H' := Aside0.mk H
      clear H
      obtain ⟨hcz13_0, hcz13_1, hcz13_2, hfz13_0, hfz13_1, hfz13_2⟩ := blk3 BK106.out
      go_wp2
      go_loopg [26] kj4 (fun kq v26 w' => ∃ (x26_2 : Int) (x107000_2 : Int) (x107001_2 : Int), v26 = .int .i64 x26_2 ∧ Aside0 (utf_Take.l0 kq l0 t105 x26_2 x107000_2 x107001_2 t105 = some (r1, r2)) ∧ Aside0 (kq ≤ kj4) ∧ Aside0 (w'.heap[gb106]? = some (.cells #[.int .u8 x107000_2, .int .u8 x107001_2, .int .i64 t105] 64 (0, 0))) ∧ Aside0 (Below w.heap.size w w'))
      case atStart => exact ⟨(0), (t103), (t104), sR, H', ⟨Nat.le_refl _⟩, ⟨kAt BK106.out⟩, ⟨bAt HB.out⟩⟩
      case round =>
       clear H'
       try clear c1
       try clear p1
       try clear q1
       try clear hx1
       try clear qi1
       try clear c2
       try clear c2b0 c2b1
       try clear c2b2
       try clear p2
       try clear c3
       try clear c3b0 c3b1
       try clear c4
       try clear c5
       try clear c9
       try clear c9b0
       try clear p10
       try clear q10
       try clear hx10
       try clear qi10
       try clear c12
       try clear hcz10_0
       try clear hcz10_1
       try clear hcz10_2
       try clear hcz11_0
       try clear hcz11_1
       try clear hcz11_2
       try clear hcz13_0
       try clear hcz13_1
       try clear hcz13_2
       try clear hcz8_0
       try clear hcz8_1
       try clear hcz8_2
       try clear hfz10_0
       try clear hfz10_1
       try clear hfz10_2
       try clear hfz11_0
       try clear hfz11_1
       try clear hfz11_2
       try clear hfz13_0
       try clear hfz13_1
       try clear hfz13_2
       try clear hfz8_0
       try clear hfz8_1
       try clear hfz8_2
       try clear hx102_0
       try clear p1
       try clear p10
       try clear p102
       try clear p2
       try clear q1
       try clear q10
       try clear q102
       obtain ⟨x26_2, x107000_2, x107001_2, rfl, HA, HK2, BK106, HB⟩ := hrel
       cases gk with
       | zero => exact absurd HA.out (by simp [utf_Take.l0])
       | succ k2 =>
        have H := HA.out
        clear HA
        simp only [utf_Take.l0] at H
        by_cases c14 : x26_2 < t105
        ·rw [if_pos c14] at H
         have c14b0 := decide_eq_true c14
         clear c14
         obtain ⟨ji15, hji15⟩ : ∃ j_ : Int, (wrap64 (x26_2 + 1)) = j_ := ⟨_, rfl⟩
         replace H : (if 0 ≤ (ji15) then (if (ji15) < (l0.length : Int) then (if (rd l0 (ji15)) < x107000_2 then (some (1, false)) else (if (rd l0 (ji15)) > x107001_2 then (some (1, false)) else (utf_Take.l0 k2 l0 t105 ji15 128 191 t105))) else (none)) else (none)) = some (r1, r2) := by first | (rw [hji15] at H; exact H) | (simp only [hji15] at H ⊢; exact H)
         have hji15w : (IntKind.i64.wrap (x26_2 + 1)) = ji15 := (i64_w _).trans hji15
         by_cases c16 : 0 ≤ (ji15)
         ·rw [if_pos c16] at H
          have c16b0 := decide_eq_true c16
          clear c16
          by_cases c17 : (ji15) < (l0.length : Int)
          ·rw [if_pos c17] at H
           have c17b0 := decide_eq_true c17
           clear c17
           by_cases c18 : (rd l0 (ji15)) < x107000_2
           ·rw [if_pos c18] at H
            have c18b0 := decide_eq_true c18
            clear c18
            simp only [Option.some.injEq, Prod.mk.injEq] at H
            obtain ⟨rfl, rfl⟩ := H
            have p107 : 0 ≤ ((ji15) : Int) := dt
            have q107 : (ji15) < (l0.length : Int) := dt
            obtain ⟨ad107, e107, hx107_0⟩ := Kd.at_int HR0.out (ji15) p107 q107
            obtain rfl : ad102 = ad107 := (by injection e107)
            replace hx107_0 := pw_cell_below HB.out hx107_0
            replace p107 := eq_true p107
            replace q107 := eq_true q107
            obtain ⟨hcz19_0, hcz19_1, hcz19_2, hfz19_0, hfz19_1, hfz19_2⟩ := blk3 BK106.out
            go_wp2
            go_ret2
            exact ⟨by first | rfl | (simp [errW_none, errW_some] <;> rfl) | (simp only [← hji15]; first | rfl | (simp [errW_none, errW_some] <;> rfl)) | (simp [*, errW_none, errW_some] <;> rfl), bAt HB.out⟩
           ·rw [if_neg c18] at H
            have c18b0 := decide_eq_false c18
            clear c18
            by_cases c20 : (rd l0 (ji15)) > x107001_2
            ·rw [if_pos c20] at H
             have c20b0 : decide (x107001_2 < (rd l0 (ji15))) = true := decide_eq_true c20
             clear c20
             simp only [Option.some.injEq, Prod.mk.injEq] at H
             obtain ⟨rfl, rfl⟩ := H
             have p107 : 0 ≤ ((ji15) : Int) := dt
             have q107 : (ji15) < (l0.length : Int) := dt
             obtain ⟨ad107, e107, hx107_0⟩ := Kd.at_int HR0.out (ji15) p107 q107
             obtain rfl : ad102 = ad107 := (by injection e107)
             replace hx107_0 := pw_cell_below HB.out hx107_0
             replace p107 := eq_true p107
             replace q107 := eq_true q107
             obtain ⟨hcz21_0, hcz21_1, hcz21_2, hfz21_0, hfz21_1, hfz21_2⟩ := blk3 BK106.out
             go_wp2
             go_ret2
             exact ⟨by first | rfl | (simp [errW_none, errW_some] <;> rfl) | (simp only [← hji15]; first | rfl | (simp [errW_none, errW_some] <;> rfl)) | (simp [*, errW_none, errW_some] <;> rfl), bAt HB.out⟩
            ·rw [if_neg c20] at H
             have c20b0 : decide (x107001_2 < (rd l0 (ji15))) = false := decide_eq_false c20
             clear c20
             have H' := Aside0.mk H
             clear H
             have p107 : 0 ≤ ((ji15) : Int) := dt
             have q107 : (ji15) < (l0.length : Int) := dt
             obtain ⟨ad107, e107, hx107_0⟩ := Kd.at_int HR0.out (ji15) p107 q107
             obtain rfl : ad102 = ad107 := (by injection e107)
             replace hx107_0 := pw_cell_below HB.out hx107_0
             replace p107 := eq_true p107
             replace q107 := eq_true q107
             obtain ⟨hcz22_0, hcz22_1, hcz22_2, hfz22_0, hfz22_1, hfz22_2⟩ := blk3 BK106.out
             go_wp2
             go_roundg k2
             case measure => have := HJ4.out; have := HK2.out; omega
             case rel => exact ⟨(ji15), (128), (191), (by first | rfl | (simp; done) | (simp only [← hji15] <;> (first | rfl | simp)) | (simp [*]; done)), H', ⟨by have := HJ4.out; have := HK2.out; omega⟩, ⟨by refine bP #[.int .u8 128, .int .u8 x107001_2, .int .i64 t105] 1 ?_; refine bP #[.int .u8 x107000_2, .int .u8 x107001_2, .int .i64 t105] 0 ?_; (with_reducible repeat (first | refine blk_drewN ?_ _ | refine blk_drew ?_ | refine blk_alloc ?_ _)); exact BK106.out⟩, ⟨bAt HB.out⟩⟩
          ·exact nB H c17
         ·exact nB H c16
        ·rw [if_neg c14] at H
         have c14b0 := decide_eq_false c14
         clear c14
         simp only [Option.some.injEq, Prod.mk.injEq] at H
         obtain ⟨rfl, rfl⟩ := H
         obtain ⟨hcz23_0, hcz23_1, hcz23_2, hfz23_0, hfz23_1, hfz23_2⟩ := blk3 BK106.out
         go_wp2
         go_ret2
         exact ⟨eR, bAt HB.out⟩
  ·exact nB H c3
def class_Name.f (a0 : Int) : Option (Bool) := (class_Of.f a0).bind fun t108 => (if t108 = 2 then (some true) else (if t108 = 3 then (some true) else (if t108 = 4 then (some true) else (some false))))
set_option maxHeartbeats 8000000 in
set_option maxRecDepth 100000 in
theorem class_Name.calls (a0 : Int) (r : Bool) (w : World) (hG : Gl w) (h : class_Name.f a0 = some r) :
  Calls Tryd.prog 51 #[.int .u8 a0] w fun e w' => e = .returned (.bool r) ∧ Below w.heap.size w w' := by
 have HB := Aside0.mk (Below.refl w.heap.size w)
 have HG := Aside0.mk hG
 clear hG
 have H : ((class_Of.f a0).bind fun t108 => (if t108 = 2 then (some true) else (if t108 = 3 then (some true) else (if t108 = 4 then (some true) else (some false))))) = some r := h
 clear h
 obtain ⟨t108, A2, H⟩ := bE H
 by_cases c3 : t108 = 2
 ·rw [if_pos c3] at H
  obtain ⟨c3b0, c3b1⟩ := eqB c3
  clear c3
  obtain rfl := Option.some.inj H
  go_enter Tryd.func51, Tryd.ntmps51
  go_wp2_with (first | ((with_reducible refine gate_callee (f := 14) rfl ?_); refine gL (some 4) Tryd.func14 #[.int .u8 a0] rfl gA ?_; (with_reducible refine (class_Of.calls a0 t108 _ ?side1 A2.out).mono ?_); (case side1 => exact Gl.below HG.out (bAt HB.out)); rintro e w4 ⟨rfl, hb⟩; refine ⟨_, rfl, ?_⟩; replace HB := Aside0.mk (below_step (bAt HB.out) hb); (try clear hb); (try clear hb2); (try clear hk); (try clear hi)))
  go_ret
  exact ⟨eR, bAt HB.out⟩
 ·rw [if_neg c3] at H
  obtain ⟨c3b0, c3b1⟩ := neB c3
  by_cases c5 : t108 = 3
  ·rw [if_pos c5] at H
   obtain ⟨c5b0, c5b1⟩ := eqB c5
   clear c5
   obtain rfl := Option.some.inj H
   go_enter Tryd.func51, Tryd.ntmps51
   go_wp2_with (first | ((with_reducible refine gate_callee (f := 14) rfl ?_); refine gL (some 4) Tryd.func14 #[.int .u8 a0] rfl gA ?_; (with_reducible refine (class_Of.calls a0 t108 _ ?side1 A2.out).mono ?_); (case side1 => exact Gl.below HG.out (bAt HB.out)); rintro e w6 ⟨rfl, hb⟩; refine ⟨_, rfl, ?_⟩; replace HB := Aside0.mk (below_step (bAt HB.out) hb); (try clear hb); (try clear hb2); (try clear hk); (try clear hi)))
   go_ret
   exact ⟨eR, bAt HB.out⟩
  ·rw [if_neg c5] at H
   obtain ⟨c5b0, c5b1⟩ := neB c5
   by_cases c7 : t108 = 4
   ·rw [if_pos c7] at H
    obtain ⟨c7b0, c7b1⟩ := eqB c7
    clear c7
    obtain rfl := Option.some.inj H
    go_enter Tryd.func51, Tryd.ntmps51
    go_wp2_with (first | ((with_reducible refine gate_callee (f := 14) rfl ?_); refine gL (some 4) Tryd.func14 #[.int .u8 a0] rfl gA ?_; (with_reducible refine (class_Of.calls a0 t108 _ ?side1 A2.out).mono ?_); (case side1 => exact Gl.below HG.out (bAt HB.out)); rintro e w8 ⟨rfl, hb⟩; refine ⟨_, rfl, ?_⟩; replace HB := Aside0.mk (below_step (bAt HB.out) hb); (try clear hb); (try clear hb2); (try clear hk); (try clear hi)))
    go_ret
    exact ⟨eR, bAt HB.out⟩
   ·rw [if_neg c7] at H
    obtain ⟨c7b0, c7b1⟩ := neB c7
    obtain rfl := Option.some.inj H
    go_enter Tryd.func51, Tryd.ntmps51
    go_wp2_with (first | ((with_reducible refine gate_callee (f := 14) rfl ?_); refine gL (some 4) Tryd.func14 #[.int .u8 a0] rfl gA ?_; (with_reducible refine (class_Of.calls a0 t108 _ ?side1 A2.out).mono ?_); (case side1 => exact Gl.below HG.out (bAt HB.out)); rintro e w9 ⟨rfl, hb⟩; refine ⟨_, rfl, ?_⟩; replace HB := Aside0.mk (below_step (bAt HB.out) hb); (try clear hb); (try clear hb2); (try clear hk); (try clear hi)))
    go_ret
    exact ⟨eR, bAt HB.out⟩
def token_name.l0 : Nat → List Int → Int → Option (Int)
 | 0, _, _ => none
 | k + 1, x0, x3 => if x3 < (x0.length : Int) then (if 0 ≤ x3 then (if x3 ≤ (x0.length : Int) then ((utf_Take.f k (x0.drop (x3 : Int).toNat)).bind fun bt110 => (if bt110.2 = true then (if bt110.1 = 1 then ((class_Name.f (rd x0 x3)).bind fun t113 => (if t113 = true then (token_name.l0 k x0 (wrap64 (x3 + bt110.1))) else (some x3))) else (token_name.l0 k x0 (wrap64 (x3 + bt110.1)))) else (some x3))) else (none)) else (none)) else (some (x0.length : Int))
def token_name.f (k : Nat) (l0 : List Int) : Option (Int) := token_name.l0 k l0 0
theorem token_name.mono_l : ∀ k, (∀ y0 y1, LeO (token_name.l0 k y0 y1) (token_name.l0 (k + 1) y0 y1))
 | 0 => fun _ _ r h => by simp [token_name.l0] at h
 | k + 1 => by
  have ih0 := token_name.mono_l k
  ·intro y0 y1
   unfold token_name.l0
   repeat' with_reducible first | exact ih0 _ _ | exact utf_Take.mono _ _ | exact LeO.refl _ | exact LeO.none _ | refine LeO.ite ?_ ?_ | refine LeO.bind ?_ (fun _ => ?_)
theorem token_name.mono : ∀ a0 k, LeO (token_name.f k a0) (token_name.f (k + 1) a0) := by
 intro a0 k
 have ih0 := token_name.mono_l k
 unfold token_name.f
 repeat' with_reducible first | exact ih0 _ _ | exact utf_Take.mono _ _ | exact LeO.refl _ | exact LeO.none _ | refine LeO.ite ?_ ?_ | refine LeO.bind ?_ (fun _ => ?_)
set_option maxHeartbeats 8000000 in
set_option maxRecDepth 100000 in
theorem token_name.calls (k : Nat) (A0 : Option Addr) (c0 : Nat) (l0 : List Int) (r : Int) (w : World) (hG : Gl w) (hr0 : Kd.C (Kd.int .u8) w A0 l0.length l0) (hc0 : l0.length ≤ c0) (h : token_name.f k l0 = some r) :
  Calls Tryd.prog 41 #[.slice A0 l0.length c0] w fun e w' => e = .returned (.int .i64 r) ∧ Below w.heap.size w w' := by
 have HR0 := Aside0.mk hr0
 have HC0 := Aside0.mk hc0
 clear hr0 hc0
 have HB := Aside0.mk (Below.refl w.heap.size w)
 have HG := Aside0.mk hG
 clear hG
 have H : (token_name.l0 k l0 0) = some r := h
 clear h
 have H' := Aside0.mk H
 clear H
 go_enter Tryd.func41, Tryd.ntmps41
 go_wp2
 go_loopg [3] k (fun kq v3 w' => ∃ (x3_1 : Int), v3 = .int .i64 x3_1 ∧ Aside0 (token_name.l0 kq l0 x3_1 = some r) ∧ Aside0 (kq ≤ k) ∧ Aside0 (Below w.heap.size w w'))
 case atStart => exact ⟨(0), sR, H', ⟨Nat.le_refl _⟩, ⟨bAt HB.out⟩⟩
 case round =>
  clear H'
  obtain ⟨x3_1, rfl, HA, HK1, HB⟩ := hrel
  cases gk with
  | zero => exact absurd HA.out (by simp [token_name.l0])
  | succ k1 =>
   have H := HA.out
   clear HA
   simp only [token_name.l0] at H
   by_cases c2 : x3_1 < (l0.length : Int)
   ·rw [if_pos c2] at H
    have c2b0 := decide_eq_true c2
    clear c2
    by_cases c3 : 0 ≤ x3_1
    ·rw [if_pos c3] at H
     have c3b0 := eq_true c3
     have c3b1 := decide_eq_true c3
     clear c3
     by_cases c4 : x3_1 ≤ (l0.length : Int)
     ·rw [if_pos c4] at H
      have c4b0 := eq_true c4
      have c4b1 := decide_eq_true c4
      clear c4
      obtain ⟨⟨t110, t111⟩, A5, H⟩ := bE H
      replace H : (if t111 = true then (if t110 = 1 then ((class_Name.f (rd l0 x3_1)).bind fun t113 => (if t113 = true then (token_name.l0 k1 l0 (wrap64 (x3_1 + t110))) else (some x3_1))) else (token_name.l0 k1 l0 (wrap64 (x3_1 + t110)))) else (some x3_1)) = some r := H
      by_cases c6 : t111 = true
      ·subst c6
       replace H := tP H
       by_cases c7 : t110 = 1
       ·rw [if_pos c7] at H
        obtain ⟨c7b0, c7b1⟩ := eqB c7
        clear c7
        obtain ⟨t113, A8, H⟩ := bE H
        by_cases c9 : t113 = true
        ·subst c9
         replace H := tP H
         have H' := Aside0.mk H
         clear H
         obtain ⟨i010, hi010, _, hsz10, _⟩ := info_parts info5
         obtain ⟨A10, hcut10, hA10, hC10⟩ := print_drop_of (P := Tryd.prog) (Value.int .u8) 0 22 5 .i64 Tryd.underlying22 hi010 hsz10 A0 c0 l0 x3_1 dt dt HC0.out
         have HR109 := Aside0.mk (Kd.C_of_reads (h1 := fun _ => rfl) (hA10 _ (Kd.reads_of_C HR0.out)))
         have HC109 := Aside0.mk hC10
         clear hA10 hC10 hi010 hsz10
         go_wp2_with (first | ((with_reducible refine gate_callee (f := 42) rfl ?_); refine gL (some 14) Tryd.func42 #[.slice A10 (l0.drop (x3_1 : Int).toNat).length (c0 - x3_1.toNat)] rfl (gD l0 (x3_1 : Int).toNat) ?_; (with_reducible refine (utf_Take.calls k1 _ _ (l0.drop (x3_1 : Int).toNat) t110 true _ ?side1 ?side2 A5.out).mono ?_); (case side1 => exact CAt (Kd.C_below HR109.out HB.out)); (case side2 => exact HC109.out); rintro e w11 ⟨rfl, hb⟩; refine ⟨_, rfl, ?_⟩; replace HB := Aside0.mk (below_step (bAt HB.out) hb); (try clear hb); (try clear hb2); (try clear hk); (try clear hi); have p112 : 0 ≤ (x3_1 : Int) := dt; have q112 : x3_1 < (l0.length : Int) := dt; obtain ⟨ad112, e112, hx112_0⟩ := Kd.at_int HR0.out x3_1 p112 q112; cases e112; replace hx112_0 := pw_cell_below HB.out hx112_0; replace p112 := eq_true p112; replace q112 := eq_true q112) | ((with_reducible refine gate_callee (f := 51) rfl ?_); (try (refine gate_guard (by rfl) ?_; dsimp only)); refine gL (some 27) Tryd.func51 #[.int .u8 (rd l0 x3_1)] rfl gA ?_; (with_reducible refine (class_Name.calls (rd l0 x3_1) true _ ?side1 A8.out).mono ?_); (case side1 => exact Gl.below HG.out (bAt HB.out)); rintro e w12 ⟨rfl, hb⟩; refine ⟨_, rfl, ?_⟩; replace HB := Aside0.mk (below_step (bAt HB.out) hb); (try clear hb); (try clear hb2); (try clear hk); (try clear hi)))
         go_roundg k1
         case measure => have := HK1.out; omega
         case rel => exact ⟨(wrap64 (x3_1 + t110)), sR, H', ⟨by have := HK1.out; omega⟩, ⟨bAt HB.out⟩⟩
        ·replace c9 := Bool.eq_false_iff.mpr c9
         subst c9
         replace H := fP H
         obtain rfl := Option.some.inj H
         obtain ⟨i013, hi013, _, hsz13, _⟩ := info_parts info5
         obtain ⟨A13, hcut13, hA13, hC13⟩ := print_drop_of (P := Tryd.prog) (Value.int .u8) 0 22 5 .i64 Tryd.underlying22 hi013 hsz13 A0 c0 l0 x3_1 dt dt HC0.out
         have HR109 := Aside0.mk (Kd.C_of_reads (h1 := fun _ => rfl) (hA13 _ (Kd.reads_of_C HR0.out)))
         have HC109 := Aside0.mk hC13
         clear hA13 hC13 hi013 hsz13
         go_wp2_with (first | ((with_reducible refine gate_callee (f := 42) rfl ?_); refine gL (some 14) Tryd.func42 #[.slice A13 (l0.drop (x3_1 : Int).toNat).length (c0 - x3_1.toNat)] rfl (gD l0 (x3_1 : Int).toNat) ?_; (with_reducible refine (utf_Take.calls k1 _ _ (l0.drop (x3_1 : Int).toNat) t110 true _ ?side1 ?side2 A5.out).mono ?_); (case side1 => exact CAt (Kd.C_below HR109.out HB.out)); (case side2 => exact HC109.out); rintro e w14 ⟨rfl, hb⟩; refine ⟨_, rfl, ?_⟩; replace HB := Aside0.mk (below_step (bAt HB.out) hb); (try clear hb); (try clear hb2); (try clear hk); (try clear hi); have p112 : 0 ≤ (x3_1 : Int) := dt; have q112 : x3_1 < (l0.length : Int) := dt; obtain ⟨ad112, e112, hx112_0⟩ := Kd.at_int HR0.out x3_1 p112 q112; cases e112; replace hx112_0 := pw_cell_below HB.out hx112_0; replace p112 := eq_true p112; replace q112 := eq_true q112) | ((with_reducible refine gate_callee (f := 51) rfl ?_); (try (refine gate_guard (by rfl) ?_; dsimp only)); refine gL (some 27) Tryd.func51 #[.int .u8 (rd l0 x3_1)] rfl gA ?_; (with_reducible refine (class_Name.calls (rd l0 x3_1) false _ ?side1 A8.out).mono ?_); (case side1 => exact Gl.below HG.out (bAt HB.out)); rintro e w15 ⟨rfl, hb⟩; refine ⟨_, rfl, ?_⟩; replace HB := Aside0.mk (below_step (bAt HB.out) hb); (try clear hb); (try clear hb2); (try clear hk); (try clear hi)))
         go_ret
         exact ⟨eR, bAt HB.out⟩
       ·rw [if_neg c7] at H
        obtain ⟨c7b0, c7b1⟩ := neB c7
        have H' := Aside0.mk H
        clear H
        obtain ⟨i016, hi016, _, hsz16, _⟩ := info_parts info5
        obtain ⟨A16, hcut16, hA16, hC16⟩ := print_drop_of (P := Tryd.prog) (Value.int .u8) 0 22 5 .i64 Tryd.underlying22 hi016 hsz16 A0 c0 l0 x3_1 dt dt HC0.out
        have HR109 := Aside0.mk (Kd.C_of_reads (h1 := fun _ => rfl) (hA16 _ (Kd.reads_of_C HR0.out)))
        have HC109 := Aside0.mk hC16
        clear hA16 hC16 hi016 hsz16
        go_wp2_with (first | ((with_reducible refine gate_callee (f := 42) rfl ?_); refine gL (some 14) Tryd.func42 #[.slice A16 (l0.drop (x3_1 : Int).toNat).length (c0 - x3_1.toNat)] rfl (gD l0 (x3_1 : Int).toNat) ?_; (with_reducible refine (utf_Take.calls k1 _ _ (l0.drop (x3_1 : Int).toNat) t110 true _ ?side1 ?side2 A5.out).mono ?_); (case side1 => exact CAt (Kd.C_below HR109.out HB.out)); (case side2 => exact HC109.out); rintro e w17 ⟨rfl, hb⟩; refine ⟨_, rfl, ?_⟩; replace HB := Aside0.mk (below_step (bAt HB.out) hb); (try clear hb); (try clear hb2); (try clear hk); (try clear hi)))
        go_roundg k1
        case measure => have := HK1.out; omega
        case rel => exact ⟨(wrap64 (x3_1 + t110)), sR, H', ⟨by have := HK1.out; omega⟩, ⟨bAt HB.out⟩⟩
      ·replace c6 := Bool.eq_false_iff.mpr c6
       subst c6
       replace H := fP H
       obtain rfl := Option.some.inj H
       obtain ⟨i018, hi018, _, hsz18, _⟩ := info_parts info5
       obtain ⟨A18, hcut18, hA18, hC18⟩ := print_drop_of (P := Tryd.prog) (Value.int .u8) 0 22 5 .i64 Tryd.underlying22 hi018 hsz18 A0 c0 l0 x3_1 dt dt HC0.out
       have HR109 := Aside0.mk (Kd.C_of_reads (h1 := fun _ => rfl) (hA18 _ (Kd.reads_of_C HR0.out)))
       have HC109 := Aside0.mk hC18
       clear hA18 hC18 hi018 hsz18
       go_wp2_with (first | ((with_reducible refine gate_callee (f := 42) rfl ?_); refine gL (some 14) Tryd.func42 #[.slice A18 (l0.drop (x3_1 : Int).toNat).length (c0 - x3_1.toNat)] rfl (gD l0 (x3_1 : Int).toNat) ?_; (with_reducible refine (utf_Take.calls k1 _ _ (l0.drop (x3_1 : Int).toNat) t110 false _ ?side1 ?side2 A5.out).mono ?_); (case side1 => exact CAt (Kd.C_below HR109.out HB.out)); (case side2 => exact HC109.out); rintro e w19 ⟨rfl, hb⟩; refine ⟨_, rfl, ?_⟩; replace HB := Aside0.mk (below_step (bAt HB.out) hb); (try clear hb); (try clear hb2); (try clear hk); (try clear hi)))
       go_ret
       exact ⟨eR, bAt HB.out⟩
     ·exact nB H c4
    ·exact nB H c3
   ·rw [if_neg c2] at H
    have c2b0 := decide_eq_false c2
    clear c2
    obtain rfl := Option.some.inj H
    go_wp2
    go_ret
    exact ⟨eR, bAt HB.out⟩
def class_Run.l0 : Nat → List Int → Int → List Int → Int → Int → Option (Int)
 | 0, _, _, _, _, _ => none
 | k + 1, x0, x1, x7, x8, x9 => if x9 < x8 then (if 0 ≤ x9 then (if x9 < (x7.length : Int) then ((class_Of.f (rd x7 x9)).bind fun t115 => (if t115 = x1 then (class_Run.l0 k x0 x1 x7 x8 (wrap64 (x9 + 1))) else (some x9))) else (none)) else (none)) else (some (x0.length : Int))
def class_Run.f (k : Nat) (l0 : List Int) (a1 : Int) : Option (Int) := class_Run.l0 k l0 a1 l0 (l0.length : Int) 0
theorem class_Run.mono_l : ∀ k, (∀ y0 y1 y2 y3 y4, LeO (class_Run.l0 k y0 y1 y2 y3 y4) (class_Run.l0 (k + 1) y0 y1 y2 y3 y4))
 | 0 => fun _ _ _ _ _ r h => by simp [class_Run.l0] at h
 | k + 1 => by
  have ih0 := class_Run.mono_l k
  ·intro y0 y1 y2 y3 y4
   unfold class_Run.l0
   repeat' with_reducible first | exact ih0 _ _ _ _ _ | exact LeO.refl _ | exact LeO.none _ | refine LeO.ite ?_ ?_ | refine LeO.bind ?_ (fun _ => ?_)
theorem class_Run.mono : ∀ a0 a1 k, LeO (class_Run.f k a0 a1) (class_Run.f (k + 1) a0 a1) := by
 intro a0 a1 k
 have ih0 := class_Run.mono_l k
 unfold class_Run.f
 repeat' with_reducible first | exact ih0 _ _ _ _ _ | exact LeO.refl _ | exact LeO.none _ | refine LeO.ite ?_ ?_ | refine LeO.bind ?_ (fun _ => ?_)
set_option maxHeartbeats 8000000 in
set_option maxRecDepth 100000 in
theorem class_Run.calls (k : Nat) (A0 : Option Addr) (c0 : Nat) (l0 : List Int) (a1 : Int) (r : Int) (w : World) (hG : Gl w) (hr0 : Kd.C (Kd.int .u8) w A0 l0.length l0) (hc0 : l0.length ≤ c0) (h : class_Run.f k l0 a1 = some r) :
  Calls Tryd.prog 19 #[.slice A0 l0.length c0, .int .i64 a1] w fun e w' => e = .returned (.int .i64 r) ∧ Below w.heap.size w w' := by
 have HR0 := Aside0.mk hr0
 have HC0 := Aside0.mk hc0
 clear hr0 hc0
 have HB := Aside0.mk (Below.refl w.heap.size w)
 have HG := Aside0.mk hG
 clear hG
 have H : (class_Run.l0 k l0 a1 l0 (l0.length : Int) 0) = some r := h
 clear h
 have H' := Aside0.mk H
 clear H
 go_enter Tryd.func19, Tryd.ntmps19
 go_wp2
 go_loopg [9] k (fun kq v9 w' => ∃ (x9_1 : Int), v9 = .int .i64 x9_1 ∧ Aside0 (class_Run.l0 kq l0 a1 l0 (l0.length : Int) x9_1 = some r) ∧ Aside0 (kq ≤ k) ∧ Aside0 (Below w.heap.size w w'))
 case atStart => exact ⟨(0), sR, H', ⟨Nat.le_refl _⟩, ⟨bAt HB.out⟩⟩
 case round =>
  clear H'
  try clear c1
  try clear p2
  obtain ⟨x9_1, rfl, HA, HK1, HB⟩ := hrel
  cases gk with
  | zero => exact absurd HA.out (by simp [class_Run.l0])
  | succ k1 =>
   have H := HA.out
   clear HA
   simp only [class_Run.l0] at H
   by_cases c3 : x9_1 < (l0.length : Int)
   ·rw [if_pos c3] at H
    have c3b0 := decide_eq_true c3
    clear c3
    by_cases c4 : 0 ≤ x9_1
    ·rw [if_pos c4] at H
     have c4b0 := decide_eq_true c4
     clear c4
     by_cases c5 : x9_1 < (l0.length : Int)
     ·rw [if_pos c5] at H
      have c5b0 := decide_eq_true c5
      clear c5
      obtain ⟨t115, A6, H⟩ := bE H
      by_cases c7 : t115 = a1
      ·rw [if_pos c7] at H
       obtain ⟨c7b0, c7b1⟩ := eqB c7
       clear c7
       have H' := Aside0.mk H
       clear H
       have p114 : 0 ≤ (x9_1 : Int) := dt
       have q114 : x9_1 < (l0.length : Int) := dt
       obtain ⟨ad114, e114, hx114_0⟩ := Kd.at_int HR0.out x9_1 p114 q114
       cases e114
       replace hx114_0 := pw_cell_below HB.out hx114_0
       replace p114 := eq_true p114
       replace q114 := eq_true q114
       go_wp2_with (first | ((with_reducible refine gate_callee (f := 14) rfl ?_); refine gL (some 15) Tryd.func14 #[.int .u8 (rd l0 x9_1)] rfl gA ?_; (with_reducible refine (class_Of.calls (rd l0 x9_1) t115 _ ?side1 A6.out).mono ?_); (case side1 => exact Gl.below HG.out (bAt HB.out)); rintro e w8 ⟨rfl, hb⟩; refine ⟨_, rfl, ?_⟩; replace HB := Aside0.mk (below_step (bAt HB.out) hb); (try clear hb); (try clear hb2); (try clear hk); (try clear hi)))
       go_roundg k1
       case measure => have := HK1.out; omega
       case rel => exact ⟨(wrap64 (x9_1 + 1)), sR, H', ⟨by have := HK1.out; omega⟩, ⟨bAt HB.out⟩⟩
      ·rw [if_neg c7] at H
       obtain ⟨c7b0, c7b1⟩ := neB c7
       obtain rfl := Option.some.inj H
       have p114 : 0 ≤ (x9_1 : Int) := dt
       have q114 : x9_1 < (l0.length : Int) := dt
       obtain ⟨ad114, e114, hx114_0⟩ := Kd.at_int HR0.out x9_1 p114 q114
       cases e114
       replace hx114_0 := pw_cell_below HB.out hx114_0
       replace p114 := eq_true p114
       replace q114 := eq_true q114
       go_wp2_with (first | ((with_reducible refine gate_callee (f := 14) rfl ?_); refine gL (some 15) Tryd.func14 #[.int .u8 (rd l0 x9_1)] rfl gA ?_; (with_reducible refine (class_Of.calls (rd l0 x9_1) t115 _ ?side1 A6.out).mono ?_); (case side1 => exact Gl.below HG.out (bAt HB.out)); rintro e w9 ⟨rfl, hb⟩; refine ⟨_, rfl, ?_⟩; replace HB := Aside0.mk (below_step (bAt HB.out) hb); (try clear hb); (try clear hb2); (try clear hk); (try clear hi)))
       go_ret
       exact ⟨eR, bAt HB.out⟩
     ·exact nB H c5
    ·exact nB H c4
   ·rw [if_neg c3] at H
    have c3b0 := decide_eq_false c3
    clear c3
    obtain rfl := Option.some.inj H
    go_wp2
    go_ret
    exact ⟨eR, bAt HB.out⟩
def token_symbol.f (k : Nat) (l0 : List Int) : Option (Int × Int × ByteArray × Int) := (class_Run.f k l0 5).bind fun t116 => (if 0 ≤ t116 then (if t116 ≤ (l0.length : Int) then (if (strOfNums (l0.take (t116 : Int).toNat)).toList = ([46] : List UInt8) then (if t116 = (l0.length : Int) then (some (7, t116, strOfNums (l0.take (t116 : Int).toNat), 0)) else (if t116 < (l0.length : Int) then ((class_Of.f (rd l0 t116)).bind fun t119 => (if t119 = 1 then (some (7, t116, strOfNums (l0.take (t116 : Int).toNat), 0)) else ((class_Of.f (rd l0 t116)).bind fun t121 => (if t121 = 8 then (some (7, t116, strOfNums (l0.take (t116 : Int).toNat), 0)) else (some (2, t116, strOfNums (l0.take (t116 : Int).toNat), 0)))))) else (none))) else (some (2, t116, strOfNums (l0.take (t116 : Int).toNat), 0))) else (none)) else (none))
theorem token_symbol.mono : ∀ a0 k, LeO (token_symbol.f k a0) (token_symbol.f (k + 1) a0) := by
 intro a0 k
 unfold token_symbol.f
 repeat' with_reducible first | exact class_Run.mono _ _ _ | exact LeO.refl _ | exact LeO.none _ | refine LeO.ite ?_ ?_ | refine LeO.bind ?_ (fun _ => ?_)
set_option maxHeartbeats 8000000 in
set_option maxRecDepth 100000 in
theorem token_symbol.calls (k : Nat) (A0 : Option Addr) (c0 : Nat) (l0 : List Int) (r1 : Int) (r2 : Int) (r3 : ByteArray) (r4 : Int) (w : World) (hG : Gl w) (hr0 : Kd.C (Kd.int .u8) w A0 l0.length l0) (hc0 : l0.length ≤ c0) (h : token_symbol.f k l0 = some (r1, r2, r3, r4)) :
  Calls Tryd.prog 25 #[.slice A0 l0.length c0] w fun e w' => e = .returned (.tuple #[.int .i64 r1, .int .i64 r2, .string r3, .int .i64 r4]) ∧ Below w.heap.size w w' := by
 have HR0 := Aside0.mk hr0
 have HC0 := Aside0.mk hc0
 clear hr0 hc0
 have HB := Aside0.mk (Below.refl w.heap.size w)
 have HG := Aside0.mk hG
 clear hG
 have H : ((class_Run.f k l0 5).bind fun t116 => (if 0 ≤ t116 then (if t116 ≤ (l0.length : Int) then (if (strOfNums (l0.take (t116 : Int).toNat)).toList = ([46] : List UInt8) then (if t116 = (l0.length : Int) then (some (7, t116, strOfNums (l0.take (t116 : Int).toNat), 0)) else (if t116 < (l0.length : Int) then ((class_Of.f (rd l0 t116)).bind fun t119 => (if t119 = 1 then (some (7, t116, strOfNums (l0.take (t116 : Int).toNat), 0)) else ((class_Of.f (rd l0 t116)).bind fun t121 => (if t121 = 8 then (some (7, t116, strOfNums (l0.take (t116 : Int).toNat), 0)) else (some (2, t116, strOfNums (l0.take (t116 : Int).toNat), 0)))))) else (none))) else (some (2, t116, strOfNums (l0.take (t116 : Int).toNat), 0))) else (none)) else (none))) = some (r1, r2, r3, r4) := h
 clear h
 obtain ⟨t116, A2, H⟩ := bE H
 by_cases c3 : 0 ≤ t116
 ·rw [if_pos c3] at H
  have c3b0 := eq_true c3
  have c3b1 := decide_eq_true c3
  clear c3
  by_cases c4 : t116 ≤ (l0.length : Int)
  ·rw [if_pos c4] at H
   have c4b0 := eq_true c4
   have c4b1 := decide_eq_true c4
   clear c4
   by_cases c5 : (strOfNums (l0.take (t116 : Int).toNat)).toList = ([46] : List UInt8)
   ·rw [if_pos c5] at H
    obtain ⟨c5b0, c5b1⟩ := eqB c5
    clear c5
    by_cases c6 : t116 = (l0.length : Int)
    ·rw [if_pos c6] at H
     obtain ⟨c6b0, c6b1⟩ := eqB c6
     clear c6
     simp only [Option.some.injEq, Prod.mk.injEq] at H
     obtain ⟨rfl, rfl, rfl, rfl⟩ := H
     go_enter Tryd.func25, Tryd.ntmps25
     go_wp2_with (first | ((with_reducible refine gate_callee (f := 19) rfl ?_); refine gL (some 9) Tryd.func19 #[.slice A0 l0.length c0, .int .i64 5] rfl gA ?_; (with_reducible refine (class_Run.calls k _ _ l0 5 t116 _ ?side1 ?side2 ?side3 A2.out).mono ?_); (case side1 => exact Gl.below HG.out (bAt HB.out)); (case side2 => exact CAt HR0.out); (case side3 => exact HC0.out); rintro e w7 ⟨rfl, hb⟩; refine ⟨_, rfl, ?_⟩; replace HB := Aside0.mk (below_step (bAt HB.out) hb); (try clear hb); (try clear hb2); (try clear hk); (try clear hi); obtain ⟨i08, hi08, _, hsz8, _⟩ := info_parts info5; obtain ⟨hcut8, hA8, hC8⟩ := print_take_of (P := Tryd.prog) (Value.int .u8) 0 22 5 .i64 Tryd.underlying22 hi08 hsz8 A0 c0 l0 t116 dt dt HC0.out; have HR117 := Aside0.mk (Kd.C_of_reads (h1 := fun _ => rfl) (hA8 _ (Kd.reads_of_C HR0.out))); have HC117 := Aside0.mk hC8; clear hA8 hC8 hi08 hsz8; have hcv9 := Kd.C_string (P := Tryd.prog) (A := A0) (c := c0) Tryd.underlying22 Tryd.underlying5 Tryd.underlying9 (Kd.C_below HR117.out HB.out); have hcv9z := hcv9; (try rw [List.length_drop, List.length_take, Nat.min_eq_left (Int.toNat_le.mpr dt)] at hcv9z); have hcv9y := hcv9; (try rw [List.length_take, Nat.min_eq_left (Int.toNat_le.mpr dt)] at hcv9y); have hcv9x := hcv9; (try rw [List.length_take, mM] at hcv9x); have hcv9m := hcv9; (try simp only [Int.reduceToNat, List.length_take] at hcv9m); have hcv9q := fun (q_ : Nat) => Kd.C_string (P := Tryd.prog) (A := A0) (c := c0) Tryd.underlying22 Tryd.underlying5 Tryd.underlying9 (Kd.C_drewN (Kd.C_below HR117.out HB.out) q_); have hcv9qy := hcv9q; (try simp only [List.length_take, Nat.min_eq_left (Int.toNat_le.mpr dt)] at hcv9qy); have hcv9qw := hcv9q; (try simp only [Int.reduceToNat] at hcv9qw); have hcv9qv := hcv9qy; (try simp only [Int.reduceToNat] at hcv9qv); have hcv9qu := hcv9q; (try simp only [Int.reduceToNat, List.length_take] at hcv9qu)))
     refine bodyPost_ret (results_list (rs := [.tmp 2, .tmp 3, .tmp 4, .tmp 5]) rfl (by simp) (.tmp (.tmp (.tmp (.tmp .nil))))) rfl ?_
     exact ⟨eR, bAt HB.out⟩
    ·rw [if_neg c6] at H
     obtain ⟨c6b0, c6b1⟩ := neB c6
     by_cases c10 : t116 < (l0.length : Int)
     ·rw [if_pos c10] at H
      have c10b0 := decide_eq_true c10
      clear c10
      obtain ⟨t119, A11, H⟩ := bE H
      by_cases c12 : t119 = 1
      ·rw [if_pos c12] at H
       obtain ⟨c12b0, c12b1⟩ := eqB c12
       clear c12
       simp only [Option.some.injEq, Prod.mk.injEq] at H
       obtain ⟨rfl, rfl, rfl, rfl⟩ := H
       go_enter Tryd.func25, Tryd.ntmps25
       go_wp2_with (first | ((with_reducible refine gate_callee (f := 19) rfl ?_); refine gL (some 9) Tryd.func19 #[.slice A0 l0.length c0, .int .i64 5] rfl gA ?_; (with_reducible refine (class_Run.calls k _ _ l0 5 t116 _ ?side1 ?side2 ?side3 A2.out).mono ?_); (case side1 => exact Gl.below HG.out (bAt HB.out)); (case side2 => exact CAt HR0.out); (case side3 => exact HC0.out); rintro e w13 ⟨rfl, hb⟩; refine ⟨_, rfl, ?_⟩; replace HB := Aside0.mk (below_step (bAt HB.out) hb); (try clear hb); (try clear hb2); (try clear hk); (try clear hi); obtain ⟨i014, hi014, _, hsz14, _⟩ := info_parts info5; obtain ⟨hcut14, hA14, hC14⟩ := print_take_of (P := Tryd.prog) (Value.int .u8) 0 22 5 .i64 Tryd.underlying22 hi014 hsz14 A0 c0 l0 t116 dt dt HC0.out; have HR117 := Aside0.mk (Kd.C_of_reads (h1 := fun _ => rfl) (hA14 _ (Kd.reads_of_C HR0.out))); have HC117 := Aside0.mk hC14; clear hA14 hC14 hi014 hsz14; have hcv15 := Kd.C_string (P := Tryd.prog) (A := A0) (c := c0) Tryd.underlying22 Tryd.underlying5 Tryd.underlying9 (Kd.C_below HR117.out HB.out); have hcv15z := hcv15; (try rw [List.length_drop, List.length_take, Nat.min_eq_left (Int.toNat_le.mpr dt)] at hcv15z); have hcv15y := hcv15; (try rw [List.length_take, Nat.min_eq_left (Int.toNat_le.mpr dt)] at hcv15y); have hcv15x := hcv15; (try rw [List.length_take, mM] at hcv15x); have hcv15m := hcv15; (try simp only [Int.reduceToNat, List.length_take] at hcv15m); have hcv15q := fun (q_ : Nat) => Kd.C_string (P := Tryd.prog) (A := A0) (c := c0) Tryd.underlying22 Tryd.underlying5 Tryd.underlying9 (Kd.C_drewN (Kd.C_below HR117.out HB.out) q_); have hcv15qy := hcv15q; (try simp only [List.length_take, Nat.min_eq_left (Int.toNat_le.mpr dt)] at hcv15qy); have hcv15qw := hcv15q; (try simp only [Int.reduceToNat] at hcv15qw); have hcv15qv := hcv15qy; (try simp only [Int.reduceToNat] at hcv15qv); have hcv15qu := hcv15q; (try simp only [Int.reduceToNat, List.length_take] at hcv15qu); have p118 : 0 ≤ (t116 : Int) := dt; have q118 : t116 < (l0.length : Int) := dt; obtain ⟨ad118, e118, hx118_0⟩ := Kd.at_int HR0.out t116 p118 q118; cases e118; replace hx118_0 := pw_cell_below HB.out hx118_0; replace p118 := eq_true p118; replace q118 := eq_true q118) | ((with_reducible refine gate_callee (f := 14) rfl ?_); (try (refine gate_guard (by rfl) ?_; dsimp only)); refine gL (some 25) Tryd.func14 #[.int .u8 (rd l0 t116)] rfl gA ?_; (with_reducible refine (class_Of.calls (rd l0 t116) t119 _ ?side1 A11.out).mono ?_); (case side1 => exact Gl.below HG.out (bAt HB.out)); rintro e w16 ⟨rfl, hb⟩; refine ⟨_, rfl, ?_⟩; replace HB := Aside0.mk (below_step (bAt HB.out) hb); (try clear hb); (try clear hb2); (try clear hk); (try clear hi)))
       refine bodyPost_ret (results_list (rs := [.tmp 2, .tmp 3, .tmp 4, .tmp 5]) rfl (by simp) (.tmp (.tmp (.tmp (.tmp .nil))))) rfl ?_
       exact ⟨eR, bAt HB.out⟩
      ·rw [if_neg c12] at H
       obtain ⟨c12b0, c12b1⟩ := neB c12
       obtain ⟨t121, A17, H⟩ := bE H
       by_cases c18 : t121 = 8
       ·rw [if_pos c18] at H
        obtain ⟨c18b0, c18b1⟩ := eqB c18
        clear c18
        simp only [Option.some.injEq, Prod.mk.injEq] at H
        obtain ⟨rfl, rfl, rfl, rfl⟩ := H
        go_enter Tryd.func25, Tryd.ntmps25
        go_wp2_with (first | ((with_reducible refine gate_callee (f := 19) rfl ?_); refine gL (some 9) Tryd.func19 #[.slice A0 l0.length c0, .int .i64 5] rfl gA ?_; (with_reducible refine (class_Run.calls k _ _ l0 5 t116 _ ?side1 ?side2 ?side3 A2.out).mono ?_); (case side1 => exact Gl.below HG.out (bAt HB.out)); (case side2 => exact CAt HR0.out); (case side3 => exact HC0.out); rintro e w19 ⟨rfl, hb⟩; refine ⟨_, rfl, ?_⟩; replace HB := Aside0.mk (below_step (bAt HB.out) hb); (try clear hb); (try clear hb2); (try clear hk); (try clear hi); obtain ⟨i020, hi020, _, hsz20, _⟩ := info_parts info5; obtain ⟨hcut20, hA20, hC20⟩ := print_take_of (P := Tryd.prog) (Value.int .u8) 0 22 5 .i64 Tryd.underlying22 hi020 hsz20 A0 c0 l0 t116 dt dt HC0.out; have HR117 := Aside0.mk (Kd.C_of_reads (h1 := fun _ => rfl) (hA20 _ (Kd.reads_of_C HR0.out))); have HC117 := Aside0.mk hC20; clear hA20 hC20 hi020 hsz20; have hcv21 := Kd.C_string (P := Tryd.prog) (A := A0) (c := c0) Tryd.underlying22 Tryd.underlying5 Tryd.underlying9 (Kd.C_below HR117.out HB.out); have hcv21z := hcv21; (try rw [List.length_drop, List.length_take, Nat.min_eq_left (Int.toNat_le.mpr dt)] at hcv21z); have hcv21y := hcv21; (try rw [List.length_take, Nat.min_eq_left (Int.toNat_le.mpr dt)] at hcv21y); have hcv21x := hcv21; (try rw [List.length_take, mM] at hcv21x); have hcv21m := hcv21; (try simp only [Int.reduceToNat, List.length_take] at hcv21m); have hcv21q := fun (q_ : Nat) => Kd.C_string (P := Tryd.prog) (A := A0) (c := c0) Tryd.underlying22 Tryd.underlying5 Tryd.underlying9 (Kd.C_drewN (Kd.C_below HR117.out HB.out) q_); have hcv21qy := hcv21q; (try simp only [List.length_take, Nat.min_eq_left (Int.toNat_le.mpr dt)] at hcv21qy); have hcv21qw := hcv21q; (try simp only [Int.reduceToNat] at hcv21qw); have hcv21qv := hcv21qy; (try simp only [Int.reduceToNat] at hcv21qv); have hcv21qu := hcv21q; (try simp only [Int.reduceToNat, List.length_take] at hcv21qu); have p118 : 0 ≤ (t116 : Int) := dt; have q118 : t116 < (l0.length : Int) := dt; obtain ⟨ad118, e118, hx118_0⟩ := Kd.at_int HR0.out t116 p118 q118; cases e118; replace hx118_0 := pw_cell_below HB.out hx118_0; replace p118 := eq_true p118; replace q118 := eq_true q118) | ((with_reducible refine gate_callee (f := 14) rfl ?_); (try (refine gate_guard (by rfl) ?_; dsimp only)); refine gL (some 25) Tryd.func14 #[.int .u8 (rd l0 t116)] rfl gA ?_; (with_reducible refine (class_Of.calls (rd l0 t116) t119 _ ?side1 A11.out).mono ?_); (case side1 => exact Gl.below HG.out (bAt HB.out)); rintro e w22 ⟨rfl, hb⟩; refine ⟨_, rfl, ?_⟩; replace HB := Aside0.mk (below_step (bAt HB.out) hb); (try clear hb); (try clear hb2); (try clear hk); (try clear hi); have p120 : 0 ≤ (t116 : Int) := dt; have q120 : t116 < (l0.length : Int) := dt; obtain ⟨ad120, e120, hx120_0⟩ := Kd.at_int HR0.out t116 p120 q120; obtain rfl : ad118 = ad120 := (by injection e120); replace hx120_0 := pw_cell_below HB.out hx120_0; replace p120 := eq_true p120; replace q120 := eq_true q120) | ((with_reducible refine gate_callee (f := 14) rfl ?_); (try (refine gate_guard (by rfl) ?_; dsimp only)); refine gL (some 33) Tryd.func14 #[.int .u8 (rd l0 t116)] rfl gA ?_; (with_reducible refine (class_Of.calls (rd l0 t116) t121 _ ?side1 A17.out).mono ?_); (case side1 => exact Gl.below HG.out (bAt HB.out)); rintro e w23 ⟨rfl, hb⟩; refine ⟨_, rfl, ?_⟩; replace HB := Aside0.mk (below_step (bAt HB.out) hb); (try clear hb); (try clear hb2); (try clear hk); (try clear hi)))
        refine bodyPost_ret (results_list (rs := [.tmp 2, .tmp 3, .tmp 4, .tmp 5]) rfl (by simp) (.tmp (.tmp (.tmp (.tmp .nil))))) rfl ?_
        exact ⟨eR, bAt HB.out⟩
       ·rw [if_neg c18] at H
        obtain ⟨c18b0, c18b1⟩ := neB c18
        simp only [Option.some.injEq, Prod.mk.injEq] at H
        obtain ⟨rfl, rfl, rfl, rfl⟩ := H
        go_enter Tryd.func25, Tryd.ntmps25
        go_wp2_with (first | ((with_reducible refine gate_callee (f := 19) rfl ?_); refine gL (some 9) Tryd.func19 #[.slice A0 l0.length c0, .int .i64 5] rfl gA ?_; (with_reducible refine (class_Run.calls k _ _ l0 5 t116 _ ?side1 ?side2 ?side3 A2.out).mono ?_); (case side1 => exact Gl.below HG.out (bAt HB.out)); (case side2 => exact CAt HR0.out); (case side3 => exact HC0.out); rintro e w24 ⟨rfl, hb⟩; refine ⟨_, rfl, ?_⟩; replace HB := Aside0.mk (below_step (bAt HB.out) hb); (try clear hb); (try clear hb2); (try clear hk); (try clear hi); obtain ⟨i025, hi025, _, hsz25, _⟩ := info_parts info5; obtain ⟨hcut25, hA25, hC25⟩ := print_take_of (P := Tryd.prog) (Value.int .u8) 0 22 5 .i64 Tryd.underlying22 hi025 hsz25 A0 c0 l0 t116 dt dt HC0.out; have HR117 := Aside0.mk (Kd.C_of_reads (h1 := fun _ => rfl) (hA25 _ (Kd.reads_of_C HR0.out))); have HC117 := Aside0.mk hC25; clear hA25 hC25 hi025 hsz25; have hcv26 := Kd.C_string (P := Tryd.prog) (A := A0) (c := c0) Tryd.underlying22 Tryd.underlying5 Tryd.underlying9 (Kd.C_below HR117.out HB.out); have hcv26z := hcv26; (try rw [List.length_drop, List.length_take, Nat.min_eq_left (Int.toNat_le.mpr dt)] at hcv26z); have hcv26y := hcv26; (try rw [List.length_take, Nat.min_eq_left (Int.toNat_le.mpr dt)] at hcv26y); have hcv26x := hcv26; (try rw [List.length_take, mM] at hcv26x); have hcv26m := hcv26; (try simp only [Int.reduceToNat, List.length_take] at hcv26m); have hcv26q := fun (q_ : Nat) => Kd.C_string (P := Tryd.prog) (A := A0) (c := c0) Tryd.underlying22 Tryd.underlying5 Tryd.underlying9 (Kd.C_drewN (Kd.C_below HR117.out HB.out) q_); have hcv26qy := hcv26q; (try simp only [List.length_take, Nat.min_eq_left (Int.toNat_le.mpr dt)] at hcv26qy); have hcv26qw := hcv26q; (try simp only [Int.reduceToNat] at hcv26qw); have hcv26qv := hcv26qy; (try simp only [Int.reduceToNat] at hcv26qv); have hcv26qu := hcv26q; (try simp only [Int.reduceToNat, List.length_take] at hcv26qu); have p118 : 0 ≤ (t116 : Int) := dt; have q118 : t116 < (l0.length : Int) := dt; obtain ⟨ad118, e118, hx118_0⟩ := Kd.at_int HR0.out t116 p118 q118; cases e118; replace hx118_0 := pw_cell_below HB.out hx118_0; replace p118 := eq_true p118; replace q118 := eq_true q118) | ((with_reducible refine gate_callee (f := 14) rfl ?_); (try (refine gate_guard (by rfl) ?_; dsimp only)); refine gL (some 25) Tryd.func14 #[.int .u8 (rd l0 t116)] rfl gA ?_; (with_reducible refine (class_Of.calls (rd l0 t116) t119 _ ?side1 A11.out).mono ?_); (case side1 => exact Gl.below HG.out (bAt HB.out)); rintro e w27 ⟨rfl, hb⟩; refine ⟨_, rfl, ?_⟩; replace HB := Aside0.mk (below_step (bAt HB.out) hb); (try clear hb); (try clear hb2); (try clear hk); (try clear hi); have p120 : 0 ≤ (t116 : Int) := dt; have q120 : t116 < (l0.length : Int) := dt; obtain ⟨ad120, e120, hx120_0⟩ := Kd.at_int HR0.out t116 p120 q120; obtain rfl : ad118 = ad120 := (by injection e120); replace hx120_0 := pw_cell_below HB.out hx120_0; replace p120 := eq_true p120; replace q120 := eq_true q120) | ((with_reducible refine gate_callee (f := 14) rfl ?_); (try (refine gate_guard (by rfl) ?_; dsimp only)); refine gL (some 33) Tryd.func14 #[.int .u8 (rd l0 t116)] rfl gA ?_; (with_reducible refine (class_Of.calls (rd l0 t116) t121 _ ?side1 A17.out).mono ?_); (case side1 => exact Gl.below HG.out (bAt HB.out)); rintro e w28 ⟨rfl, hb⟩; refine ⟨_, rfl, ?_⟩; replace HB := Aside0.mk (below_step (bAt HB.out) hb); (try clear hb); (try clear hb2); (try clear hk); (try clear hi)))
        refine bodyPost_ret (results_list (rs := [.tmp 2, .tmp 3, .tmp 4, .tmp 5]) rfl (by simp) (.tmp (.tmp (.tmp (.tmp .nil))))) rfl ?_
        exact ⟨eR, bAt HB.out⟩
     ·exact nB H c10
   ·rw [if_neg c5] at H
    obtain ⟨c5b0, c5b1⟩ := neB c5
    simp only [Option.some.injEq, Prod.mk.injEq] at H
    obtain ⟨rfl, rfl, rfl, rfl⟩ := H
    go_enter Tryd.func25, Tryd.ntmps25
    go_wp2_with (first | ((with_reducible refine gate_callee (f := 19) rfl ?_); refine gL (some 9) Tryd.func19 #[.slice A0 l0.length c0, .int .i64 5] rfl gA ?_; (with_reducible refine (class_Run.calls k _ _ l0 5 t116 _ ?side1 ?side2 ?side3 A2.out).mono ?_); (case side1 => exact Gl.below HG.out (bAt HB.out)); (case side2 => exact CAt HR0.out); (case side3 => exact HC0.out); rintro e w29 ⟨rfl, hb⟩; refine ⟨_, rfl, ?_⟩; replace HB := Aside0.mk (below_step (bAt HB.out) hb); (try clear hb); (try clear hb2); (try clear hk); (try clear hi); obtain ⟨i030, hi030, _, hsz30, _⟩ := info_parts info5; obtain ⟨hcut30, hA30, hC30⟩ := print_take_of (P := Tryd.prog) (Value.int .u8) 0 22 5 .i64 Tryd.underlying22 hi030 hsz30 A0 c0 l0 t116 dt dt HC0.out; have HR117 := Aside0.mk (Kd.C_of_reads (h1 := fun _ => rfl) (hA30 _ (Kd.reads_of_C HR0.out))); have HC117 := Aside0.mk hC30; clear hA30 hC30 hi030 hsz30; have hcv31 := Kd.C_string (P := Tryd.prog) (A := A0) (c := c0) Tryd.underlying22 Tryd.underlying5 Tryd.underlying9 (Kd.C_below HR117.out HB.out); have hcv31z := hcv31; (try rw [List.length_drop, List.length_take, Nat.min_eq_left (Int.toNat_le.mpr dt)] at hcv31z); have hcv31y := hcv31; (try rw [List.length_take, Nat.min_eq_left (Int.toNat_le.mpr dt)] at hcv31y); have hcv31x := hcv31; (try rw [List.length_take, mM] at hcv31x); have hcv31m := hcv31; (try simp only [Int.reduceToNat, List.length_take] at hcv31m); have hcv31q := fun (q_ : Nat) => Kd.C_string (P := Tryd.prog) (A := A0) (c := c0) Tryd.underlying22 Tryd.underlying5 Tryd.underlying9 (Kd.C_drewN (Kd.C_below HR117.out HB.out) q_); have hcv31qy := hcv31q; (try simp only [List.length_take, Nat.min_eq_left (Int.toNat_le.mpr dt)] at hcv31qy); have hcv31qw := hcv31q; (try simp only [Int.reduceToNat] at hcv31qw); have hcv31qv := hcv31qy; (try simp only [Int.reduceToNat] at hcv31qv); have hcv31qu := hcv31q; (try simp only [Int.reduceToNat, List.length_take] at hcv31qu)))
    refine bodyPost_ret (results_list (rs := [.tmp 2, .tmp 3, .tmp 4, .tmp 5]) rfl (by simp) (.tmp (.tmp (.tmp (.tmp .nil))))) rfl ?_
    exact ⟨eR, bAt HB.out⟩
  ·exact nB H c4
 ·exact nB H c3
end Go.Proofs.YtflekegjmjjdmaaDoor.P
