/- Part of the proof: what the theorem needs of this text. -/
import Derived.Test.YtklpephnbkoinaaDoorKPx0
import Derived.Test.YtklpephnbkoinaaDoorKPx1
namespace Go.Proofs.YtklpephnbkoinaaDoor.P
open Go.RowKit Go.Proofs.YtklpephnbkoinaaDoorW.PrintWords Go.Proofs.YtklpephnbkoinaaDoorW.PrintLast Go.Proofs.YtklpephnbkoinaaDoorW.PrintMore
attribute [local go_sem] max2_int min2_int max_two min_two max_three min_three max_four min_four   -- for this text's walks alone
set_option linter.unusedVariables false
set_option linter.unusedSimpArgs false
mutual
def match_Keep.j1 : Nat → List (S36) → List (S36) → List Int → List Int → Int → Int → Int → Option (Int × Int)
 | 0, _, _, _, _, _, _, _ => none
 | k + 1, x2, x3, x4, x5, x8, x9, x10 => match_Keep.l1 k x2 x3 x4 x5 x8 x9 x10
def match_Keep.l1 : Nat → List (S36) → List (S36) → List Int → List Int → Int → Int → Int → Option (Int × Int)
 | 0, _, _, _, _, _, _, _ => none
 | k + 1, x2, x3, x4, x5, x8, x9, x10 => if (wrap64 (x8 + x9)) < x10 then (if 0 ≤ (wrap64 ((wrap64 ((x2.length : Int) - 1)) - x9)) then (if (wrap64 ((wrap64 ((x2.length : Int) - 1)) - x9)) < (x2.length : Int) then (if 0 ≤ (wrap64 ((wrap64 ((x3.length : Int) - 1)) - x9)) then (if (wrap64 ((wrap64 ((x3.length : Int) - 1)) - x9)) < (x3.length : Int) then ((match_Keep_1.f ((rd_T36 x2 (wrap64 ((wrap64 ((x2.length : Int) - 1)) - x9))).f0) ((rd_T36 x2 (wrap64 ((wrap64 ((x2.length : Int) - 1)) - x9))).f1) ((rd_T36 x2 (wrap64 ((wrap64 ((x2.length : Int) - 1)) - x9))).f2) ((rd_T36 x2 (wrap64 ((wrap64 ((x2.length : Int) - 1)) - x9))).f3) ((rd_T36 x3 (wrap64 ((wrap64 ((x3.length : Int) - 1)) - x9))).f0) ((rd_T36 x3 (wrap64 ((wrap64 ((x3.length : Int) - 1)) - x9))).f1) ((rd_T36 x3 (wrap64 ((wrap64 ((x3.length : Int) - 1)) - x9))).f2) ((rd_T36 x3 (wrap64 ((wrap64 ((x3.length : Int) - 1)) - x9))).f3) x4 x5).bind fun t127 => (if t127 = true then (if (wrap64 ((x4.length : Int) - ((rd_T36 x2 (wrap64 ((wrap64 ((x2.length : Int) - 1)) - x9))).f1))) = (wrap64 ((x5.length : Int) - ((rd_T36 x3 (wrap64 ((wrap64 ((x3.length : Int) - 1)) - x9))).f1))) then (match_Keep.l1 k x2 x3 x4 x5 x8 (wrap64 (x9 + 1)) x10) else (some (x8, x9))) else (some (x8, x9)))) else (none)) else (none)) else (none)) else (none)) else (some (x8, x9))
def match_Keep.l0 : Nat → List (S36) → List (S36) → List Int → List Int → Int → Int → Int → Option (Int × Int)
 | 0, _, _, _, _, _, _, _ => none
 | k + 1, x2, x3, x4, x5, x8, x9, x10 => if x8 < x10 then (if 0 ≤ x8 then (if x8 < (x2.length : Int) then (if x8 < (x3.length : Int) then ((match_Keep_1.f ((rd_T36 x2 x8).f0) ((rd_T36 x2 x8).f1) ((rd_T36 x2 x8).f2) ((rd_T36 x2 x8).f3) ((rd_T36 x3 x8).f0) ((rd_T36 x3 x8).f1) ((rd_T36 x3 x8).f2) ((rd_T36 x3 x8).f3) x4 x5).bind fun t120 => (if t120 = true then (if ((rd_T36 x2 x8).f0) = ((rd_T36 x3 x8).f0) then (match_Keep.l0 k x2 x3 x4 x5 (wrap64 (x8 + 1)) x9 x10) else (match_Keep.j1 k x2 x3 x4 x5 x8 x9 x10)) else (match_Keep.j1 k x2 x3 x4 x5 x8 x9 x10))) else (none)) else (none)) else (none)) else (match_Keep.j1 k x2 x3 x4 x5 x8 x9 x10)
end
def match_Keep.f (k : Nat) (l0 : List Int) (l1 : List Int) (l2 : List (S36)) (l3 : List (S36)) : Option (Int × Int) := match_Keep.l0 k l2 l3 l0 l1 0 0 (mn (l2.length : Int) (l3.length : Int))
theorem match_Keep.mono_l : ∀ k, (∀ y0 y1 y2 y3 y4 y5 y6, LeO (match_Keep.j1 k y0 y1 y2 y3 y4 y5 y6) (match_Keep.j1 (k + 1) y0 y1 y2 y3 y4 y5 y6)) ∧ (∀ y0 y1 y2 y3 y4 y5 y6, LeO (match_Keep.l1 k y0 y1 y2 y3 y4 y5 y6) (match_Keep.l1 (k + 1) y0 y1 y2 y3 y4 y5 y6)) ∧ (∀ y0 y1 y2 y3 y4 y5 y6, LeO (match_Keep.l0 k y0 y1 y2 y3 y4 y5 y6) (match_Keep.l0 (k + 1) y0 y1 y2 y3 y4 y5 y6))
 | 0 => ⟨fun _ _ _ _ _ _ _ r h => by simp [match_Keep.j1] at h, fun _ _ _ _ _ _ _ r h => by simp [match_Keep.l1] at h, fun _ _ _ _ _ _ _ r h => by simp [match_Keep.l0] at h⟩
 | k + 1 => by
  obtain ⟨ih0, ih1, ih2⟩ := match_Keep.mono_l k
  refine ⟨?_, ?_, ?_⟩
  ·intro y0 y1 y2 y3 y4 y5 y6
   unfold match_Keep.j1
   repeat' with_reducible first | exact ih0 _ _ _ _ _ _ _ | exact ih1 _ _ _ _ _ _ _ | exact ih2 _ _ _ _ _ _ _ | exact LeO.refl _ | exact LeO.none _ | refine LeO.ite ?_ ?_ | refine LeO.bind ?_ (fun _ => ?_)
  ·intro y0 y1 y2 y3 y4 y5 y6
   unfold match_Keep.l1
   repeat' with_reducible first | exact ih0 _ _ _ _ _ _ _ | exact ih1 _ _ _ _ _ _ _ | exact ih2 _ _ _ _ _ _ _ | exact LeO.refl _ | exact LeO.none _ | refine LeO.ite ?_ ?_ | refine LeO.bind ?_ (fun _ => ?_)
  ·intro y0 y1 y2 y3 y4 y5 y6
   unfold match_Keep.l0
   repeat' with_reducible first | exact ih0 _ _ _ _ _ _ _ | exact ih1 _ _ _ _ _ _ _ | exact ih2 _ _ _ _ _ _ _ | exact LeO.refl _ | exact LeO.none _ | refine LeO.ite ?_ ?_ | refine LeO.bind ?_ (fun _ => ?_)
theorem match_Keep.mono : ∀ a0 a1 a2 a3 k, LeO (match_Keep.f k a0 a1 a2 a3) (match_Keep.f (k + 1) a0 a1 a2 a3) := by
 intro a0 a1 a2 a3 k
 obtain ⟨ih0, ih1, ih2⟩ := match_Keep.mono_l k
 unfold match_Keep.f
 repeat' with_reducible first | exact ih0 _ _ _ _ _ _ _ | exact ih1 _ _ _ _ _ _ _ | exact ih2 _ _ _ _ _ _ _ | exact LeO.refl _ | exact LeO.none _ | refine LeO.ite ?_ ?_ | refine LeO.bind ?_ (fun _ => ?_)
def match_Keep.T3 : Bool × List (List Nat × List Nat) := (true, [([], []), ([], []), ([0, 1], [0, 1]), ([2], [2]), ([3], [3]), ([3], [3]), ([3], [3]), ([5, 6, 3], [3, 5, 6]), ([7, 3], [3, 7]), ([3], [3]), ([3], [3]), ([9, 10, 3], [3, 9, 10]), ([11, 3], [3, 11]), ([4, 8, 12, 3, 3], [3, 4, 8, 12]), ([3, 13], [3, 13]), ([14, 13], [14]), ([15], [15]), ([15], [15]), ([16, 17, 15], [15, 16, 17]), ([18, 15], [15, 18]), ([19, 15], [15, 19]), ([15], [15]), ([15], [15]), ([21, 22, 15], [15, 21, 22]), ([23, 15], [15, 23]), ([24, 15], [15, 24]), ([20, 25, 15], [15, 20, 25]), ([15, 26], [15, 26])])
def match_Keep.B3 : List Nat := [0, 0, 3, 7, 15, 15, 15, 111, 239, 15, 15, 1551, 3599, 8191, 16383, 32767, 65535, 65535, 262143, 524287, 1048575, 65535, 65535, 6356991, 14745599, 31522815, 67108863, 134217727]
theorem match_Keep.tab3 : rtab .any (opsOf Tryd.f8 3) = match_Keep.T3 := by kernel_rfl
theorem match_Keep.bits3 : waitsOk match_Keep.T3.2 match_Keep.B3 = true := by kernel_rfl
def match_Keep.T6 : Bool × List (List Nat × List Nat) := (true, [([], []), ([], []), ([1], [1]), ([2], [2]), ([], []), ([3, 4], [3, 4]), ([0, 5], [0, 5]), ([6], [6]), ([], []), ([], []), ([9], [9]), ([10], [10]), ([], []), ([11, 12], [11, 12]), ([8, 13], [8, 13]), ([14], [14]), ([], []), ([], []), ([16, 7, 0, 1, 2, 3, 4, 5, 6, 7, 16, 17], [7, 16]), ([17, 15, 18, 0, 1, 2, 3, 4, 5, 6, 7, 8, 9, 10, 11, 12, 13, 14, 15, 16, 17, 18], [15, 17])])
def match_Keep.B6 : List Nat := [0, 0, 2, 6, 0, 30, 63, 127, 0, 0, 512, 1536, 0, 7680, 16128, 32512, 0, 0, 196863, 524287]
theorem match_Keep.tab6 : rtab .any (opsOf Tryd.f8 6) = match_Keep.T6 := by kernel_rfl
theorem match_Keep.bits6 : waitsOk match_Keep.T6.2 match_Keep.B6 = true := by kernel_rfl
set_option maxHeartbeats 8000000 in
set_option maxRecDepth 100000 in
theorem match_Keep.calls (k : Nat) (A0 : Option Addr) (c0 : Nat) (l0 : List Int) (A1 : Option Addr) (c1 : Nat) (l1 : List Int) (A2 : Option Addr) (c2 : Nat) (l2 : List (S36)) (A3 : Option Addr) (c3 : Nat) (l3 : List (S36)) (r1 : Int) (r2 : Int) (w0 : World) (hr0 : Kd.C (Kd.int .u8) w0 A0 l0.length l0) (hc0 : l0.length ≤ c0) (hr1 : Kd.C (Kd.int .u8) w0 A1 l1.length l1) (hc1 : l1.length ≤ c1) (hr2 : Kd.C k36 w0 A2 l2.length l2) (hc2 : l2.length ≤ c2) (hr3 : Kd.C k36 w0 A3 l3.length l3) (hc3 : l3.length ≤ c3) (h : match_Keep.f k l0 l1 l2 l3 = some (r1, r2)) :
  Calls Tryd.prog 8 #[.slice A0 l0.length c0, .slice A1 l1.length c1, .slice A2 l2.length c2, .slice A3 l3.length c3] w0 fun e w' => e = .returned (.tuple #[.int .i64 r1, .int .i64 r2]) ∧ Below w0.heap.size w0 w' := by
 have hu36 := Tryd.underlying36
 have HR0 := Aside0.mk hr0
 have HC0 := Aside0.mk hc0
 clear hr0 hc0
 have HR1 := Aside0.mk hr1
 have HC1 := Aside0.mk hc1
 clear hr1 hc1
 have HR2 := Aside0.mk hr2
 have HC2 := Aside0.mk hc2
 clear hr2 hc2
 have HR3 := Aside0.mk hr3
 have HC3 := Aside0.mk hc3
 clear hr3 hc3
 have HB := Aside0.mk (Below.refl w0.heap.size w0)
 have H : (match_Keep.l0 k l2 l3 l0 l1 0 0 (mn (l2.length : Int) (l3.length : Int))) = some (r1, r2) := h
 clear h
 obtain ⟨ji5, hji5⟩ : ∃ j_ : Int, (mn (l2.length : Int) (l3.length : Int)) = j_ := ⟨_, rfl⟩
 replace H : (match_Keep.l0 k l2 l3 l0 l1 0 0 ji5) = some (r1, r2) := by first | (rw [hji5] at H; exact H) | (simp only [hji5] at H ⊢; exact H)
 (try (have hji5l : 0 ≤ ji5 := by (rw [← hji5]; unfold mn; (repeat' split) <;> omega)))
 (try (have hji5m : 0 ≤ ji5 := by omega))
 have hji5_ : (if (l3.length : Int) < (l2.length : Int) then (l3.length : Int) else (l2.length : Int)) = ji5 := hji5
 have hji5n_ : (if l3.length < l2.length then (l3.length : Int) else (l2.length : Int)) = ji5 := by rw [← hji5_]; simp only [Int.ofNat_lt]
 have HC6 := Aside0.mk H
 clear H
 have hmf_ : ∀ (fn : Fn) (first cap : Array Value) (w : World), (Instr.makeFunc fn first cap).run Tryd.prog w = .ok (.func fn first cap) w := fun _ _ _ _ => rfl
 go_enter Tryd.func8, Tryd.ntmps8
 go_upto_region 1 with (first | ((with_reducible refine gate_dst (N := 4) rfl ?_); refine box_event ?hg (N := 4) ?hd (cs := #[.slice A0 l0.length c0]) (t := 22) ?hr ?_; (case hd => rfl); (case hg => rfl); (case hr => first | (go_simp; done) | (go_simp; rfl)); intro gx4 hg wx4 hbox hb; have BX4 := Aside0.mk hbox; replace HB := Aside0.mk (below_step HB.out hb); clear hb hbox hg) | ((with_reducible refine gate_dst (N := 5) rfl ?_); refine box_event ?hg (N := 5) ?hd (cs := #[.slice A1 l1.length c1]) (t := 22) ?hr ?_; (case hd => rfl); (case hg => rfl); (case hr => first | (go_simp; done) | (go_simp; rfl)); intro gx5 hg w hbox hb; have BX5 := Aside0.mk hbox; replace BX4 := Aside0.mk (blk_below (g := gx4) (o := .cells #[.slice A0 l0.length c0] 22 (0, 0)) BX4.out hb); replace HB := Aside0.mk (below_step HB.out hb); clear hb hbox hg))
 replace HR0 := Aside0.mk (Kd.C_below HR0.out HB.out)
 replace HR1 := Aside0.mk (Kd.C_below HR1.out HB.out)
 replace HR2 := Aside0.mk (Kd.C_below HR2.out HB.out)
 replace HR3 := Aside0.mk (Kd.C_below HR3.out HB.out)
 have HX4 := Aside0.mk (show w.cell? ⟨gx4, 0, none⟩ = some (.slice A0 l0.length c0) from (blk_cell BX4.out 0).trans rfl)
 clear BX4
 have HX5 := Aside0.mk (show w.cell? ⟨gx5, 0, none⟩ = some (.slice A1 l1.length c1) from (blk_cell BX5.out 0).trans rfl)
 clear BX5
 have HB0 := HB
 clear HB
 have HB := Aside0.mk (Below.refl w.heap.size w)
 go_upto_block 0 with (fail)
 go_cut [8] (fun v8 wc => ∃ (kq : Nat) (x8_5 : Int), v8 = .int .i64 x8_5 ∧ Aside0 (match_Keep.j1 kq l2 l3 l0 l1 x8_5 0 ji5 = some (r1, r2)) ∧ Aside0 (kq ≤ k) ∧ Aside0 (Below w.heap.size w wc))
 case first =>
  have H := HC6.out
  clear HC6
  have H' := Aside0.mk H
  clear H
  go_wp2
  go_loopg [8] k (fun kq v8 w' => ∃ (x8_1 : Int), v8 = .int .i64 x8_1 ∧ Aside0 (match_Keep.l0 kq l2 l3 l0 l1 x8_1 0 ji5 = some (r1, r2)) ∧ Aside0 (kq ≤ k) ∧ Aside0 (Below w.heap.size w w'))
  case atStart => exact ⟨(0), sR, H', ⟨Nat.le_refl _⟩, ⟨bAt HB.out⟩⟩
  case round =>
   clear H'
   try clear c1
   try clear c2
   try clear p2
   try clear c3
   obtain ⟨x8_1, rfl, HA, HK1, HB⟩ := hrel
   cases gk with
   | zero => exact absurd HA.out (by simp [match_Keep.l0])
   | succ k1 =>
    have H := HA.out
    clear HA
    simp only [match_Keep.l0] at H
    by_cases c7 : x8_1 < ji5
    ·rw [if_pos c7] at H
     have c7b0 := decide_eq_true c7
     clear c7
     (first | rw [c7b0] | (simp only [i64_w, i32_w]; rw [c7b0]) | skip)
     by_cases c8 : 0 ≤ x8_1
     ·rw [if_pos c8] at H
      have c8b0 := decide_eq_true c8
      clear c8
      by_cases c9 : x8_1 < (l2.length : Int)
      ·rw [if_pos c9] at H
       have c9b0 := decide_eq_true c9
       clear c9
       by_cases c10 : x8_1 < (l3.length : Int)
       ·rw [if_pos c10] at H
        have c10b0 := decide_eq_true c10
        clear c10
        obtain ⟨t120, A11, H⟩ := bE H
        by_cases c12 : t120 = true
        ·subst c12
         replace H := tP H
         by_cases c13 : ((rd_T36 l2 x8_1).f0) = ((rd_T36 l3 x8_1).f0)
         ·rw [if_pos c13] at H
          obtain ⟨c13b0, c13b1⟩ := eqB c13
          clear c13
          have H' := Aside0.mk H
          clear H
          try go_wp2
          replace HB := Aside0.mk (below_drew1 HB.out)
          have p118 : 0 ≤ (x8_1 : Int) := dt
          have q118 : x8_1 < (l2.length : Int) := dt
          obtain ⟨ad118, A118_3, c118_3, e118, hx118_0, hx118_1, hx118_2, hx118_3, hl118_3, hi118_3⟩ := at_T36 HR2.out x8_1 p118 q118
          have hw118_3 := hx118_3
          have hw118_2 := hx118_2
          have hw118_1 := hx118_1
          have hw118_0 := hx118_0
          cases e118
          replace hx118_0 := pw_cell_below HB.out hx118_0
          replace hx118_1 := pw_cell_below HB.out hx118_1
          replace hx118_2 := pw_cell_below HB.out hx118_2
          replace hx118_3 := pw_cell_below HB.out hx118_3
          have HR118_3 := Aside0.mk hi118_3
          have HC118_3 := Aside0.mk hl118_3
          clear hi118_3 hl118_3
          replace p118 := eq_true p118
          replace q118 := eq_true q118
          have p119 : 0 ≤ (x8_1 : Int) := dt
          have q119 : x8_1 < (l3.length : Int) := dt
          obtain ⟨ad119, A119_3, c119_3, e119, hx119_0, hx119_1, hx119_2, hx119_3, hl119_3, hi119_3⟩ := at_T36 HR3.out x8_1 p119 q119
          have hw119_3 := hx119_3
          have hw119_2 := hx119_2
          have hw119_1 := hx119_1
          have hw119_0 := hx119_0
          cases e119
          replace hx119_0 := pw_cell_below HB.out hx119_0
          replace hx119_1 := pw_cell_below HB.out hx119_1
          replace hx119_2 := pw_cell_below HB.out hx119_2
          replace hx119_3 := pw_cell_below HB.out hx119_3
          have HR119_3 := Aside0.mk hi119_3
          have HC119_3 := Aside0.mk hl119_3
          clear hi119_3 hl119_3
          replace p119 := eq_true p119
          replace q119 := eq_true q119
          have p121 : 0 ≤ (x8_1 : Int) := dt
          have q121 : x8_1 < (l2.length : Int) := dt
          obtain ⟨ad121, A121_3, c121_3, e121, hx121_0, hx121_1, hx121_2, hx121_3, hl121_3, hi121_3⟩ := at_T36 HR2.out x8_1 p121 q121
          have hw121_3 := hx121_3
          have hw121_2 := hx121_2
          have hw121_1 := hx121_1
          have hw121_0 := hx121_0
          obtain rfl : ad118 = ad121 := (by injection e121)
          replace hx121_0 := pw_cell_below HB.out hx121_0
          replace hx121_1 := pw_cell_below HB.out hx121_1
          replace hx121_2 := pw_cell_below HB.out hx121_2
          replace hx121_3 := pw_cell_below HB.out hx121_3
          have HR121_3 := Aside0.mk hi121_3
          have HC121_3 := Aside0.mk hl121_3
          clear hi121_3 hl121_3
          replace p121 := eq_true p121
          replace q121 := eq_true q121
          have p122 : 0 ≤ (x8_1 : Int) := dt
          have q122 : x8_1 < (l3.length : Int) := dt
          obtain ⟨ad122, A122_3, c122_3, e122, hx122_0, hx122_1, hx122_2, hx122_3, hl122_3, hi122_3⟩ := at_T36 HR3.out x8_1 p122 q122
          have hw122_3 := hx122_3
          have hw122_2 := hx122_2
          have hw122_1 := hx122_1
          have hw122_0 := hx122_0
          obtain rfl : ad119 = ad122 := (by injection e122)
          replace hx122_0 := pw_cell_below HB.out hx122_0
          replace hx122_1 := pw_cell_below HB.out hx122_1
          replace hx122_2 := pw_cell_below HB.out hx122_2
          replace hx122_3 := pw_cell_below HB.out hx122_3
          have HR122_3 := Aside0.mk hi122_3
          have HC122_3 := Aside0.mk hl122_3
          clear hi122_3 hl122_3
          replace p122 := eq_true p122
          replace q122 := eq_true q122
          refine start_ (n := 28) (S := fun w' => w'.cell? (ad118.add ((x8_1).toNat * 4)) = some (.int .i64 ((rd_T36 l2 x8_1).f0)) ∧ w'.cell? ⟨(ad118.add ((x8_1).toNat * 4)).block, (ad118.add ((x8_1).toNat * 4)).off + 1, none⟩ = some (.int .i64 ((rd_T36 l2 x8_1).f1)) ∧ w'.cell? ⟨(ad118.add ((x8_1).toNat * 4)).block, (ad118.add ((x8_1).toNat * 4)).off + 2, none⟩ = some (.int .i64 ((rd_T36 l2 x8_1).f2)) ∧ w'.cell? ⟨(ad118.add ((x8_1).toNat * 4)).block, (ad118.add ((x8_1).toNat * 4)).off + 3, none⟩ = some (.slice A118_3 ((rd_T36 l2 x8_1).f3).length c118_3) ∧ w'.cell? (ad119.add ((x8_1).toNat * 4)) = some (.int .i64 ((rd_T36 l3 x8_1).f0)) ∧ w'.cell? ⟨(ad119.add ((x8_1).toNat * 4)).block, (ad119.add ((x8_1).toNat * 4)).off + 1, none⟩ = some (.int .i64 ((rd_T36 l3 x8_1).f1)) ∧ w'.cell? ⟨(ad119.add ((x8_1).toNat * 4)).block, (ad119.add ((x8_1).toNat * 4)).off + 2, none⟩ = some (.int .i64 ((rd_T36 l3 x8_1).f2)) ∧ w'.cell? ⟨(ad119.add ((x8_1).toNat * 4)).block, (ad119.add ((x8_1).toNat * 4)).off + 3, none⟩ = some (.slice A119_3 ((rd_T36 l3 x8_1).f3).length c119_3) ∧ w'.cell? (ad118.add ((x8_1).toNat * 4)) = some (.int .i64 ((rd_T36 l2 x8_1).f0)) ∧ w'.cell? ⟨(ad118.add ((x8_1).toNat * 4)).block, (ad118.add ((x8_1).toNat * 4)).off + 1, none⟩ = some (.int .i64 ((rd_T36 l2 x8_1).f1)) ∧ w'.cell? ⟨(ad118.add ((x8_1).toNat * 4)).block, (ad118.add ((x8_1).toNat * 4)).off + 2, none⟩ = some (.int .i64 ((rd_T36 l2 x8_1).f2)) ∧ w'.cell? ⟨(ad118.add ((x8_1).toNat * 4)).block, (ad118.add ((x8_1).toNat * 4)).off + 3, none⟩ = some (.slice A121_3 ((rd_T36 l2 x8_1).f3).length c121_3) ∧ w'.cell? (ad119.add ((x8_1).toNat * 4)) = some (.int .i64 ((rd_T36 l3 x8_1).f0)) ∧ w'.cell? ⟨(ad119.add ((x8_1).toNat * 4)).block, (ad119.add ((x8_1).toNat * 4)).off + 1, none⟩ = some (.int .i64 ((rd_T36 l3 x8_1).f1)) ∧ w'.cell? ⟨(ad119.add ((x8_1).toNat * 4)).block, (ad119.add ((x8_1).toNat * 4)).off + 2, none⟩ = some (.int .i64 ((rd_T36 l3 x8_1).f2)) ∧ w'.cell? ⟨(ad119.add ((x8_1).toNat * 4)).block, (ad119.add ((x8_1).toNat * 4)).off + 3, none⟩ = some (.slice A122_3 ((rd_T36 l3 x8_1).f3).length c122_3)) (ds := []) (bm 28 0) (by kernel_rfl) rfl rfl ⟨((HB.out.cell (World.block_lt_of_cell? w _ hw118_0)).trans hw118_0), ((HB.out.cell (World.block_lt_of_cell? w _ hw118_1)).trans hw118_1), ((HB.out.cell (World.block_lt_of_cell? w _ hw118_2)).trans hw118_2), ((HB.out.cell (World.block_lt_of_cell? w _ hw118_3)).trans hw118_3), ((HB.out.cell (World.block_lt_of_cell? w _ hw119_0)).trans hw119_0), ((HB.out.cell (World.block_lt_of_cell? w _ hw119_1)).trans hw119_1), ((HB.out.cell (World.block_lt_of_cell? w _ hw119_2)).trans hw119_2), ((HB.out.cell (World.block_lt_of_cell? w _ hw119_3)).trans hw119_3), ((HB.out.cell (World.block_lt_of_cell? w _ hw121_0)).trans hw121_0), ((HB.out.cell (World.block_lt_of_cell? w _ hw121_1)).trans hw121_1), ((HB.out.cell (World.block_lt_of_cell? w _ hw121_2)).trans hw121_2), ((HB.out.cell (World.block_lt_of_cell? w _ hw121_3)).trans hw121_3), ((HB.out.cell (World.block_lt_of_cell? w _ hw122_0)).trans hw122_0), ((HB.out.cell (World.block_lt_of_cell? w _ hw122_1)).trans hw122_1), ((HB.out.cell (World.block_lt_of_cell? w _ hw122_2)).trans hw122_2), ((HB.out.cell (World.block_lt_of_cell? w _ hw122_3)).trans hw122_3)⟩ (fun hHeld => ?_); refine with_tabW match_Keep.tab3 match_Keep.bits3 (fun HT_ HW_ => ?_)
          generalize wr.drew = w14 at HB HR118_3 HR119_3 HR121_3 HR122_3 hx118_0 hx118_1 hx118_2 hx118_3 hx119_0 hx119_1 hx119_2 hx119_3 hx121_0 hx121_1 hx121_2 hx121_3 hx122_0 hx122_1 hx122_2 hx122_3 hHeld ⊢
          refine pv_ 0 (some 20) (bm 28 1) HT_.out ?_
          refine pv_ 1 (some 21) (bm 28 3) HT_.out ?_
          refine pv_ 2 (some 22) (bm 28 7) HT_.out ?_
          refine pv_ 3 (some 23) (bm 28 15) HT_.out ?_
          refine pv_ 4 (some 24) (bm 28 31) HT_.out ?_
          refine pv_ 5 (some 25) (bm 28 63) HT_.out ?_
          refine pv_ 6 (some 26) (bm 28 127) HT_.out ?_
          refine pv_ 7 (some 27) (bm 28 255) HT_.out ?_
          refine pv_ 9 (some 29) (bm 28 767) HT_.out ?_
          refine pv_ 10 (some 30) (bm 28 1791) HT_.out ?_
          refine pv_ 11 (some 31) (bm 28 3839) HT_.out ?_
          refine tk_ 8 (some 28) (bm 28 4095) HT_.out HW_.out hHeld ?_
          refine tk_ 12 (some 32) (bm 28 8191) HT_.out HW_.out hHeld ?_
          refine one_ (i := 13) (N := some 33) (bm 28 16383) rfl rfl (one_of HT_.out (by kernel_rfl)) (by decide) (fun K hK => ?_)
          refine goesK_ (args1 := #[.agg #[.int .i64 ((rd_T36 l2 x8_1).f0), .int .i64 ((rd_T36 l2 x8_1).f1), .int .i64 ((rd_T36 l2 x8_1).f2), .slice A118_3 ((rd_T36 l2 x8_1).f3).length c118_3], .agg #[.int .i64 ((rd_T36 l3 x8_1).f0), .int .i64 ((rd_T36 l3 x8_1).f1), .int .i64 ((rd_T36 l3 x8_1).f2), .slice A119_3 ((rd_T36 l3 x8_1).f3).length c119_3]]) #[.pointer (some ⟨gx4, 0, none⟩), .pointer (some ⟨gx5, 0, none⟩)] Tryd.func12 (by kernel_rfl) rfl #[.agg #[.int .i64 ((rd_T36 l2 x8_1).f0), .int .i64 ((rd_T36 l2 x8_1).f1), .int .i64 ((rd_T36 l2 x8_1).f2), .slice A118_3 ((rd_T36 l2 x8_1).f3).length c118_3], .agg #[.int .i64 ((rd_T36 l3 x8_1).f0), .int .i64 ((rd_T36 l3 x8_1).f1), .int .i64 ((rd_T36 l3 x8_1).f2), .slice A119_3 ((rd_T36 l3 x8_1).f3).length c119_3], .pointer (some ⟨gx4, 0, none⟩), .pointer (some ⟨gx5, 0, none⟩)] rfl (by rfl) rfl rfl gA rfl ?_
          with_reducible refine (match_Keep_1.calls gx4 gx5 ((rd_T36 l2 x8_1).f0) ((rd_T36 l2 x8_1).f1) ((rd_T36 l2 x8_1).f2) _ _ ((rd_T36 l2 x8_1).f3) ((rd_T36 l3 x8_1).f0) ((rd_T36 l3 x8_1).f1) ((rd_T36 l3 x8_1).f2) _ _ ((rd_T36 l3 x8_1).f3) _ _ l0 _ _ l1 true _ ?side1 ?side2 ?side3 ?side4 ?side5 ?side6 ?side7 ?side8 (pw_cell_below (bAt HB.out) HX4.out) (pw_cell_below (bAt HB.out) HX5.out) A11.out).mono ?_
          (case side1 => exact CAt (Kd.C_below HR118_3.out HB.out))
          (case side2 => exact HC118_3.out)
          (case side3 => exact CAt (Kd.C_below HR119_3.out HB.out))
          (case side4 => exact HC119_3.out)
          (case side5 => exact CAt (Kd.C_below HR0.out HB.out))
          (case side6 => exact HC0.out)
          (case side7 => exact CAt (Kd.C_below HR1.out HB.out))
          (case side8 => exact HC1.out)
          rintro e w15 ⟨rfl, hb⟩
          refine ⟨_, rfl, ?_⟩
          replace HB := Aside0.mk (below_step (bAt HB.out) hb)
          (try clear hb)
          (try clear hb2)
          (try clear hk)
          (try clear hi)
          refine hK.out _ _ ⟨((HB.out.cell (World.block_lt_of_cell? w _ hw118_0)).trans hw118_0), ((HB.out.cell (World.block_lt_of_cell? w _ hw118_1)).trans hw118_1), ((HB.out.cell (World.block_lt_of_cell? w _ hw118_2)).trans hw118_2), ((HB.out.cell (World.block_lt_of_cell? w _ hw118_3)).trans hw118_3), ((HB.out.cell (World.block_lt_of_cell? w _ hw119_0)).trans hw119_0), ((HB.out.cell (World.block_lt_of_cell? w _ hw119_1)).trans hw119_1), ((HB.out.cell (World.block_lt_of_cell? w _ hw119_2)).trans hw119_2), ((HB.out.cell (World.block_lt_of_cell? w _ hw119_3)).trans hw119_3), ((HB.out.cell (World.block_lt_of_cell? w _ hw121_0)).trans hw121_0), ((HB.out.cell (World.block_lt_of_cell? w _ hw121_1)).trans hw121_1), ((HB.out.cell (World.block_lt_of_cell? w _ hw121_2)).trans hw121_2), ((HB.out.cell (World.block_lt_of_cell? w _ hw121_3)).trans hw121_3), ((HB.out.cell (World.block_lt_of_cell? w _ hw122_0)).trans hw122_0), ((HB.out.cell (World.block_lt_of_cell? w _ hw122_1)).trans hw122_1), ((HB.out.cell (World.block_lt_of_cell? w _ hw122_2)).trans hw122_2), ((HB.out.cell (World.block_lt_of_cell? w _ hw122_3)).trans hw122_3)⟩ (fun hHeld => ?_)
          clear hK K
          refine norm_ (a' := ?_) ?_ ?_
          rotate_left
          ·show Act.put _ (some 33) _ = _
           simp only [Act.put, List.setIfInBounds_toArray, List.set_cons_zero, List.set_cons_succ, i64_w, i32_w]
           rfl
          refine pv_ 14 (some 34) (bm 28 32767) HT_.out ?_
          refine pv_ 15 (some 35) (bm 28 65535) HT_.out ?_
          refine pv_ 16 (some 36) (bm 28 131071) HT_.out ?_
          refine pv_ 17 (some 37) (bm 28 262143) HT_.out ?_
          refine pv_ 18 (some 38) (bm 28 524287) HT_.out ?_
          refine pv_ 19 (some 39) (bm 28 1048575) HT_.out ?_
          refine pv_ 21 (some 41) (bm 28 3145727) HT_.out ?_
          refine pv_ 22 (some 42) (bm 28 7340031) HT_.out ?_
          refine pv_ 23 (some 43) (bm 28 15728639) HT_.out ?_
          refine pv_ 24 (some 44) (bm 28 32505855) HT_.out ?_
          refine tk_ 20 (some 40) (bm 28 33554431) HT_.out HW_.out hHeld ?_
          refine tk_ 25 (some 45) (bm 28 67108863) HT_.out HW_.out hHeld ?_
          refine pv_ 26 (some 46) (bm 28 134217727) HT_.out ?_
          refine pv_ 27 (some 47) (bm 28 268435455) HT_.out ?_
          refine done_ (done_of HT_.out (by kernel_rfl)) ?_
          try go_wp2
          go_roundg k1
          case measure => have := HK1.out; omega
          case rel => exact ⟨(wrap64 (x8_1 + 1)), sR, H', ⟨by have := HK1.out; omega⟩, ⟨bAt HB.out⟩⟩
         ·rw [if_neg c13] at H
          obtain ⟨c13b0, c13b1⟩ := neB c13
          have H' := Aside0.mk H
          clear H
          try go_wp2
          replace HB := Aside0.mk (below_drew1 HB.out)
          have p118 : 0 ≤ (x8_1 : Int) := dt
          have q118 : x8_1 < (l2.length : Int) := dt
          obtain ⟨ad118, A118_3, c118_3, e118, hx118_0, hx118_1, hx118_2, hx118_3, hl118_3, hi118_3⟩ := at_T36 HR2.out x8_1 p118 q118
          have hw118_3 := hx118_3
          have hw118_2 := hx118_2
          have hw118_1 := hx118_1
          have hw118_0 := hx118_0
          cases e118
          replace hx118_0 := pw_cell_below HB.out hx118_0
          replace hx118_1 := pw_cell_below HB.out hx118_1
          replace hx118_2 := pw_cell_below HB.out hx118_2
          replace hx118_3 := pw_cell_below HB.out hx118_3
          have HR118_3 := Aside0.mk hi118_3
          have HC118_3 := Aside0.mk hl118_3
          clear hi118_3 hl118_3
          replace p118 := eq_true p118
          replace q118 := eq_true q118
          have p119 : 0 ≤ (x8_1 : Int) := dt
          have q119 : x8_1 < (l3.length : Int) := dt
          obtain ⟨ad119, A119_3, c119_3, e119, hx119_0, hx119_1, hx119_2, hx119_3, hl119_3, hi119_3⟩ := at_T36 HR3.out x8_1 p119 q119
          have hw119_3 := hx119_3
          have hw119_2 := hx119_2
          have hw119_1 := hx119_1
          have hw119_0 := hx119_0
          cases e119
          replace hx119_0 := pw_cell_below HB.out hx119_0
          replace hx119_1 := pw_cell_below HB.out hx119_1
          replace hx119_2 := pw_cell_below HB.out hx119_2
          replace hx119_3 := pw_cell_below HB.out hx119_3
          have HR119_3 := Aside0.mk hi119_3
          have HC119_3 := Aside0.mk hl119_3
          clear hi119_3 hl119_3
          replace p119 := eq_true p119
          replace q119 := eq_true q119
          have p121 : 0 ≤ (x8_1 : Int) := dt
          have q121 : x8_1 < (l2.length : Int) := dt
          obtain ⟨ad121, A121_3, c121_3, e121, hx121_0, hx121_1, hx121_2, hx121_3, hl121_3, hi121_3⟩ := at_T36 HR2.out x8_1 p121 q121
          have hw121_3 := hx121_3
          have hw121_2 := hx121_2
          have hw121_1 := hx121_1
          have hw121_0 := hx121_0
          obtain rfl : ad118 = ad121 := (by injection e121)
          replace hx121_0 := pw_cell_below HB.out hx121_0
          replace hx121_1 := pw_cell_below HB.out hx121_1
          replace hx121_2 := pw_cell_below HB.out hx121_2
          replace hx121_3 := pw_cell_below HB.out hx121_3
          have HR121_3 := Aside0.mk hi121_3
          have HC121_3 := Aside0.mk hl121_3
          clear hi121_3 hl121_3
          replace p121 := eq_true p121
          replace q121 := eq_true q121
          have p122 : 0 ≤ (x8_1 : Int) := dt
          have q122 : x8_1 < (l3.length : Int) := dt
          obtain ⟨ad122, A122_3, c122_3, e122, hx122_0, hx122_1, hx122_2, hx122_3, hl122_3, hi122_3⟩ := at_T36 HR3.out x8_1 p122 q122
          have hw122_3 := hx122_3
          have hw122_2 := hx122_2
          have hw122_1 := hx122_1
          have hw122_0 := hx122_0
          obtain rfl : ad119 = ad122 := (by injection e122)
          replace hx122_0 := pw_cell_below HB.out hx122_0
          replace hx122_1 := pw_cell_below HB.out hx122_1
          replace hx122_2 := pw_cell_below HB.out hx122_2
          replace hx122_3 := pw_cell_below HB.out hx122_3
          have HR122_3 := Aside0.mk hi122_3
          have HC122_3 := Aside0.mk hl122_3
          clear hi122_3 hl122_3
          replace p122 := eq_true p122
          replace q122 := eq_true q122
          refine start_ (n := 28) (S := fun w' => w'.cell? (ad118.add ((x8_1).toNat * 4)) = some (.int .i64 ((rd_T36 l2 x8_1).f0)) ∧ w'.cell? ⟨(ad118.add ((x8_1).toNat * 4)).block, (ad118.add ((x8_1).toNat * 4)).off + 1, none⟩ = some (.int .i64 ((rd_T36 l2 x8_1).f1)) ∧ w'.cell? ⟨(ad118.add ((x8_1).toNat * 4)).block, (ad118.add ((x8_1).toNat * 4)).off + 2, none⟩ = some (.int .i64 ((rd_T36 l2 x8_1).f2)) ∧ w'.cell? ⟨(ad118.add ((x8_1).toNat * 4)).block, (ad118.add ((x8_1).toNat * 4)).off + 3, none⟩ = some (.slice A118_3 ((rd_T36 l2 x8_1).f3).length c118_3) ∧ w'.cell? (ad119.add ((x8_1).toNat * 4)) = some (.int .i64 ((rd_T36 l3 x8_1).f0)) ∧ w'.cell? ⟨(ad119.add ((x8_1).toNat * 4)).block, (ad119.add ((x8_1).toNat * 4)).off + 1, none⟩ = some (.int .i64 ((rd_T36 l3 x8_1).f1)) ∧ w'.cell? ⟨(ad119.add ((x8_1).toNat * 4)).block, (ad119.add ((x8_1).toNat * 4)).off + 2, none⟩ = some (.int .i64 ((rd_T36 l3 x8_1).f2)) ∧ w'.cell? ⟨(ad119.add ((x8_1).toNat * 4)).block, (ad119.add ((x8_1).toNat * 4)).off + 3, none⟩ = some (.slice A119_3 ((rd_T36 l3 x8_1).f3).length c119_3) ∧ w'.cell? (ad118.add ((x8_1).toNat * 4)) = some (.int .i64 ((rd_T36 l2 x8_1).f0)) ∧ w'.cell? ⟨(ad118.add ((x8_1).toNat * 4)).block, (ad118.add ((x8_1).toNat * 4)).off + 1, none⟩ = some (.int .i64 ((rd_T36 l2 x8_1).f1)) ∧ w'.cell? ⟨(ad118.add ((x8_1).toNat * 4)).block, (ad118.add ((x8_1).toNat * 4)).off + 2, none⟩ = some (.int .i64 ((rd_T36 l2 x8_1).f2)) ∧ w'.cell? ⟨(ad118.add ((x8_1).toNat * 4)).block, (ad118.add ((x8_1).toNat * 4)).off + 3, none⟩ = some (.slice A121_3 ((rd_T36 l2 x8_1).f3).length c121_3) ∧ w'.cell? (ad119.add ((x8_1).toNat * 4)) = some (.int .i64 ((rd_T36 l3 x8_1).f0)) ∧ w'.cell? ⟨(ad119.add ((x8_1).toNat * 4)).block, (ad119.add ((x8_1).toNat * 4)).off + 1, none⟩ = some (.int .i64 ((rd_T36 l3 x8_1).f1)) ∧ w'.cell? ⟨(ad119.add ((x8_1).toNat * 4)).block, (ad119.add ((x8_1).toNat * 4)).off + 2, none⟩ = some (.int .i64 ((rd_T36 l3 x8_1).f2)) ∧ w'.cell? ⟨(ad119.add ((x8_1).toNat * 4)).block, (ad119.add ((x8_1).toNat * 4)).off + 3, none⟩ = some (.slice A122_3 ((rd_T36 l3 x8_1).f3).length c122_3)) (ds := []) (bm 28 0) (by kernel_rfl) rfl rfl ⟨((HB.out.cell (World.block_lt_of_cell? w _ hw118_0)).trans hw118_0), ((HB.out.cell (World.block_lt_of_cell? w _ hw118_1)).trans hw118_1), ((HB.out.cell (World.block_lt_of_cell? w _ hw118_2)).trans hw118_2), ((HB.out.cell (World.block_lt_of_cell? w _ hw118_3)).trans hw118_3), ((HB.out.cell (World.block_lt_of_cell? w _ hw119_0)).trans hw119_0), ((HB.out.cell (World.block_lt_of_cell? w _ hw119_1)).trans hw119_1), ((HB.out.cell (World.block_lt_of_cell? w _ hw119_2)).trans hw119_2), ((HB.out.cell (World.block_lt_of_cell? w _ hw119_3)).trans hw119_3), ((HB.out.cell (World.block_lt_of_cell? w _ hw121_0)).trans hw121_0), ((HB.out.cell (World.block_lt_of_cell? w _ hw121_1)).trans hw121_1), ((HB.out.cell (World.block_lt_of_cell? w _ hw121_2)).trans hw121_2), ((HB.out.cell (World.block_lt_of_cell? w _ hw121_3)).trans hw121_3), ((HB.out.cell (World.block_lt_of_cell? w _ hw122_0)).trans hw122_0), ((HB.out.cell (World.block_lt_of_cell? w _ hw122_1)).trans hw122_1), ((HB.out.cell (World.block_lt_of_cell? w _ hw122_2)).trans hw122_2), ((HB.out.cell (World.block_lt_of_cell? w _ hw122_3)).trans hw122_3)⟩ (fun hHeld => ?_); refine with_tabW match_Keep.tab3 match_Keep.bits3 (fun HT_ HW_ => ?_)
          generalize wr.drew = w16 at HB HR118_3 HR119_3 HR121_3 HR122_3 hx118_0 hx118_1 hx118_2 hx118_3 hx119_0 hx119_1 hx119_2 hx119_3 hx121_0 hx121_1 hx121_2 hx121_3 hx122_0 hx122_1 hx122_2 hx122_3 hHeld ⊢
          refine pv_ 0 (some 20) (bm 28 1) HT_.out ?_
          refine pv_ 1 (some 21) (bm 28 3) HT_.out ?_
          refine pv_ 2 (some 22) (bm 28 7) HT_.out ?_
          refine pv_ 3 (some 23) (bm 28 15) HT_.out ?_
          refine pv_ 4 (some 24) (bm 28 31) HT_.out ?_
          refine pv_ 5 (some 25) (bm 28 63) HT_.out ?_
          refine pv_ 6 (some 26) (bm 28 127) HT_.out ?_
          refine pv_ 7 (some 27) (bm 28 255) HT_.out ?_
          refine pv_ 9 (some 29) (bm 28 767) HT_.out ?_
          refine pv_ 10 (some 30) (bm 28 1791) HT_.out ?_
          refine pv_ 11 (some 31) (bm 28 3839) HT_.out ?_
          refine tk_ 8 (some 28) (bm 28 4095) HT_.out HW_.out hHeld ?_
          refine tk_ 12 (some 32) (bm 28 8191) HT_.out HW_.out hHeld ?_
          refine one_ (i := 13) (N := some 33) (bm 28 16383) rfl rfl (one_of HT_.out (by kernel_rfl)) (by decide) (fun K hK => ?_)
          refine goesK_ (args1 := #[.agg #[.int .i64 ((rd_T36 l2 x8_1).f0), .int .i64 ((rd_T36 l2 x8_1).f1), .int .i64 ((rd_T36 l2 x8_1).f2), .slice A118_3 ((rd_T36 l2 x8_1).f3).length c118_3], .agg #[.int .i64 ((rd_T36 l3 x8_1).f0), .int .i64 ((rd_T36 l3 x8_1).f1), .int .i64 ((rd_T36 l3 x8_1).f2), .slice A119_3 ((rd_T36 l3 x8_1).f3).length c119_3]]) #[.pointer (some ⟨gx4, 0, none⟩), .pointer (some ⟨gx5, 0, none⟩)] Tryd.func12 (by kernel_rfl) rfl #[.agg #[.int .i64 ((rd_T36 l2 x8_1).f0), .int .i64 ((rd_T36 l2 x8_1).f1), .int .i64 ((rd_T36 l2 x8_1).f2), .slice A118_3 ((rd_T36 l2 x8_1).f3).length c118_3], .agg #[.int .i64 ((rd_T36 l3 x8_1).f0), .int .i64 ((rd_T36 l3 x8_1).f1), .int .i64 ((rd_T36 l3 x8_1).f2), .slice A119_3 ((rd_T36 l3 x8_1).f3).length c119_3], .pointer (some ⟨gx4, 0, none⟩), .pointer (some ⟨gx5, 0, none⟩)] rfl (by rfl) rfl rfl gA rfl ?_
          with_reducible refine (match_Keep_1.calls gx4 gx5 ((rd_T36 l2 x8_1).f0) ((rd_T36 l2 x8_1).f1) ((rd_T36 l2 x8_1).f2) _ _ ((rd_T36 l2 x8_1).f3) ((rd_T36 l3 x8_1).f0) ((rd_T36 l3 x8_1).f1) ((rd_T36 l3 x8_1).f2) _ _ ((rd_T36 l3 x8_1).f3) _ _ l0 _ _ l1 true _ ?side1 ?side2 ?side3 ?side4 ?side5 ?side6 ?side7 ?side8 (pw_cell_below (bAt HB.out) HX4.out) (pw_cell_below (bAt HB.out) HX5.out) A11.out).mono ?_
          (case side1 => exact CAt (Kd.C_below HR118_3.out HB.out))
          (case side2 => exact HC118_3.out)
          (case side3 => exact CAt (Kd.C_below HR119_3.out HB.out))
          (case side4 => exact HC119_3.out)
          (case side5 => exact CAt (Kd.C_below HR0.out HB.out))
          (case side6 => exact HC0.out)
          (case side7 => exact CAt (Kd.C_below HR1.out HB.out))
          (case side8 => exact HC1.out)
          rintro e w17 ⟨rfl, hb⟩
          refine ⟨_, rfl, ?_⟩
          replace HB := Aside0.mk (below_step (bAt HB.out) hb)
          (try clear hb)
          (try clear hb2)
          (try clear hk)
          (try clear hi)
          refine hK.out _ _ ⟨((HB.out.cell (World.block_lt_of_cell? w _ hw118_0)).trans hw118_0), ((HB.out.cell (World.block_lt_of_cell? w _ hw118_1)).trans hw118_1), ((HB.out.cell (World.block_lt_of_cell? w _ hw118_2)).trans hw118_2), ((HB.out.cell (World.block_lt_of_cell? w _ hw118_3)).trans hw118_3), ((HB.out.cell (World.block_lt_of_cell? w _ hw119_0)).trans hw119_0), ((HB.out.cell (World.block_lt_of_cell? w _ hw119_1)).trans hw119_1), ((HB.out.cell (World.block_lt_of_cell? w _ hw119_2)).trans hw119_2), ((HB.out.cell (World.block_lt_of_cell? w _ hw119_3)).trans hw119_3), ((HB.out.cell (World.block_lt_of_cell? w _ hw121_0)).trans hw121_0), ((HB.out.cell (World.block_lt_of_cell? w _ hw121_1)).trans hw121_1), ((HB.out.cell (World.block_lt_of_cell? w _ hw121_2)).trans hw121_2), ((HB.out.cell (World.block_lt_of_cell? w _ hw121_3)).trans hw121_3), ((HB.out.cell (World.block_lt_of_cell? w _ hw122_0)).trans hw122_0), ((HB.out.cell (World.block_lt_of_cell? w _ hw122_1)).trans hw122_1), ((HB.out.cell (World.block_lt_of_cell? w _ hw122_2)).trans hw122_2), ((HB.out.cell (World.block_lt_of_cell? w _ hw122_3)).trans hw122_3)⟩ (fun hHeld => ?_)
          clear hK K
          refine norm_ (a' := ?_) ?_ ?_
          rotate_left
          ·show Act.put _ (some 33) _ = _
           simp only [Act.put, List.setIfInBounds_toArray, List.set_cons_zero, List.set_cons_succ, i64_w, i32_w]
           rfl
          refine pv_ 14 (some 34) (bm 28 32767) HT_.out ?_
          refine pv_ 15 (some 35) (bm 28 65535) HT_.out ?_
          refine pv_ 16 (some 36) (bm 28 131071) HT_.out ?_
          refine pv_ 17 (some 37) (bm 28 262143) HT_.out ?_
          refine pv_ 18 (some 38) (bm 28 524287) HT_.out ?_
          refine pv_ 19 (some 39) (bm 28 1048575) HT_.out ?_
          refine pv_ 21 (some 41) (bm 28 3145727) HT_.out ?_
          refine pv_ 22 (some 42) (bm 28 7340031) HT_.out ?_
          refine pv_ 23 (some 43) (bm 28 15728639) HT_.out ?_
          refine pv_ 24 (some 44) (bm 28 32505855) HT_.out ?_
          refine tk_ 20 (some 40) (bm 28 33554431) HT_.out HW_.out hHeld ?_
          refine tk_ 25 (some 45) (bm 28 67108863) HT_.out HW_.out hHeld ?_
          refine pv_ 26 (some 46) (bm 28 134217727) HT_.out ?_
          refine pv_ 27 (some 47) (bm 28 268435455) HT_.out ?_
          refine done_ (done_of HT_.out (by kernel_rfl)) ?_
          try go_wp2
          go_meet
          case rel => exact ⟨_, (x8_1), sR, H', ⟨by have := HK1.out; first | omega | exact Nat.le_refl _⟩, ⟨bAt HB.out⟩⟩
        ·replace c12 := Bool.eq_false_iff.mpr c12
         subst c12
         replace H := fP H
         have H' := Aside0.mk H
         clear H
         try go_wp2
         replace HB := Aside0.mk (below_drew1 HB.out)
         have p118 : 0 ≤ (x8_1 : Int) := dt
         have q118 : x8_1 < (l2.length : Int) := dt
         obtain ⟨ad118, A118_3, c118_3, e118, hx118_0, hx118_1, hx118_2, hx118_3, hl118_3, hi118_3⟩ := at_T36 HR2.out x8_1 p118 q118
         have hw118_3 := hx118_3
         have hw118_2 := hx118_2
         have hw118_1 := hx118_1
         have hw118_0 := hx118_0
         cases e118
         replace hx118_0 := pw_cell_below HB.out hx118_0
         replace hx118_1 := pw_cell_below HB.out hx118_1
         replace hx118_2 := pw_cell_below HB.out hx118_2
         replace hx118_3 := pw_cell_below HB.out hx118_3
         have HR118_3 := Aside0.mk hi118_3
         have HC118_3 := Aside0.mk hl118_3
         clear hi118_3 hl118_3
         replace p118 := eq_true p118
         replace q118 := eq_true q118
         have p119 : 0 ≤ (x8_1 : Int) := dt
         have q119 : x8_1 < (l3.length : Int) := dt
         obtain ⟨ad119, A119_3, c119_3, e119, hx119_0, hx119_1, hx119_2, hx119_3, hl119_3, hi119_3⟩ := at_T36 HR3.out x8_1 p119 q119
         have hw119_3 := hx119_3
         have hw119_2 := hx119_2
         have hw119_1 := hx119_1
         have hw119_0 := hx119_0
         cases e119
         replace hx119_0 := pw_cell_below HB.out hx119_0
         replace hx119_1 := pw_cell_below HB.out hx119_1
         replace hx119_2 := pw_cell_below HB.out hx119_2
         replace hx119_3 := pw_cell_below HB.out hx119_3
         have HR119_3 := Aside0.mk hi119_3
         have HC119_3 := Aside0.mk hl119_3
         clear hi119_3 hl119_3
         replace p119 := eq_true p119
         replace q119 := eq_true q119
         refine start_ (n := 28) (S := fun w' => w'.cell? (ad118.add ((x8_1).toNat * 4)) = some (.int .i64 ((rd_T36 l2 x8_1).f0)) ∧ w'.cell? ⟨(ad118.add ((x8_1).toNat * 4)).block, (ad118.add ((x8_1).toNat * 4)).off + 1, none⟩ = some (.int .i64 ((rd_T36 l2 x8_1).f1)) ∧ w'.cell? ⟨(ad118.add ((x8_1).toNat * 4)).block, (ad118.add ((x8_1).toNat * 4)).off + 2, none⟩ = some (.int .i64 ((rd_T36 l2 x8_1).f2)) ∧ w'.cell? ⟨(ad118.add ((x8_1).toNat * 4)).block, (ad118.add ((x8_1).toNat * 4)).off + 3, none⟩ = some (.slice A118_3 ((rd_T36 l2 x8_1).f3).length c118_3) ∧ w'.cell? (ad119.add ((x8_1).toNat * 4)) = some (.int .i64 ((rd_T36 l3 x8_1).f0)) ∧ w'.cell? ⟨(ad119.add ((x8_1).toNat * 4)).block, (ad119.add ((x8_1).toNat * 4)).off + 1, none⟩ = some (.int .i64 ((rd_T36 l3 x8_1).f1)) ∧ w'.cell? ⟨(ad119.add ((x8_1).toNat * 4)).block, (ad119.add ((x8_1).toNat * 4)).off + 2, none⟩ = some (.int .i64 ((rd_T36 l3 x8_1).f2)) ∧ w'.cell? ⟨(ad119.add ((x8_1).toNat * 4)).block, (ad119.add ((x8_1).toNat * 4)).off + 3, none⟩ = some (.slice A119_3 ((rd_T36 l3 x8_1).f3).length c119_3)) (ds := []) (bm 28 0) (by kernel_rfl) rfl rfl ⟨((HB.out.cell (World.block_lt_of_cell? w _ hw118_0)).trans hw118_0), ((HB.out.cell (World.block_lt_of_cell? w _ hw118_1)).trans hw118_1), ((HB.out.cell (World.block_lt_of_cell? w _ hw118_2)).trans hw118_2), ((HB.out.cell (World.block_lt_of_cell? w _ hw118_3)).trans hw118_3), ((HB.out.cell (World.block_lt_of_cell? w _ hw119_0)).trans hw119_0), ((HB.out.cell (World.block_lt_of_cell? w _ hw119_1)).trans hw119_1), ((HB.out.cell (World.block_lt_of_cell? w _ hw119_2)).trans hw119_2), ((HB.out.cell (World.block_lt_of_cell? w _ hw119_3)).trans hw119_3)⟩ (fun hHeld => ?_); refine with_tabW match_Keep.tab3 match_Keep.bits3 (fun HT_ HW_ => ?_)
         generalize wr.drew = w18 at HB HR118_3 HR119_3 hx118_0 hx118_1 hx118_2 hx118_3 hx119_0 hx119_1 hx119_2 hx119_3 hHeld ⊢
         refine pv_ 0 (some 20) (bm 28 1) HT_.out ?_
         refine pv_ 1 (some 21) (bm 28 3) HT_.out ?_
         refine pv_ 2 (some 22) (bm 28 7) HT_.out ?_
         refine pv_ 3 (some 23) (bm 28 15) HT_.out ?_
         refine pv_ 4 (some 24) (bm 28 31) HT_.out ?_
         refine pv_ 5 (some 25) (bm 28 63) HT_.out ?_
         refine pv_ 6 (some 26) (bm 28 127) HT_.out ?_
         refine pv_ 7 (some 27) (bm 28 255) HT_.out ?_
         refine pv_ 9 (some 29) (bm 28 767) HT_.out ?_
         refine pv_ 10 (some 30) (bm 28 1791) HT_.out ?_
         refine pv_ 11 (some 31) (bm 28 3839) HT_.out ?_
         refine tk_ 8 (some 28) (bm 28 4095) HT_.out HW_.out hHeld ?_
         refine tk_ 12 (some 32) (bm 28 8191) HT_.out HW_.out hHeld ?_
         refine one_ (i := 13) (N := some 33) (bm 28 16383) rfl rfl (one_of HT_.out (by kernel_rfl)) (by decide) (fun K hK => ?_)
         refine goesK_ (args1 := #[.agg #[.int .i64 ((rd_T36 l2 x8_1).f0), .int .i64 ((rd_T36 l2 x8_1).f1), .int .i64 ((rd_T36 l2 x8_1).f2), .slice A118_3 ((rd_T36 l2 x8_1).f3).length c118_3], .agg #[.int .i64 ((rd_T36 l3 x8_1).f0), .int .i64 ((rd_T36 l3 x8_1).f1), .int .i64 ((rd_T36 l3 x8_1).f2), .slice A119_3 ((rd_T36 l3 x8_1).f3).length c119_3]]) #[.pointer (some ⟨gx4, 0, none⟩), .pointer (some ⟨gx5, 0, none⟩)] Tryd.func12 (by kernel_rfl) rfl #[.agg #[.int .i64 ((rd_T36 l2 x8_1).f0), .int .i64 ((rd_T36 l2 x8_1).f1), .int .i64 ((rd_T36 l2 x8_1).f2), .slice A118_3 ((rd_T36 l2 x8_1).f3).length c118_3], .agg #[.int .i64 ((rd_T36 l3 x8_1).f0), .int .i64 ((rd_T36 l3 x8_1).f1), .int .i64 ((rd_T36 l3 x8_1).f2), .slice A119_3 ((rd_T36 l3 x8_1).f3).length c119_3], .pointer (some ⟨gx4, 0, none⟩), .pointer (some ⟨gx5, 0, none⟩)] rfl (by rfl) rfl rfl gA rfl ?_
         with_reducible refine (match_Keep_1.calls gx4 gx5 ((rd_T36 l2 x8_1).f0) ((rd_T36 l2 x8_1).f1) ((rd_T36 l2 x8_1).f2) _ _ ((rd_T36 l2 x8_1).f3) ((rd_T36 l3 x8_1).f0) ((rd_T36 l3 x8_1).f1) ((rd_T36 l3 x8_1).f2) _ _ ((rd_T36 l3 x8_1).f3) _ _ l0 _ _ l1 false _ ?side1 ?side2 ?side3 ?side4 ?side5 ?side6 ?side7 ?side8 (pw_cell_below (bAt HB.out) HX4.out) (pw_cell_below (bAt HB.out) HX5.out) A11.out).mono ?_
         (case side1 => exact CAt (Kd.C_below HR118_3.out HB.out))
         (case side2 => exact HC118_3.out)
         (case side3 => exact CAt (Kd.C_below HR119_3.out HB.out))
         (case side4 => exact HC119_3.out)
         (case side5 => exact CAt (Kd.C_below HR0.out HB.out))
         (case side6 => exact HC0.out)
         (case side7 => exact CAt (Kd.C_below HR1.out HB.out))
         (case side8 => exact HC1.out)
         rintro e w19 ⟨rfl, hb⟩
         refine ⟨_, rfl, ?_⟩
         replace HB := Aside0.mk (below_step (bAt HB.out) hb)
         (try clear hb)
         (try clear hb2)
         (try clear hk)
         (try clear hi)
         refine hK.out _ _ ⟨((HB.out.cell (World.block_lt_of_cell? w _ hw118_0)).trans hw118_0), ((HB.out.cell (World.block_lt_of_cell? w _ hw118_1)).trans hw118_1), ((HB.out.cell (World.block_lt_of_cell? w _ hw118_2)).trans hw118_2), ((HB.out.cell (World.block_lt_of_cell? w _ hw118_3)).trans hw118_3), ((HB.out.cell (World.block_lt_of_cell? w _ hw119_0)).trans hw119_0), ((HB.out.cell (World.block_lt_of_cell? w _ hw119_1)).trans hw119_1), ((HB.out.cell (World.block_lt_of_cell? w _ hw119_2)).trans hw119_2), ((HB.out.cell (World.block_lt_of_cell? w _ hw119_3)).trans hw119_3)⟩ (fun hHeld => ?_)
         clear hK K
         refine norm_ (a' := ?_) ?_ ?_
         rotate_left
         ·show Act.put _ (some 33) _ = _
          simp only [Act.put, List.setIfInBounds_toArray, List.set_cons_zero, List.set_cons_succ, i64_w, i32_w]
          rfl
         refine pv_ 14 (some 34) (bm 28 32767) HT_.out ?_
         refine pv_ 15 (some 35) (bm 28 65535) HT_.out ?_
         refine pu_ 16 (some 36) (bm 28 131071) HT_.out ?_
         refine pu_ 17 (some 37) (bm 28 262143) HT_.out ?_
         refine pu_ 18 (some 38) (bm 28 524287) HT_.out ?_
         refine pu_ 19 (some 39) (bm 28 1048575) HT_.out ?_
         refine pu_ 20 (some 40) (bm 28 2097151) HT_.out ?_
         refine pu_ 21 (some 41) (bm 28 4194303) HT_.out ?_
         refine pu_ 22 (some 42) (bm 28 8388607) HT_.out ?_
         refine pu_ 23 (some 43) (bm 28 16777215) HT_.out ?_
         refine pu_ 24 (some 44) (bm 28 33554431) HT_.out ?_
         refine pu_ 25 (some 45) (bm 28 67108863) HT_.out ?_
         refine pu_ 26 (some 46) (bm 28 134217727) HT_.out ?_
         refine pv_ 27 (some 47) (bm 28 268435455) HT_.out ?_
         refine done_ (done_of HT_.out (by kernel_rfl)) ?_
         try go_wp2
         go_meet
         case rel => exact ⟨_, (x8_1), sR, H', ⟨by have := HK1.out; first | omega | exact Nat.le_refl _⟩, ⟨bAt HB.out⟩⟩
       ·exact nB H c10
      ·exact nB H c9
     ·exact nB H c8
    ·rw [if_neg c7] at H
     have c7b0 := decide_eq_false c7
     clear c7
     (first | rw [c7b0] | (simp only [i64_w, i32_w]; rw [c7b0]) | skip)
     have H' := Aside0.mk H
     clear H
     try go_wp2
     replace HB := Aside0.mk (below_drew1 HB.out)
     refine start_ (n := 28) (S := fun w' => True) (ds := []) (bm 28 0) (by kernel_rfl) rfl rfl trivial (fun hHeld => ?_); refine with_tabW match_Keep.tab3 match_Keep.bits3 (fun HT_ HW_ => ?_)
     generalize wr.drew = w20 at HB hHeld ⊢
     refine pv_ 0 (some 20) (bm 28 1) HT_.out ?_
     refine pv_ 1 (some 21) (bm 28 3) HT_.out ?_
     refine pv_ 2 (some 22) (bm 28 7) HT_.out ?_
     refine pv_ 3 (some 23) (bm 28 15) HT_.out ?_
     refine pu_ 4 (some 24) (bm 28 31) HT_.out ?_
     refine pu_ 5 (some 25) (bm 28 63) HT_.out ?_
     refine pu_ 6 (some 26) (bm 28 127) HT_.out ?_
     refine pu_ 7 (some 27) (bm 28 255) HT_.out ?_
     refine pu_ 8 (some 28) (bm 28 511) HT_.out ?_
     refine pu_ 9 (some 29) (bm 28 1023) HT_.out ?_
     refine pu_ 10 (some 30) (bm 28 2047) HT_.out ?_
     refine pu_ 11 (some 31) (bm 28 4095) HT_.out ?_
     refine pu_ 12 (some 32) (bm 28 8191) HT_.out ?_
     refine pu_ 13 (some 33) (bm 28 16383) HT_.out ?_
     refine pv_ 14 (some 34) (bm 28 32767) HT_.out ?_
     refine pv_ 15 (some 35) (bm 28 65535) HT_.out ?_
     refine pu_ 16 (some 36) (bm 28 131071) HT_.out ?_
     refine pu_ 17 (some 37) (bm 28 262143) HT_.out ?_
     refine pu_ 18 (some 38) (bm 28 524287) HT_.out ?_
     refine pu_ 19 (some 39) (bm 28 1048575) HT_.out ?_
     refine pu_ 20 (some 40) (bm 28 2097151) HT_.out ?_
     refine pu_ 21 (some 41) (bm 28 4194303) HT_.out ?_
     refine pu_ 22 (some 42) (bm 28 8388607) HT_.out ?_
     refine pu_ 23 (some 43) (bm 28 16777215) HT_.out ?_
     refine pu_ 24 (some 44) (bm 28 33554431) HT_.out ?_
     refine pu_ 25 (some 45) (bm 28 67108863) HT_.out ?_
     refine pu_ 26 (some 46) (bm 28 134217727) HT_.out ?_
     refine pv_ 27 (some 47) (bm 28 268435455) HT_.out ?_
     refine done_ (done_of HT_.out (by kernel_rfl)) ?_
     try go_wp2
     go_meet
     case rel => exact ⟨_, (x8_1), sR, H', ⟨by have := HK1.out; first | omega | exact Nat.le_refl _⟩, ⟨bAt HB.out⟩⟩
 case rest =>
  clear HC6
  try clear c1
  try clear p1
  try clear q1
  try clear hx1
  try clear p2
  try clear c7
  try clear c7b0
  try clear c8
  try clear c9
  try clear c10
  try clear c11
  try clear p11
  try clear q11
  try clear hx11
  try clear c12
  try clear hx118_0
  try clear hx118_1
  try clear hx118_2
  try clear hx118_3
  try clear hx119_0
  try clear hx119_1
  try clear hx119_2
  try clear hx119_3
  try clear p118
  try clear p119
  try clear q118
  try clear q119
  obtain ⟨kq, x8_5, rfl, HA, HJ5, HB⟩ := hcut
  cases kq with
  | zero => exact absurd HA.out (by simp [match_Keep.j1])
  | succ kj5 =>
   have H := HA.out
   clear HA
   simp only [match_Keep.j1] at H
   have H' := Aside0.mk H
   clear H
   go_wp2
   go_loopg [9] kj5 (fun kq v9 w' => ∃ (x9_2 : Int), v9 = .int .i64 x9_2 ∧ Aside0 (match_Keep.l1 kq l2 l3 l0 l1 x8_5 x9_2 ji5 = some (r1, r2)) ∧ Aside0 (kq ≤ kj5) ∧ Aside0 (Below w.heap.size w w'))
   case atStart => exact ⟨(0), sR, H', ⟨Nat.le_refl _⟩, ⟨bAt HB.out⟩⟩
   case round =>
    clear H'
    try clear c1
    try clear p1
    try clear q1
    try clear hx1
    try clear p2
    try clear c7
    try clear c7b0
    try clear c8
    try clear c9
    try clear c10
    try clear c11
    try clear p11
    try clear q11
    try clear hx11
    try clear c12
    try clear hx118_0
    try clear hx118_1
    try clear hx118_2
    try clear hx118_3
    try clear hx119_0
    try clear hx119_1
    try clear hx119_2
    try clear hx119_3
    try clear p1
    try clear p11
    try clear p118
    try clear p119
    try clear p2
    try clear q1
    try clear q11
    try clear q118
    try clear q119
    obtain ⟨x9_2, rfl, HA, HK2, HB⟩ := hrel
    cases gk with
    | zero => exact absurd HA.out (by simp [match_Keep.l1])
    | succ k2 =>
     have H := HA.out
     clear HA
     simp only [match_Keep.l1] at H
     by_cases c21 : (wrap64 (x8_5 + x9_2)) < ji5
     ·rw [if_pos c21] at H
      have c21b0 := decide_eq_true c21
      clear c21
      obtain ⟨ji22, hji22⟩ : ∃ j_ : Int, (wrap64 ((wrap64 ((l2.length : Int) - 1)) - x9_2)) = j_ := ⟨_, rfl⟩
      replace H : (if 0 ≤ (ji22) then (if (ji22) < (l2.length : Int) then (if 0 ≤ (wrap64 ((wrap64 ((l3.length : Int) - 1)) - x9_2)) then (if (wrap64 ((wrap64 ((l3.length : Int) - 1)) - x9_2)) < (l3.length : Int) then ((match_Keep_1.f ((rd_T36 l2 (ji22)).f0) ((rd_T36 l2 (ji22)).f1) ((rd_T36 l2 (ji22)).f2) ((rd_T36 l2 (ji22)).f3) ((rd_T36 l3 (wrap64 ((wrap64 ((l3.length : Int) - 1)) - x9_2))).f0) ((rd_T36 l3 (wrap64 ((wrap64 ((l3.length : Int) - 1)) - x9_2))).f1) ((rd_T36 l3 (wrap64 ((wrap64 ((l3.length : Int) - 1)) - x9_2))).f2) ((rd_T36 l3 (wrap64 ((wrap64 ((l3.length : Int) - 1)) - x9_2))).f3) l0 l1).bind fun t127 => (if t127 = true then (if (wrap64 ((l0.length : Int) - ((rd_T36 l2 (ji22)).f1))) = (wrap64 ((l1.length : Int) - ((rd_T36 l3 (wrap64 ((wrap64 ((l3.length : Int) - 1)) - x9_2))).f1))) then (match_Keep.l1 k2 l2 l3 l0 l1 x8_5 (wrap64 (x9_2 + 1)) ji5) else (some (x8_5, x9_2))) else (some (x8_5, x9_2)))) else (none)) else (none)) else (none)) else (none)) = some (r1, r2) := by first | (rw [hji22] at H; exact H) | (simp only [hji22] at H ⊢; exact H)
      have hji22w : (IntKind.i64.wrap ((wrap64 ((l2.length : Int) - 1)) - x9_2)) = ji22 := (i64_w _).trans hji22
      by_cases c23 : 0 ≤ (ji22)
      ·rw [if_pos c23] at H
       have c23b0 := decide_eq_true c23
       clear c23
       by_cases c24 : (ji22) < (l2.length : Int)
       ·rw [if_pos c24] at H
        have c24b0 := decide_eq_true c24
        clear c24
        obtain ⟨ji25, hji25⟩ : ∃ j_ : Int, (wrap64 ((wrap64 ((l3.length : Int) - 1)) - x9_2)) = j_ := ⟨_, rfl⟩
        replace H : (if 0 ≤ (ji25) then (if (ji25) < (l3.length : Int) then ((match_Keep_1.f ((rd_T36 l2 (ji22)).f0) ((rd_T36 l2 (ji22)).f1) ((rd_T36 l2 (ji22)).f2) ((rd_T36 l2 (ji22)).f3) ((rd_T36 l3 (ji25)).f0) ((rd_T36 l3 (ji25)).f1) ((rd_T36 l3 (ji25)).f2) ((rd_T36 l3 (ji25)).f3) l0 l1).bind fun t127 => (if t127 = true then (if (wrap64 ((l0.length : Int) - ((rd_T36 l2 (ji22)).f1))) = (wrap64 ((l1.length : Int) - ((rd_T36 l3 (ji25)).f1))) then (match_Keep.l1 k2 l2 l3 l0 l1 x8_5 (wrap64 (x9_2 + 1)) ji5) else (some (x8_5, x9_2))) else (some (x8_5, x9_2)))) else (none)) else (none)) = some (r1, r2) := by first | (rw [hji25] at H; exact H) | (simp only [hji25] at H ⊢; exact H)
        have hji25w : (IntKind.i64.wrap ((wrap64 ((l3.length : Int) - 1)) - x9_2)) = ji25 := (i64_w _).trans hji25
        by_cases c26 : 0 ≤ (ji25)
        ·rw [if_pos c26] at H
         have c26b0 := decide_eq_true c26
         clear c26
         by_cases c27 : (ji25) < (l3.length : Int)
         ·rw [if_pos c27] at H
          have c27b0 := decide_eq_true c27
          clear c27
          obtain ⟨t127, A28, H⟩ := bE H
          by_cases c29 : t127 = true
          ·subst c29
           replace H := tP H
           by_cases c30 : (wrap64 ((l0.length : Int) - ((rd_T36 l2 (ji22)).f1))) = (wrap64 ((l1.length : Int) - ((rd_T36 l3 (ji25)).f1)))
           ·rw [if_pos c30] at H
            obtain ⟨c30b0, c30b1⟩ := eqB c30
            clear c30
            have H' := Aside0.mk H
            clear H
            try go_wp2
            replace HB := Aside0.mk (below_drew1 HB.out)
            have p123 : 0 ≤ ((ji22) : Int) := dt
            have q123 : (ji22) < (l2.length : Int) := dt
            obtain ⟨ad123, A123_3, c123_3, e123, hx123_0, hx123_1, hx123_2, hx123_3, hl123_3, hi123_3⟩ := at_T36 HR2.out (ji22) p123 q123
            have hw123_3 := hx123_3
            have hw123_2 := hx123_2
            have hw123_1 := hx123_1
            have hw123_0 := hx123_0
            cases e123
            replace hx123_0 := pw_cell_below HB.out hx123_0
            replace hx123_1 := pw_cell_below HB.out hx123_1
            replace hx123_2 := pw_cell_below HB.out hx123_2
            replace hx123_3 := pw_cell_below HB.out hx123_3
            have HR123_3 := Aside0.mk hi123_3
            have HC123_3 := Aside0.mk hl123_3
            clear hi123_3 hl123_3
            replace p123 := eq_true p123
            replace q123 := eq_true q123
            have p124 : 0 ≤ ((ji25) : Int) := dt
            have q124 : (ji25) < (l3.length : Int) := dt
            obtain ⟨ad124, A124_3, c124_3, e124, hx124_0, hx124_1, hx124_2, hx124_3, hl124_3, hi124_3⟩ := at_T36 HR3.out (ji25) p124 q124
            have hw124_3 := hx124_3
            have hw124_2 := hx124_2
            have hw124_1 := hx124_1
            have hw124_0 := hx124_0
            cases e124
            replace hx124_0 := pw_cell_below HB.out hx124_0
            replace hx124_1 := pw_cell_below HB.out hx124_1
            replace hx124_2 := pw_cell_below HB.out hx124_2
            replace hx124_3 := pw_cell_below HB.out hx124_3
            have HR124_3 := Aside0.mk hi124_3
            have HC124_3 := Aside0.mk hl124_3
            clear hi124_3 hl124_3
            replace p124 := eq_true p124
            replace q124 := eq_true q124
            refine start_ (n := 20) (S := fun w' => w'.cell? (ad123.add (((ji22)).toNat * 4)) = some (.int .i64 ((rd_T36 l2 (ji22)).f0)) ∧ w'.cell? ⟨(ad123.add (((ji22)).toNat * 4)).block, (ad123.add (((ji22)).toNat * 4)).off + 1, none⟩ = some (.int .i64 ((rd_T36 l2 (ji22)).f1)) ∧ w'.cell? ⟨(ad123.add (((ji22)).toNat * 4)).block, (ad123.add (((ji22)).toNat * 4)).off + 2, none⟩ = some (.int .i64 ((rd_T36 l2 (ji22)).f2)) ∧ w'.cell? ⟨(ad123.add (((ji22)).toNat * 4)).block, (ad123.add (((ji22)).toNat * 4)).off + 3, none⟩ = some (.slice A123_3 ((rd_T36 l2 (ji22)).f3).length c123_3) ∧ w'.cell? (ad124.add (((ji25)).toNat * 4)) = some (.int .i64 ((rd_T36 l3 (ji25)).f0)) ∧ w'.cell? ⟨(ad124.add (((ji25)).toNat * 4)).block, (ad124.add (((ji25)).toNat * 4)).off + 1, none⟩ = some (.int .i64 ((rd_T36 l3 (ji25)).f1)) ∧ w'.cell? ⟨(ad124.add (((ji25)).toNat * 4)).block, (ad124.add (((ji25)).toNat * 4)).off + 2, none⟩ = some (.int .i64 ((rd_T36 l3 (ji25)).f2)) ∧ w'.cell? ⟨(ad124.add (((ji25)).toNat * 4)).block, (ad124.add (((ji25)).toNat * 4)).off + 3, none⟩ = some (.slice A124_3 ((rd_T36 l3 (ji25)).f3).length c124_3)) (ds := []) (bm 20 0) (by kernel_rfl) rfl rfl ⟨((HB.out.cell (World.block_lt_of_cell? w _ hw123_0)).trans hw123_0), ((HB.out.cell (World.block_lt_of_cell? w _ hw123_1)).trans hw123_1), ((HB.out.cell (World.block_lt_of_cell? w _ hw123_2)).trans hw123_2), ((HB.out.cell (World.block_lt_of_cell? w _ hw123_3)).trans hw123_3), ((HB.out.cell (World.block_lt_of_cell? w _ hw124_0)).trans hw124_0), ((HB.out.cell (World.block_lt_of_cell? w _ hw124_1)).trans hw124_1), ((HB.out.cell (World.block_lt_of_cell? w _ hw124_2)).trans hw124_2), ((HB.out.cell (World.block_lt_of_cell? w _ hw124_3)).trans hw124_3)⟩ (fun hHeld => ?_); refine with_tabW match_Keep.tab6 match_Keep.bits6 (fun HT_ HW_ => ?_)
            generalize wr.drew = w31 at HB HR123_3 HR124_3 hx123_0 hx123_1 hx123_2 hx123_3 hx124_0 hx124_1 hx124_2 hx124_3 hHeld ⊢
            refine pv_ 0 (some 55) (bm 20 1) HT_.out ?_
            refine pv_ 1 (some 56) (bm 20 3) HT_.out ?_
            refine pv_ 2 (some 57) (bm 20 7) HT_.out ?_
            refine pv_ 3 (some 58) (bm 20 15) HT_.out ?_
            refine pv_ 4 (some 59) (bm 20 31) HT_.out ?_
            refine pv_ 5 (some 60) (bm 20 63) HT_.out ?_
            refine pv_ 6 (some 61) (bm 20 127) HT_.out ?_
            refine pv_ 8 (some 63) (bm 20 383) HT_.out ?_
            refine pv_ 9 (some 64) (bm 20 895) HT_.out ?_
            refine pv_ 10 (some 65) (bm 20 1919) HT_.out ?_
            refine pv_ 11 (some 66) (bm 20 3967) HT_.out ?_
            refine pv_ 12 (some 67) (bm 20 8063) HT_.out ?_
            refine pv_ 13 (some 68) (bm 20 16255) HT_.out ?_
            refine pv_ 14 (some 69) (bm 20 32639) HT_.out ?_
            refine tk_ 7 (some 62) (bm 20 32767) HT_.out HW_.out hHeld ?_
            refine tk_ 15 (some 70) (bm 20 65535) HT_.out HW_.out hHeld ?_
            refine join_ (σ := Nat × Nat) 2 (bm 20 262143) (fun s_ => [(12, .pointer (some ⟨s_.1, 0, none⟩)), (13, .pointer (some ⟨s_.2, 0, none⟩))]) (fun s_ w' => (w'.cell? (ad123.add (((ji22)).toNat * 4)) = some (.int .i64 ((rd_T36 l2 (ji22)).f0)) ∧ w'.cell? ⟨(ad123.add (((ji22)).toNat * 4)).block, (ad123.add (((ji22)).toNat * 4)).off + 1, none⟩ = some (.int .i64 ((rd_T36 l2 (ji22)).f1)) ∧ w'.cell? ⟨(ad123.add (((ji22)).toNat * 4)).block, (ad123.add (((ji22)).toNat * 4)).off + 2, none⟩ = some (.int .i64 ((rd_T36 l2 (ji22)).f2)) ∧ w'.cell? ⟨(ad123.add (((ji22)).toNat * 4)).block, (ad123.add (((ji22)).toNat * 4)).off + 3, none⟩ = some (.slice A123_3 ((rd_T36 l2 (ji22)).f3).length c123_3) ∧ w'.cell? (ad124.add (((ji25)).toNat * 4)) = some (.int .i64 ((rd_T36 l3 (ji25)).f0)) ∧ w'.cell? ⟨(ad124.add (((ji25)).toNat * 4)).block, (ad124.add (((ji25)).toNat * 4)).off + 1, none⟩ = some (.int .i64 ((rd_T36 l3 (ji25)).f1)) ∧ w'.cell? ⟨(ad124.add (((ji25)).toNat * 4)).block, (ad124.add (((ji25)).toNat * 4)).off + 2, none⟩ = some (.int .i64 ((rd_T36 l3 (ji25)).f2)) ∧ w'.cell? ⟨(ad124.add (((ji25)).toNat * 4)).block, (ad124.add (((ji25)).toNat * 4)).off + 3, none⟩ = some (.slice A124_3 ((rd_T36 l3 (ji25)).f3).length c124_3)) ∧ (w'.heap[s_.1]? = some (.cells #[.int .i64 0, .int .i64 0, .int .i64 0, .slice none 0 0] 36 (0, 0))) ∧ (w'.heap[s_.2]? = some (.cells #[.int .i64 0, .int .i64 0, .int .i64 0, .slice none 0 0] 36 (0, 0))) ∧ (w.heap.size ≤ s_.1) ∧ (w.heap.size ≤ s_.1) ∧ (s_.2 ≠ s_.1) ∧ (s_.1 ≠ s_.2) ∧ (w.heap.size ≤ s_.2) ∧ (w.heap.size ≤ s_.2) ∧ (Below w.heap.size w w')) ?_ ?_
            rotate_left
            ·intro hCont
             refine two_ (i := 16) (j := 17) (Ni := some 12) (Nj := some 13) (bm 20 131071) (bm 20 196607) rfl rfl rfl rfl (two_of HT_.out (by kernel_rfl)) (by decide) (by decide) (fun K hK => ?_) (fun K hK => ?_)
             ·skip
              refine box_step ?hg (N := 12) ?hd (cs := #[.int .i64 0, .int .i64 0, .int .i64 0, .slice none 0 0]) (t := 36) ?hr ?_; (case hd => rfl); (case hg => rfl); (case hr => first | (go_simp; done) | (go_simp; rfl))
              intro gb125 hg w32 hbox hb
              have n0_ := Aside0.mk (below_step (bAt HB.out) hb)
              have n1_ := Aside0.mk (hbox)
              have n2_ := Aside0.mk (gE (g := gb125) hg HB.out)
              have n3_ := Aside0.mk (gE (g := gb125) hg HB.out)
              clear HB
              have HB := n0_
              have BK125 := n1_
              have GW125 := n2_
              have GE125 := n3_
              clear n0_ n1_ n2_ n3_ hb hbox hg
              refine hK.out _ _ ⟨((HB.out.cell (World.block_lt_of_cell? w _ hw123_0)).trans hw123_0), ((HB.out.cell (World.block_lt_of_cell? w _ hw123_1)).trans hw123_1), ((HB.out.cell (World.block_lt_of_cell? w _ hw123_2)).trans hw123_2), ((HB.out.cell (World.block_lt_of_cell? w _ hw123_3)).trans hw123_3), ((HB.out.cell (World.block_lt_of_cell? w _ hw124_0)).trans hw124_0), ((HB.out.cell (World.block_lt_of_cell? w _ hw124_1)).trans hw124_1), ((HB.out.cell (World.block_lt_of_cell? w _ hw124_2)).trans hw124_2), ((HB.out.cell (World.block_lt_of_cell? w _ hw124_3)).trans hw124_3)⟩ (fun hHeld => ?_)
              clear hK K
              refine norm_ (a' := ?_) ?_ ?_
              rotate_left
              ·show Act.put _ (some 12) _ = _
               simp only [Act.put, List.setIfInBounds_toArray, List.set_cons_zero, List.set_cons_succ, i64_w, i32_w]
               rfl
              refine one_ (i := 17) (N := some 13) (bm 20 262143) rfl rfl (one_of HT_.out (by kernel_rfl)) (by decide) (fun K hK => ?_)
              refine box_step ?hg (N := 13) ?hd (cs := #[.int .i64 0, .int .i64 0, .int .i64 0, .slice none 0 0]) (t := 36) ?hr ?_; (case hd => rfl); (case hg => rfl); (case hr => first | (go_simp; done) | (go_simp; rfl))
              intro gb126 hg w33 hbox hb
              have n0_ := Aside0.mk (blk_below (g := gb125) (o := .cells #[.int .i64 0, .int .i64 0, .int .i64 0, .slice none 0 0] 36 (0, 0)) (kAt BK125.out) hb)
              have n1_ := Aside0.mk (below_step (bAt HB.out) hb)
              have n2_ := Aside0.mk (hbox)
              have n3_ := Aside0.mk (gE (g := gb126) hg HB.out)
              have n4_ := Aside0.mk (gE (g := gb126) hg HB.out)
              have n5_ := Aside0.mk ((by rw [hg]; exact Nat.ne_of_lt (blk_lt (g := gb125) (o := .cells #[.int .i64 0, .int .i64 0, .int .i64 0, .slice none 0 0] 36 (0, 0)) (kAt BK125.out)) : gb125 ≠ gb126))
              have n6_ := Aside0.mk ((by rw [hg]; exact Nat.ne_of_gt (blk_lt (g := gb125) (o := .cells #[.int .i64 0, .int .i64 0, .int .i64 0, .slice none 0 0] 36 (0, 0)) (kAt BK125.out)) : gb126 ≠ gb125))
              clear BK125 HB
              have BK125 := n0_
              have HB := n1_
              have BK126 := n2_
              have GW126 := n3_
              have GE126 := n4_
              have NB125_126 := n5_
              have NB126_125 := n6_
              clear n0_ n1_ n2_ n3_ n4_ n5_ n6_ hb hbox hg
              refine hK.out _ _ ⟨((HB.out.cell (World.block_lt_of_cell? w _ hw123_0)).trans hw123_0), ((HB.out.cell (World.block_lt_of_cell? w _ hw123_1)).trans hw123_1), ((HB.out.cell (World.block_lt_of_cell? w _ hw123_2)).trans hw123_2), ((HB.out.cell (World.block_lt_of_cell? w _ hw123_3)).trans hw123_3), ((HB.out.cell (World.block_lt_of_cell? w _ hw124_0)).trans hw124_0), ((HB.out.cell (World.block_lt_of_cell? w _ hw124_1)).trans hw124_1), ((HB.out.cell (World.block_lt_of_cell? w _ hw124_2)).trans hw124_2), ((HB.out.cell (World.block_lt_of_cell? w _ hw124_3)).trans hw124_3)⟩ (fun hHeld => ?_)
              clear hK K
              refine norm_ (a' := ?_) ?_ ?_
              rotate_left
              ·show Act.put _ (some 13) _ = _
               simp only [Act.put, List.setIfInBounds_toArray, List.set_cons_zero, List.set_cons_succ, i64_w, i32_w]
               rfl
              exact norm_ (by simp only [putAll, Act.put, List.setIfInBounds_toArray, List.set_cons_zero, List.set_cons_succ]) (hCont (gb125, gb126) _ ⟨hHeld, (kAt BK125.out), (kAt BK126.out), GW125.out, GE125.out, NB126_125.out, NB125_126.out, GW126.out, GE126.out, (bAt HB.out)⟩)
             ·skip
              refine box_step ?hg (N := 13) ?hd (cs := #[.int .i64 0, .int .i64 0, .int .i64 0, .slice none 0 0]) (t := 36) ?hr ?_; (case hd => rfl); (case hg => rfl); (case hr => first | (go_simp; done) | (go_simp; rfl))
              intro gb126 hg w32 hbox hb
              have n0_ := Aside0.mk (below_step (bAt HB.out) hb)
              have n1_ := Aside0.mk (hbox)
              have n2_ := Aside0.mk (gE (g := gb126) hg HB.out)
              have n3_ := Aside0.mk (gE (g := gb126) hg HB.out)
              clear HB
              have HB := n0_
              have BK126 := n1_
              have GW126 := n2_
              have GE126 := n3_
              clear n0_ n1_ n2_ n3_ hb hbox hg
              refine hK.out _ _ ⟨((HB.out.cell (World.block_lt_of_cell? w _ hw123_0)).trans hw123_0), ((HB.out.cell (World.block_lt_of_cell? w _ hw123_1)).trans hw123_1), ((HB.out.cell (World.block_lt_of_cell? w _ hw123_2)).trans hw123_2), ((HB.out.cell (World.block_lt_of_cell? w _ hw123_3)).trans hw123_3), ((HB.out.cell (World.block_lt_of_cell? w _ hw124_0)).trans hw124_0), ((HB.out.cell (World.block_lt_of_cell? w _ hw124_1)).trans hw124_1), ((HB.out.cell (World.block_lt_of_cell? w _ hw124_2)).trans hw124_2), ((HB.out.cell (World.block_lt_of_cell? w _ hw124_3)).trans hw124_3)⟩ (fun hHeld => ?_)
              clear hK K
              refine norm_ (a' := ?_) ?_ ?_
              rotate_left
              ·show Act.put _ (some 13) _ = _
               simp only [Act.put, List.setIfInBounds_toArray, List.set_cons_zero, List.set_cons_succ, i64_w, i32_w]
               rfl
              refine one_ (i := 16) (N := some 12) (bm 20 262143) rfl rfl (one_of HT_.out (by kernel_rfl)) (by decide) (fun K hK => ?_)
              refine box_step ?hg (N := 12) ?hd (cs := #[.int .i64 0, .int .i64 0, .int .i64 0, .slice none 0 0]) (t := 36) ?hr ?_; (case hd => rfl); (case hg => rfl); (case hr => first | (go_simp; done) | (go_simp; rfl))
              intro gb125 hg w33 hbox hb
              have n0_ := Aside0.mk (blk_below (g := gb126) (o := .cells #[.int .i64 0, .int .i64 0, .int .i64 0, .slice none 0 0] 36 (0, 0)) (kAt BK126.out) hb)
              have n1_ := Aside0.mk (below_step (bAt HB.out) hb)
              have n2_ := Aside0.mk (hbox)
              have n3_ := Aside0.mk (gE (g := gb125) hg HB.out)
              have n4_ := Aside0.mk (gE (g := gb125) hg HB.out)
              have n5_ := Aside0.mk ((by rw [hg]; exact Nat.ne_of_lt (blk_lt (g := gb126) (o := .cells #[.int .i64 0, .int .i64 0, .int .i64 0, .slice none 0 0] 36 (0, 0)) (kAt BK126.out)) : gb126 ≠ gb125))
              have n6_ := Aside0.mk ((by rw [hg]; exact Nat.ne_of_gt (blk_lt (g := gb126) (o := .cells #[.int .i64 0, .int .i64 0, .int .i64 0, .slice none 0 0] 36 (0, 0)) (kAt BK126.out)) : gb125 ≠ gb126))
              clear BK126 HB
              have BK126 := n0_
              have HB := n1_
              have BK125 := n2_
              have GW125 := n3_
              have GE125 := n4_
              have NB126_125 := n5_
              have NB125_126 := n6_
              clear n0_ n1_ n2_ n3_ n4_ n5_ n6_ hb hbox hg
              refine hK.out _ _ ⟨((HB.out.cell (World.block_lt_of_cell? w _ hw123_0)).trans hw123_0), ((HB.out.cell (World.block_lt_of_cell? w _ hw123_1)).trans hw123_1), ((HB.out.cell (World.block_lt_of_cell? w _ hw123_2)).trans hw123_2), ((HB.out.cell (World.block_lt_of_cell? w _ hw123_3)).trans hw123_3), ((HB.out.cell (World.block_lt_of_cell? w _ hw124_0)).trans hw124_0), ((HB.out.cell (World.block_lt_of_cell? w _ hw124_1)).trans hw124_1), ((HB.out.cell (World.block_lt_of_cell? w _ hw124_2)).trans hw124_2), ((HB.out.cell (World.block_lt_of_cell? w _ hw124_3)).trans hw124_3)⟩ (fun hHeld => ?_)
              clear hK K
              refine norm_ (a' := ?_) ?_ ?_
              rotate_left
              ·show Act.put _ (some 12) _ = _
               simp only [Act.put, List.setIfInBounds_toArray, List.set_cons_zero, List.set_cons_succ, i64_w, i32_w]
               rfl
              exact norm_ (by simp only [putAll, Act.put, List.setIfInBounds_toArray, List.set_cons_zero, List.set_cons_succ]) (hCont (gb125, gb126) _ ⟨hHeld, (kAt BK125.out), (kAt BK126.out), GW125.out, GE125.out, NB126_125.out, NB125_126.out, GW126.out, GE126.out, (bAt HB.out)⟩)
            rintro ⟨gb125, gb126⟩ w34 ⟨hS_, h0_, h1_, h2_, h3_, h4_, h5_, h6_, h7_, h8_⟩
            have n0_ : Aside0 (w34.heap[gb125]? = some (.cells #[.int .i64 0, .int .i64 0, .int .i64 0, .slice none 0 0] 36 (0, 0))) := ⟨h0_⟩
            have n1_ : Aside0 (w34.heap[gb126]? = some (.cells #[.int .i64 0, .int .i64 0, .int .i64 0, .slice none 0 0] 36 (0, 0))) := ⟨h1_⟩
            have n2_ : Aside0 (w.heap.size ≤ gb125) := ⟨h2_⟩
            have n3_ : Aside0 (w.heap.size ≤ gb125) := ⟨h3_⟩
            have n4_ : Aside0 (gb126 ≠ gb125) := ⟨h4_⟩
            have n5_ : Aside0 (gb125 ≠ gb126) := ⟨h5_⟩
            have n6_ : Aside0 (w.heap.size ≤ gb126) := ⟨h6_⟩
            have n7_ : Aside0 (w.heap.size ≤ gb126) := ⟨h7_⟩
            have n8_ : Aside0 (Below w.heap.size w w34) := ⟨h8_⟩
            clear HB h0_ h1_ h2_ h3_ h4_ h5_ h6_ h7_ h8_
            have BK125 := n0_
            have BK126 := n1_
            have GW125 := n2_
            have GE125 := n3_
            have NB126_125 := n4_
            have NB125_126 := n5_
            have GW126 := n6_
            have GE126 := n7_
            have HB := n8_
            clear n0_ n1_ n2_ n3_ n4_ n5_ n6_ n7_ n8_
            have hHeld : w34.cell? (ad123.add (((ji22)).toNat * 4)) = some (.int .i64 ((rd_T36 l2 (ji22)).f0)) ∧ w34.cell? ⟨(ad123.add (((ji22)).toNat * 4)).block, (ad123.add (((ji22)).toNat * 4)).off + 1, none⟩ = some (.int .i64 ((rd_T36 l2 (ji22)).f1)) ∧ w34.cell? ⟨(ad123.add (((ji22)).toNat * 4)).block, (ad123.add (((ji22)).toNat * 4)).off + 2, none⟩ = some (.int .i64 ((rd_T36 l2 (ji22)).f2)) ∧ w34.cell? ⟨(ad123.add (((ji22)).toNat * 4)).block, (ad123.add (((ji22)).toNat * 4)).off + 3, none⟩ = some (.slice A123_3 ((rd_T36 l2 (ji22)).f3).length c123_3) ∧ w34.cell? (ad124.add (((ji25)).toNat * 4)) = some (.int .i64 ((rd_T36 l3 (ji25)).f0)) ∧ w34.cell? ⟨(ad124.add (((ji25)).toNat * 4)).block, (ad124.add (((ji25)).toNat * 4)).off + 1, none⟩ = some (.int .i64 ((rd_T36 l3 (ji25)).f1)) ∧ w34.cell? ⟨(ad124.add (((ji25)).toNat * 4)).block, (ad124.add (((ji25)).toNat * 4)).off + 2, none⟩ = some (.int .i64 ((rd_T36 l3 (ji25)).f2)) ∧ w34.cell? ⟨(ad124.add (((ji25)).toNat * 4)).block, (ad124.add (((ji25)).toNat * 4)).off + 3, none⟩ = some (.slice A124_3 ((rd_T36 l3 (ji25)).f3).length c124_3) := hS_
            refine norm_ (a' := ?_) ?_ ?_
            rotate_left
            ·simp only [putAll, Act.put, List.setIfInBounds_toArray, List.set_cons_zero, List.set_cons_succ]
             rfl
            refine one_ (i := 18) (N := none) (bm 20 524287) rfl rfl (one_of HT_.out (by kernel_rfl)) (by decide) (fun K hK => ?_)
            have hs35 : w34.cell? ⟨gb125, 0, none⟩ = some (.int .i64 0) := (blk_cell BK125.out 0).trans rfl
            have hfs35 := blk_frozen BK125.out 0
            have hns35_1 := NB126_125.out
            have hms35_1 := NB125_126.out
            have hs36 : w34.cell? ⟨gb125, 1, none⟩ = some (.int .i64 0) := (blk_cell BK125.out 1).trans rfl
            have hfs36 := blk_frozen BK125.out 1
            have hns36_1 := NB126_125.out
            have hms36_1 := NB125_126.out
            have hs37 : w34.cell? ⟨gb125, 2, none⟩ = some (.int .i64 0) := (blk_cell BK125.out 2).trans rfl
            have hfs37 := blk_frozen BK125.out 2
            have hns37_1 := NB126_125.out
            have hms37_1 := NB125_126.out
            have hs38 : w34.cell? ⟨gb125, 3, none⟩ = some (.slice none 0 0) := (blk_cell BK125.out 3).trans rfl
            have hfs38 := blk_frozen BK125.out 3
            have hns38_1 := NB126_125.out
            have hms38_1 := NB125_126.out
            refine skip_ (w1 := ?_) (by rfl) rfl ?_ ?_
            rotate_left
            ·go_simp
             rfl
            refine hK.out _ _ ⟨((cell_far (p := ⟨gb125, _, none⟩) (by first | exact Nat.ne_of_lt (Nat.lt_of_lt_of_le (by have := World.block_lt_of_cell? _ _ hw123_0; first | rwa [add_block] at this | exact this) GW125.out) | (rw [add_block]; exact Nat.ne_of_lt (Nat.lt_of_lt_of_le (by have := World.block_lt_of_cell? _ _ hw123_0; first | rwa [add_block] at this | exact this) GW125.out)) | (show (Addr.add _ _).block ≠ _; rw [add_block]; exact Nat.ne_of_lt (Nat.lt_of_lt_of_le (by have := World.block_lt_of_cell? _ _ hw123_0; first | rwa [add_block] at this | exact this) GW125.out)) | (dsimp only; exact Nat.ne_of_lt (Nat.lt_of_lt_of_le (by have := World.block_lt_of_cell? _ _ hw123_0; first | rwa [add_block] at this | exact this) GW125.out))) _).trans (((cell_far (p := ⟨gb125, _, none⟩) (by first | exact Nat.ne_of_lt (Nat.lt_of_lt_of_le (by have := World.block_lt_of_cell? _ _ hw123_0; first | rwa [add_block] at this | exact this) GW125.out) | (rw [add_block]; exact Nat.ne_of_lt (Nat.lt_of_lt_of_le (by have := World.block_lt_of_cell? _ _ hw123_0; first | rwa [add_block] at this | exact this) GW125.out)) | (show (Addr.add _ _).block ≠ _; rw [add_block]; exact Nat.ne_of_lt (Nat.lt_of_lt_of_le (by have := World.block_lt_of_cell? _ _ hw123_0; first | rwa [add_block] at this | exact this) GW125.out)) | (dsimp only; exact Nat.ne_of_lt (Nat.lt_of_lt_of_le (by have := World.block_lt_of_cell? _ _ hw123_0; first | rwa [add_block] at this | exact this) GW125.out))) _).trans (((cell_far (p := ⟨gb125, _, none⟩) (by first | exact Nat.ne_of_lt (Nat.lt_of_lt_of_le (by have := World.block_lt_of_cell? _ _ hw123_0; first | rwa [add_block] at this | exact this) GW125.out) | (rw [add_block]; exact Nat.ne_of_lt (Nat.lt_of_lt_of_le (by have := World.block_lt_of_cell? _ _ hw123_0; first | rwa [add_block] at this | exact this) GW125.out)) | (show (Addr.add _ _).block ≠ _; rw [add_block]; exact Nat.ne_of_lt (Nat.lt_of_lt_of_le (by have := World.block_lt_of_cell? _ _ hw123_0; first | rwa [add_block] at this | exact this) GW125.out)) | (dsimp only; exact Nat.ne_of_lt (Nat.lt_of_lt_of_le (by have := World.block_lt_of_cell? _ _ hw123_0; first | rwa [add_block] at this | exact this) GW125.out))) _).trans (((cell_far (p := ⟨gb125, _, none⟩) (by first | exact Nat.ne_of_lt (Nat.lt_of_lt_of_le (by have := World.block_lt_of_cell? _ _ hw123_0; first | rwa [add_block] at this | exact this) GW125.out) | (rw [add_block]; exact Nat.ne_of_lt (Nat.lt_of_lt_of_le (by have := World.block_lt_of_cell? _ _ hw123_0; first | rwa [add_block] at this | exact this) GW125.out)) | (show (Addr.add _ _).block ≠ _; rw [add_block]; exact Nat.ne_of_lt (Nat.lt_of_lt_of_le (by have := World.block_lt_of_cell? _ _ hw123_0; first | rwa [add_block] at this | exact this) GW125.out)) | (dsimp only; exact Nat.ne_of_lt (Nat.lt_of_lt_of_le (by have := World.block_lt_of_cell? _ _ hw123_0; first | rwa [add_block] at this | exact this) GW125.out))) _).trans (hHeld.1)))))))), ((cell_far (p := ⟨gb125, _, none⟩) (by first | exact Nat.ne_of_lt (Nat.lt_of_lt_of_le (by have := World.block_lt_of_cell? _ _ hw123_1; first | rwa [add_block] at this | exact this) GW125.out) | (rw [add_block]; exact Nat.ne_of_lt (Nat.lt_of_lt_of_le (by have := World.block_lt_of_cell? _ _ hw123_1; first | rwa [add_block] at this | exact this) GW125.out)) | (show (Addr.add _ _).block ≠ _; rw [add_block]; exact Nat.ne_of_lt (Nat.lt_of_lt_of_le (by have := World.block_lt_of_cell? _ _ hw123_1; first | rwa [add_block] at this | exact this) GW125.out)) | (dsimp only; exact Nat.ne_of_lt (Nat.lt_of_lt_of_le (by have := World.block_lt_of_cell? _ _ hw123_1; first | rwa [add_block] at this | exact this) GW125.out))) _).trans (((cell_far (p := ⟨gb125, _, none⟩) (by first | exact Nat.ne_of_lt (Nat.lt_of_lt_of_le (by have := World.block_lt_of_cell? _ _ hw123_1; first | rwa [add_block] at this | exact this) GW125.out) | (rw [add_block]; exact Nat.ne_of_lt (Nat.lt_of_lt_of_le (by have := World.block_lt_of_cell? _ _ hw123_1; first | rwa [add_block] at this | exact this) GW125.out)) | (show (Addr.add _ _).block ≠ _; rw [add_block]; exact Nat.ne_of_lt (Nat.lt_of_lt_of_le (by have := World.block_lt_of_cell? _ _ hw123_1; first | rwa [add_block] at this | exact this) GW125.out)) | (dsimp only; exact Nat.ne_of_lt (Nat.lt_of_lt_of_le (by have := World.block_lt_of_cell? _ _ hw123_1; first | rwa [add_block] at this | exact this) GW125.out))) _).trans (((cell_far (p := ⟨gb125, _, none⟩) (by first | exact Nat.ne_of_lt (Nat.lt_of_lt_of_le (by have := World.block_lt_of_cell? _ _ hw123_1; first | rwa [add_block] at this | exact this) GW125.out) | (rw [add_block]; exact Nat.ne_of_lt (Nat.lt_of_lt_of_le (by have := World.block_lt_of_cell? _ _ hw123_1; first | rwa [add_block] at this | exact this) GW125.out)) | (show (Addr.add _ _).block ≠ _; rw [add_block]; exact Nat.ne_of_lt (Nat.lt_of_lt_of_le (by have := World.block_lt_of_cell? _ _ hw123_1; first | rwa [add_block] at this | exact this) GW125.out)) | (dsimp only; exact Nat.ne_of_lt (Nat.lt_of_lt_of_le (by have := World.block_lt_of_cell? _ _ hw123_1; first | rwa [add_block] at this | exact this) GW125.out))) _).trans (((cell_far (p := ⟨gb125, _, none⟩) (by first | exact Nat.ne_of_lt (Nat.lt_of_lt_of_le (by have := World.block_lt_of_cell? _ _ hw123_1; first | rwa [add_block] at this | exact this) GW125.out) | (rw [add_block]; exact Nat.ne_of_lt (Nat.lt_of_lt_of_le (by have := World.block_lt_of_cell? _ _ hw123_1; first | rwa [add_block] at this | exact this) GW125.out)) | (show (Addr.add _ _).block ≠ _; rw [add_block]; exact Nat.ne_of_lt (Nat.lt_of_lt_of_le (by have := World.block_lt_of_cell? _ _ hw123_1; first | rwa [add_block] at this | exact this) GW125.out)) | (dsimp only; exact Nat.ne_of_lt (Nat.lt_of_lt_of_le (by have := World.block_lt_of_cell? _ _ hw123_1; first | rwa [add_block] at this | exact this) GW125.out))) _).trans (hHeld.2.1)))))))), ((cell_far (p := ⟨gb125, _, none⟩) (by first | exact Nat.ne_of_lt (Nat.lt_of_lt_of_le (by have := World.block_lt_of_cell? _ _ hw123_2; first | rwa [add_block] at this | exact this) GW125.out) | (rw [add_block]; exact Nat.ne_of_lt (Nat.lt_of_lt_of_le (by have := World.block_lt_of_cell? _ _ hw123_2; first | rwa [add_block] at this | exact this) GW125.out)) | (show (Addr.add _ _).block ≠ _; rw [add_block]; exact Nat.ne_of_lt (Nat.lt_of_lt_of_le (by have := World.block_lt_of_cell? _ _ hw123_2; first | rwa [add_block] at this | exact this) GW125.out)) | (dsimp only; exact Nat.ne_of_lt (Nat.lt_of_lt_of_le (by have := World.block_lt_of_cell? _ _ hw123_2; first | rwa [add_block] at this | exact this) GW125.out))) _).trans (((cell_far (p := ⟨gb125, _, none⟩) (by first | exact Nat.ne_of_lt (Nat.lt_of_lt_of_le (by have := World.block_lt_of_cell? _ _ hw123_2; first | rwa [add_block] at this | exact this) GW125.out) | (rw [add_block]; exact Nat.ne_of_lt (Nat.lt_of_lt_of_le (by have := World.block_lt_of_cell? _ _ hw123_2; first | rwa [add_block] at this | exact this) GW125.out)) | (show (Addr.add _ _).block ≠ _; rw [add_block]; exact Nat.ne_of_lt (Nat.lt_of_lt_of_le (by have := World.block_lt_of_cell? _ _ hw123_2; first | rwa [add_block] at this | exact this) GW125.out)) | (dsimp only; exact Nat.ne_of_lt (Nat.lt_of_lt_of_le (by have := World.block_lt_of_cell? _ _ hw123_2; first | rwa [add_block] at this | exact this) GW125.out))) _).trans (((cell_far (p := ⟨gb125, _, none⟩) (by first | exact Nat.ne_of_lt (Nat.lt_of_lt_of_le (by have := World.block_lt_of_cell? _ _ hw123_2; first | rwa [add_block] at this | exact this) GW125.out) | (rw [add_block]; exact Nat.ne_of_lt (Nat.lt_of_lt_of_le (by have := World.block_lt_of_cell? _ _ hw123_2; first | rwa [add_block] at this | exact this) GW125.out)) | (show (Addr.add _ _).block ≠ _; rw [add_block]; exact Nat.ne_of_lt (Nat.lt_of_lt_of_le (by have := World.block_lt_of_cell? _ _ hw123_2; first | rwa [add_block] at this | exact this) GW125.out)) | (dsimp only; exact Nat.ne_of_lt (Nat.lt_of_lt_of_le (by have := World.block_lt_of_cell? _ _ hw123_2; first | rwa [add_block] at this | exact this) GW125.out))) _).trans (((cell_far (p := ⟨gb125, _, none⟩) (by first | exact Nat.ne_of_lt (Nat.lt_of_lt_of_le (by have := World.block_lt_of_cell? _ _ hw123_2; first | rwa [add_block] at this | exact this) GW125.out) | (rw [add_block]; exact Nat.ne_of_lt (Nat.lt_of_lt_of_le (by have := World.block_lt_of_cell? _ _ hw123_2; first | rwa [add_block] at this | exact this) GW125.out)) | (show (Addr.add _ _).block ≠ _; rw [add_block]; exact Nat.ne_of_lt (Nat.lt_of_lt_of_le (by have := World.block_lt_of_cell? _ _ hw123_2; first | rwa [add_block] at this | exact this) GW125.out)) | (dsimp only; exact Nat.ne_of_lt (Nat.lt_of_lt_of_le (by have := World.block_lt_of_cell? _ _ hw123_2; first | rwa [add_block] at this | exact this) GW125.out))) _).trans (hHeld.2.2.1)))))))), ((cell_far (p := ⟨gb125, _, none⟩) (by first | exact Nat.ne_of_lt (Nat.lt_of_lt_of_le (by have := World.block_lt_of_cell? _ _ hw123_3; first | rwa [add_block] at this | exact this) GW125.out) | (rw [add_block]; exact Nat.ne_of_lt (Nat.lt_of_lt_of_le (by have := World.block_lt_of_cell? _ _ hw123_3; first | rwa [add_block] at this | exact this) GW125.out)) | (show (Addr.add _ _).block ≠ _; rw [add_block]; exact Nat.ne_of_lt (Nat.lt_of_lt_of_le (by have := World.block_lt_of_cell? _ _ hw123_3; first | rwa [add_block] at this | exact this) GW125.out)) | (dsimp only; exact Nat.ne_of_lt (Nat.lt_of_lt_of_le (by have := World.block_lt_of_cell? _ _ hw123_3; first | rwa [add_block] at this | exact this) GW125.out))) _).trans (((cell_far (p := ⟨gb125, _, none⟩) (by first | exact Nat.ne_of_lt (Nat.lt_of_lt_of_le (by have := World.block_lt_of_cell? _ _ hw123_3; first | rwa [add_block] at this | exact this) GW125.out) | (rw [add_block]; exact Nat.ne_of_lt (Nat.lt_of_lt_of_le (by have := World.block_lt_of_cell? _ _ hw123_3; first | rwa [add_block] at this | exact this) GW125.out)) | (show (Addr.add _ _).block ≠ _; rw [add_block]; exact Nat.ne_of_lt (Nat.lt_of_lt_of_le (by have := World.block_lt_of_cell? _ _ hw123_3; first | rwa [add_block] at this | exact this) GW125.out)) | (dsimp only; exact Nat.ne_of_lt (Nat.lt_of_lt_of_le (by have := World.block_lt_of_cell? _ _ hw123_3; first | rwa [add_block] at this | exact this) GW125.out))) _).trans (((cell_far (p := ⟨gb125, _, none⟩) (by first | exact Nat.ne_of_lt (Nat.lt_of_lt_of_le (by have := World.block_lt_of_cell? _ _ hw123_3; first | rwa [add_block] at this | exact this) GW125.out) | (rw [add_block]; exact Nat.ne_of_lt (Nat.lt_of_lt_of_le (by have := World.block_lt_of_cell? _ _ hw123_3; first | rwa [add_block] at this | exact this) GW125.out)) | (show (Addr.add _ _).block ≠ _; rw [add_block]; exact Nat.ne_of_lt (Nat.lt_of_lt_of_le (by have := World.block_lt_of_cell? _ _ hw123_3; first | rwa [add_block] at this | exact this) GW125.out)) | (dsimp only; exact Nat.ne_of_lt (Nat.lt_of_lt_of_le (by have := World.block_lt_of_cell? _ _ hw123_3; first | rwa [add_block] at this | exact this) GW125.out))) _).trans (((cell_far (p := ⟨gb125, _, none⟩) (by first | exact Nat.ne_of_lt (Nat.lt_of_lt_of_le (by have := World.block_lt_of_cell? _ _ hw123_3; first | rwa [add_block] at this | exact this) GW125.out) | (rw [add_block]; exact Nat.ne_of_lt (Nat.lt_of_lt_of_le (by have := World.block_lt_of_cell? _ _ hw123_3; first | rwa [add_block] at this | exact this) GW125.out)) | (show (Addr.add _ _).block ≠ _; rw [add_block]; exact Nat.ne_of_lt (Nat.lt_of_lt_of_le (by have := World.block_lt_of_cell? _ _ hw123_3; first | rwa [add_block] at this | exact this) GW125.out)) | (dsimp only; exact Nat.ne_of_lt (Nat.lt_of_lt_of_le (by have := World.block_lt_of_cell? _ _ hw123_3; first | rwa [add_block] at this | exact this) GW125.out))) _).trans (hHeld.2.2.2.1)))))))), ((cell_far (p := ⟨gb125, _, none⟩) (by first | exact Nat.ne_of_lt (Nat.lt_of_lt_of_le (by have := World.block_lt_of_cell? _ _ hw124_0; first | rwa [add_block] at this | exact this) GW125.out) | (rw [add_block]; exact Nat.ne_of_lt (Nat.lt_of_lt_of_le (by have := World.block_lt_of_cell? _ _ hw124_0; first | rwa [add_block] at this | exact this) GW125.out)) | (show (Addr.add _ _).block ≠ _; rw [add_block]; exact Nat.ne_of_lt (Nat.lt_of_lt_of_le (by have := World.block_lt_of_cell? _ _ hw124_0; first | rwa [add_block] at this | exact this) GW125.out)) | (dsimp only; exact Nat.ne_of_lt (Nat.lt_of_lt_of_le (by have := World.block_lt_of_cell? _ _ hw124_0; first | rwa [add_block] at this | exact this) GW125.out))) _).trans (((cell_far (p := ⟨gb125, _, none⟩) (by first | exact Nat.ne_of_lt (Nat.lt_of_lt_of_le (by have := World.block_lt_of_cell? _ _ hw124_0; first | rwa [add_block] at this | exact this) GW125.out) | (rw [add_block]; exact Nat.ne_of_lt (Nat.lt_of_lt_of_le (by have := World.block_lt_of_cell? _ _ hw124_0; first | rwa [add_block] at this | exact this) GW125.out)) | (show (Addr.add _ _).block ≠ _; rw [add_block]; exact Nat.ne_of_lt (Nat.lt_of_lt_of_le (by have := World.block_lt_of_cell? _ _ hw124_0; first | rwa [add_block] at this | exact this) GW125.out)) | (dsimp only; exact Nat.ne_of_lt (Nat.lt_of_lt_of_le (by have := World.block_lt_of_cell? _ _ hw124_0; first | rwa [add_block] at this | exact this) GW125.out))) _).trans (((cell_far (p := ⟨gb125, _, none⟩) (by first | exact Nat.ne_of_lt (Nat.lt_of_lt_of_le (by have := World.block_lt_of_cell? _ _ hw124_0; first | rwa [add_block] at this | exact this) GW125.out) | (rw [add_block]; exact Nat.ne_of_lt (Nat.lt_of_lt_of_le (by have := World.block_lt_of_cell? _ _ hw124_0; first | rwa [add_block] at this | exact this) GW125.out)) | (show (Addr.add _ _).block ≠ _; rw [add_block]; exact Nat.ne_of_lt (Nat.lt_of_lt_of_le (by have := World.block_lt_of_cell? _ _ hw124_0; first | rwa [add_block] at this | exact this) GW125.out)) | (dsimp only; exact Nat.ne_of_lt (Nat.lt_of_lt_of_le (by have := World.block_lt_of_cell? _ _ hw124_0; first | rwa [add_block] at this | exact this) GW125.out))) _).trans (((cell_far (p := ⟨gb125, _, none⟩) (by first | exact Nat.ne_of_lt (Nat.lt_of_lt_of_le (by have := World.block_lt_of_cell? _ _ hw124_0; first | rwa [add_block] at this | exact this) GW125.out) | (rw [add_block]; exact Nat.ne_of_lt (Nat.lt_of_lt_of_le (by have := World.block_lt_of_cell? _ _ hw124_0; first | rwa [add_block] at this | exact this) GW125.out)) | (show (Addr.add _ _).block ≠ _; rw [add_block]; exact Nat.ne_of_lt (Nat.lt_of_lt_of_le (by have := World.block_lt_of_cell? _ _ hw124_0; first | rwa [add_block] at this | exact this) GW125.out)) | (dsimp only; exact Nat.ne_of_lt (Nat.lt_of_lt_of_le (by have := World.block_lt_of_cell? _ _ hw124_0; first | rwa [add_block] at this | exact this) GW125.out))) _).trans (hHeld.2.2.2.2.1)))))))), ((cell_far (p := ⟨gb125, _, none⟩) (by first | exact Nat.ne_of_lt (Nat.lt_of_lt_of_le (by have := World.block_lt_of_cell? _ _ hw124_1; first | rwa [add_block] at this | exact this) GW125.out) | (rw [add_block]; exact Nat.ne_of_lt (Nat.lt_of_lt_of_le (by have := World.block_lt_of_cell? _ _ hw124_1; first | rwa [add_block] at this | exact this) GW125.out)) | (show (Addr.add _ _).block ≠ _; rw [add_block]; exact Nat.ne_of_lt (Nat.lt_of_lt_of_le (by have := World.block_lt_of_cell? _ _ hw124_1; first | rwa [add_block] at this | exact this) GW125.out)) | (dsimp only; exact Nat.ne_of_lt (Nat.lt_of_lt_of_le (by have := World.block_lt_of_cell? _ _ hw124_1; first | rwa [add_block] at this | exact this) GW125.out))) _).trans (((cell_far (p := ⟨gb125, _, none⟩) (by first | exact Nat.ne_of_lt (Nat.lt_of_lt_of_le (by have := World.block_lt_of_cell? _ _ hw124_1; first | rwa [add_block] at this | exact this) GW125.out) | (rw [add_block]; exact Nat.ne_of_lt (Nat.lt_of_lt_of_le (by have := World.block_lt_of_cell? _ _ hw124_1; first | rwa [add_block] at this | exact this) GW125.out)) | (show (Addr.add _ _).block ≠ _; rw [add_block]; exact Nat.ne_of_lt (Nat.lt_of_lt_of_le (by have := World.block_lt_of_cell? _ _ hw124_1; first | rwa [add_block] at this | exact this) GW125.out)) | (dsimp only; exact Nat.ne_of_lt (Nat.lt_of_lt_of_le (by have := World.block_lt_of_cell? _ _ hw124_1; first | rwa [add_block] at this | exact this) GW125.out))) _).trans (((cell_far (p := ⟨gb125, _, none⟩) (by first | exact Nat.ne_of_lt (Nat.lt_of_lt_of_le (by have := World.block_lt_of_cell? _ _ hw124_1; first | rwa [add_block] at this | exact this) GW125.out) | (rw [add_block]; exact Nat.ne_of_lt (Nat.lt_of_lt_of_le (by have := World.block_lt_of_cell? _ _ hw124_1; first | rwa [add_block] at this | exact this) GW125.out)) | (show (Addr.add _ _).block ≠ _; rw [add_block]; exact Nat.ne_of_lt (Nat.lt_of_lt_of_le (by have := World.block_lt_of_cell? _ _ hw124_1; first | rwa [add_block] at this | exact this) GW125.out)) | (dsimp only; exact Nat.ne_of_lt (Nat.lt_of_lt_of_le (by have := World.block_lt_of_cell? _ _ hw124_1; first | rwa [add_block] at this | exact this) GW125.out))) _).trans (((cell_far (p := ⟨gb125, _, none⟩) (by first | exact Nat.ne_of_lt (Nat.lt_of_lt_of_le (by have := World.block_lt_of_cell? _ _ hw124_1; first | rwa [add_block] at this | exact this) GW125.out) | (rw [add_block]; exact Nat.ne_of_lt (Nat.lt_of_lt_of_le (by have := World.block_lt_of_cell? _ _ hw124_1; first | rwa [add_block] at this | exact this) GW125.out)) | (show (Addr.add _ _).block ≠ _; rw [add_block]; exact Nat.ne_of_lt (Nat.lt_of_lt_of_le (by have := World.block_lt_of_cell? _ _ hw124_1; first | rwa [add_block] at this | exact this) GW125.out)) | (dsimp only; exact Nat.ne_of_lt (Nat.lt_of_lt_of_le (by have := World.block_lt_of_cell? _ _ hw124_1; first | rwa [add_block] at this | exact this) GW125.out))) _).trans (hHeld.2.2.2.2.2.1)))))))), ((cell_far (p := ⟨gb125, _, none⟩) (by first | exact Nat.ne_of_lt (Nat.lt_of_lt_of_le (by have := World.block_lt_of_cell? _ _ hw124_2; first | rwa [add_block] at this | exact this) GW125.out) | (rw [add_block]; exact Nat.ne_of_lt (Nat.lt_of_lt_of_le (by have := World.block_lt_of_cell? _ _ hw124_2; first | rwa [add_block] at this | exact this) GW125.out)) | (show (Addr.add _ _).block ≠ _; rw [add_block]; exact Nat.ne_of_lt (Nat.lt_of_lt_of_le (by have := World.block_lt_of_cell? _ _ hw124_2; first | rwa [add_block] at this | exact this) GW125.out)) | (dsimp only; exact Nat.ne_of_lt (Nat.lt_of_lt_of_le (by have := World.block_lt_of_cell? _ _ hw124_2; first | rwa [add_block] at this | exact this) GW125.out))) _).trans (((cell_far (p := ⟨gb125, _, none⟩) (by first | exact Nat.ne_of_lt (Nat.lt_of_lt_of_le (by have := World.block_lt_of_cell? _ _ hw124_2; first | rwa [add_block] at this | exact this) GW125.out) | (rw [add_block]; exact Nat.ne_of_lt (Nat.lt_of_lt_of_le (by have := World.block_lt_of_cell? _ _ hw124_2; first | rwa [add_block] at this | exact this) GW125.out)) | (show (Addr.add _ _).block ≠ _; rw [add_block]; exact Nat.ne_of_lt (Nat.lt_of_lt_of_le (by have := World.block_lt_of_cell? _ _ hw124_2; first | rwa [add_block] at this | exact this) GW125.out)) | (dsimp only; exact Nat.ne_of_lt (Nat.lt_of_lt_of_le (by have := World.block_lt_of_cell? _ _ hw124_2; first | rwa [add_block] at this | exact this) GW125.out))) _).trans (((cell_far (p := ⟨gb125, _, none⟩) (by first | exact Nat.ne_of_lt (Nat.lt_of_lt_of_le (by have := World.block_lt_of_cell? _ _ hw124_2; first | rwa [add_block] at this | exact this) GW125.out) | (rw [add_block]; exact Nat.ne_of_lt (Nat.lt_of_lt_of_le (by have := World.block_lt_of_cell? _ _ hw124_2; first | rwa [add_block] at this | exact this) GW125.out)) | (show (Addr.add _ _).block ≠ _; rw [add_block]; exact Nat.ne_of_lt (Nat.lt_of_lt_of_le (by have := World.block_lt_of_cell? _ _ hw124_2; first | rwa [add_block] at this | exact this) GW125.out)) | (dsimp only; exact Nat.ne_of_lt (Nat.lt_of_lt_of_le (by have := World.block_lt_of_cell? _ _ hw124_2; first | rwa [add_block] at this | exact this) GW125.out))) _).trans (((cell_far (p := ⟨gb125, _, none⟩) (by first | exact Nat.ne_of_lt (Nat.lt_of_lt_of_le (by have := World.block_lt_of_cell? _ _ hw124_2; first | rwa [add_block] at this | exact this) GW125.out) | (rw [add_block]; exact Nat.ne_of_lt (Nat.lt_of_lt_of_le (by have := World.block_lt_of_cell? _ _ hw124_2; first | rwa [add_block] at this | exact this) GW125.out)) | (show (Addr.add _ _).block ≠ _; rw [add_block]; exact Nat.ne_of_lt (Nat.lt_of_lt_of_le (by have := World.block_lt_of_cell? _ _ hw124_2; first | rwa [add_block] at this | exact this) GW125.out)) | (dsimp only; exact Nat.ne_of_lt (Nat.lt_of_lt_of_le (by have := World.block_lt_of_cell? _ _ hw124_2; first | rwa [add_block] at this | exact this) GW125.out))) _).trans (hHeld.2.2.2.2.2.2.1)))))))), ((cell_far (p := ⟨gb125, _, none⟩) (by first | exact Nat.ne_of_lt (Nat.lt_of_lt_of_le (by have := World.block_lt_of_cell? _ _ hw124_3; first | rwa [add_block] at this | exact this) GW125.out) | (rw [add_block]; exact Nat.ne_of_lt (Nat.lt_of_lt_of_le (by have := World.block_lt_of_cell? _ _ hw124_3; first | rwa [add_block] at this | exact this) GW125.out)) | (show (Addr.add _ _).block ≠ _; rw [add_block]; exact Nat.ne_of_lt (Nat.lt_of_lt_of_le (by have := World.block_lt_of_cell? _ _ hw124_3; first | rwa [add_block] at this | exact this) GW125.out)) | (dsimp only; exact Nat.ne_of_lt (Nat.lt_of_lt_of_le (by have := World.block_lt_of_cell? _ _ hw124_3; first | rwa [add_block] at this | exact this) GW125.out))) _).trans (((cell_far (p := ⟨gb125, _, none⟩) (by first | exact Nat.ne_of_lt (Nat.lt_of_lt_of_le (by have := World.block_lt_of_cell? _ _ hw124_3; first | rwa [add_block] at this | exact this) GW125.out) | (rw [add_block]; exact Nat.ne_of_lt (Nat.lt_of_lt_of_le (by have := World.block_lt_of_cell? _ _ hw124_3; first | rwa [add_block] at this | exact this) GW125.out)) | (show (Addr.add _ _).block ≠ _; rw [add_block]; exact Nat.ne_of_lt (Nat.lt_of_lt_of_le (by have := World.block_lt_of_cell? _ _ hw124_3; first | rwa [add_block] at this | exact this) GW125.out)) | (dsimp only; exact Nat.ne_of_lt (Nat.lt_of_lt_of_le (by have := World.block_lt_of_cell? _ _ hw124_3; first | rwa [add_block] at this | exact this) GW125.out))) _).trans (((cell_far (p := ⟨gb125, _, none⟩) (by first | exact Nat.ne_of_lt (Nat.lt_of_lt_of_le (by have := World.block_lt_of_cell? _ _ hw124_3; first | rwa [add_block] at this | exact this) GW125.out) | (rw [add_block]; exact Nat.ne_of_lt (Nat.lt_of_lt_of_le (by have := World.block_lt_of_cell? _ _ hw124_3; first | rwa [add_block] at this | exact this) GW125.out)) | (show (Addr.add _ _).block ≠ _; rw [add_block]; exact Nat.ne_of_lt (Nat.lt_of_lt_of_le (by have := World.block_lt_of_cell? _ _ hw124_3; first | rwa [add_block] at this | exact this) GW125.out)) | (dsimp only; exact Nat.ne_of_lt (Nat.lt_of_lt_of_le (by have := World.block_lt_of_cell? _ _ hw124_3; first | rwa [add_block] at this | exact this) GW125.out))) _).trans (((cell_far (p := ⟨gb125, _, none⟩) (by first | exact Nat.ne_of_lt (Nat.lt_of_lt_of_le (by have := World.block_lt_of_cell? _ _ hw124_3; first | rwa [add_block] at this | exact this) GW125.out) | (rw [add_block]; exact Nat.ne_of_lt (Nat.lt_of_lt_of_le (by have := World.block_lt_of_cell? _ _ hw124_3; first | rwa [add_block] at this | exact this) GW125.out)) | (show (Addr.add _ _).block ≠ _; rw [add_block]; exact Nat.ne_of_lt (Nat.lt_of_lt_of_le (by have := World.block_lt_of_cell? _ _ hw124_3; first | rwa [add_block] at this | exact this) GW125.out)) | (dsimp only; exact Nat.ne_of_lt (Nat.lt_of_lt_of_le (by have := World.block_lt_of_cell? _ _ hw124_3; first | rwa [add_block] at this | exact this) GW125.out))) _).trans (hHeld.2.2.2.2.2.2.2))))))))⟩ (fun hHeld => ?_)
            clear hK K
            refine one_ (i := 19) (N := none) (bm 20 1048575) rfl rfl (one_of HT_.out (by kernel_rfl)) (by decide) (fun K hK => ?_)
            have hs39 : w34.cell? ⟨gb126, 0, none⟩ = some (.int .i64 0) := (blk_cell BK126.out 0).trans rfl
            have hfs39 := blk_frozen BK126.out 0
            have hns39_0 := NB125_126.out
            have hms39_0 := NB126_125.out
            have hs40 : w34.cell? ⟨gb126, 1, none⟩ = some (.int .i64 0) := (blk_cell BK126.out 1).trans rfl
            have hfs40 := blk_frozen BK126.out 1
            have hns40_0 := NB125_126.out
            have hms40_0 := NB126_125.out
            have hs41 : w34.cell? ⟨gb126, 2, none⟩ = some (.int .i64 0) := (blk_cell BK126.out 2).trans rfl
            have hfs41 := blk_frozen BK126.out 2
            have hns41_0 := NB125_126.out
            have hms41_0 := NB126_125.out
            have hs42 : w34.cell? ⟨gb126, 3, none⟩ = some (.slice none 0 0) := (blk_cell BK126.out 3).trans rfl
            have hfs42 := blk_frozen BK126.out 3
            have hns42_0 := NB125_126.out
            have hms42_0 := NB126_125.out
            refine skip_ (w1 := ?_) (by rfl) rfl ?_ ?_
            rotate_left
            ·go_simp
             rfl
            refine hK.out _ _ ⟨((cell_far (p := ⟨gb126, _, none⟩) (by first | exact Nat.ne_of_lt (Nat.lt_of_lt_of_le (by have := World.block_lt_of_cell? _ _ hw123_0; first | rwa [add_block] at this | exact this) GW126.out) | (rw [add_block]; exact Nat.ne_of_lt (Nat.lt_of_lt_of_le (by have := World.block_lt_of_cell? _ _ hw123_0; first | rwa [add_block] at this | exact this) GW126.out)) | (show (Addr.add _ _).block ≠ _; rw [add_block]; exact Nat.ne_of_lt (Nat.lt_of_lt_of_le (by have := World.block_lt_of_cell? _ _ hw123_0; first | rwa [add_block] at this | exact this) GW126.out)) | (dsimp only; exact Nat.ne_of_lt (Nat.lt_of_lt_of_le (by have := World.block_lt_of_cell? _ _ hw123_0; first | rwa [add_block] at this | exact this) GW126.out))) _).trans (((cell_far (p := ⟨gb126, _, none⟩) (by first | exact Nat.ne_of_lt (Nat.lt_of_lt_of_le (by have := World.block_lt_of_cell? _ _ hw123_0; first | rwa [add_block] at this | exact this) GW126.out) | (rw [add_block]; exact Nat.ne_of_lt (Nat.lt_of_lt_of_le (by have := World.block_lt_of_cell? _ _ hw123_0; first | rwa [add_block] at this | exact this) GW126.out)) | (show (Addr.add _ _).block ≠ _; rw [add_block]; exact Nat.ne_of_lt (Nat.lt_of_lt_of_le (by have := World.block_lt_of_cell? _ _ hw123_0; first | rwa [add_block] at this | exact this) GW126.out)) | (dsimp only; exact Nat.ne_of_lt (Nat.lt_of_lt_of_le (by have := World.block_lt_of_cell? _ _ hw123_0; first | rwa [add_block] at this | exact this) GW126.out))) _).trans (((cell_far (p := ⟨gb126, _, none⟩) (by first | exact Nat.ne_of_lt (Nat.lt_of_lt_of_le (by have := World.block_lt_of_cell? _ _ hw123_0; first | rwa [add_block] at this | exact this) GW126.out) | (rw [add_block]; exact Nat.ne_of_lt (Nat.lt_of_lt_of_le (by have := World.block_lt_of_cell? _ _ hw123_0; first | rwa [add_block] at this | exact this) GW126.out)) | (show (Addr.add _ _).block ≠ _; rw [add_block]; exact Nat.ne_of_lt (Nat.lt_of_lt_of_le (by have := World.block_lt_of_cell? _ _ hw123_0; first | rwa [add_block] at this | exact this) GW126.out)) | (dsimp only; exact Nat.ne_of_lt (Nat.lt_of_lt_of_le (by have := World.block_lt_of_cell? _ _ hw123_0; first | rwa [add_block] at this | exact this) GW126.out))) _).trans (((cell_far (p := ⟨gb126, _, none⟩) (by first | exact Nat.ne_of_lt (Nat.lt_of_lt_of_le (by have := World.block_lt_of_cell? _ _ hw123_0; first | rwa [add_block] at this | exact this) GW126.out) | (rw [add_block]; exact Nat.ne_of_lt (Nat.lt_of_lt_of_le (by have := World.block_lt_of_cell? _ _ hw123_0; first | rwa [add_block] at this | exact this) GW126.out)) | (show (Addr.add _ _).block ≠ _; rw [add_block]; exact Nat.ne_of_lt (Nat.lt_of_lt_of_le (by have := World.block_lt_of_cell? _ _ hw123_0; first | rwa [add_block] at this | exact this) GW126.out)) | (dsimp only; exact Nat.ne_of_lt (Nat.lt_of_lt_of_le (by have := World.block_lt_of_cell? _ _ hw123_0; first | rwa [add_block] at this | exact this) GW126.out))) _).trans (hHeld.1)))))))), ((cell_far (p := ⟨gb126, _, none⟩) (by first | exact Nat.ne_of_lt (Nat.lt_of_lt_of_le (by have := World.block_lt_of_cell? _ _ hw123_1; first | rwa [add_block] at this | exact this) GW126.out) | (rw [add_block]; exact Nat.ne_of_lt (Nat.lt_of_lt_of_le (by have := World.block_lt_of_cell? _ _ hw123_1; first | rwa [add_block] at this | exact this) GW126.out)) | (show (Addr.add _ _).block ≠ _; rw [add_block]; exact Nat.ne_of_lt (Nat.lt_of_lt_of_le (by have := World.block_lt_of_cell? _ _ hw123_1; first | rwa [add_block] at this | exact this) GW126.out)) | (dsimp only; exact Nat.ne_of_lt (Nat.lt_of_lt_of_le (by have := World.block_lt_of_cell? _ _ hw123_1; first | rwa [add_block] at this | exact this) GW126.out))) _).trans (((cell_far (p := ⟨gb126, _, none⟩) (by first | exact Nat.ne_of_lt (Nat.lt_of_lt_of_le (by have := World.block_lt_of_cell? _ _ hw123_1; first | rwa [add_block] at this | exact this) GW126.out) | (rw [add_block]; exact Nat.ne_of_lt (Nat.lt_of_lt_of_le (by have := World.block_lt_of_cell? _ _ hw123_1; first | rwa [add_block] at this | exact this) GW126.out)) | (show (Addr.add _ _).block ≠ _; rw [add_block]; exact Nat.ne_of_lt (Nat.lt_of_lt_of_le (by have := World.block_lt_of_cell? _ _ hw123_1; first | rwa [add_block] at this | exact this) GW126.out)) | (dsimp only; exact Nat.ne_of_lt (Nat.lt_of_lt_of_le (by have := World.block_lt_of_cell? _ _ hw123_1; first | rwa [add_block] at this | exact this) GW126.out))) _).trans (((cell_far (p := ⟨gb126, _, none⟩) (by first | exact Nat.ne_of_lt (Nat.lt_of_lt_of_le (by have := World.block_lt_of_cell? _ _ hw123_1; first | rwa [add_block] at this | exact this) GW126.out) | (rw [add_block]; exact Nat.ne_of_lt (Nat.lt_of_lt_of_le (by have := World.block_lt_of_cell? _ _ hw123_1; first | rwa [add_block] at this | exact this) GW126.out)) | (show (Addr.add _ _).block ≠ _; rw [add_block]; exact Nat.ne_of_lt (Nat.lt_of_lt_of_le (by have := World.block_lt_of_cell? _ _ hw123_1; first | rwa [add_block] at this | exact this) GW126.out)) | (dsimp only; exact Nat.ne_of_lt (Nat.lt_of_lt_of_le (by have := World.block_lt_of_cell? _ _ hw123_1; first | rwa [add_block] at this | exact this) GW126.out))) _).trans (((cell_far (p := ⟨gb126, _, none⟩) (by first | exact Nat.ne_of_lt (Nat.lt_of_lt_of_le (by have := World.block_lt_of_cell? _ _ hw123_1; first | rwa [add_block] at this | exact this) GW126.out) | (rw [add_block]; exact Nat.ne_of_lt (Nat.lt_of_lt_of_le (by have := World.block_lt_of_cell? _ _ hw123_1; first | rwa [add_block] at this | exact this) GW126.out)) | (show (Addr.add _ _).block ≠ _; rw [add_block]; exact Nat.ne_of_lt (Nat.lt_of_lt_of_le (by have := World.block_lt_of_cell? _ _ hw123_1; first | rwa [add_block] at this | exact this) GW126.out)) | (dsimp only; exact Nat.ne_of_lt (Nat.lt_of_lt_of_le (by have := World.block_lt_of_cell? _ _ hw123_1; first | rwa [add_block] at this | exact this) GW126.out))) _).trans (hHeld.2.1)))))))), ((cell_far (p := ⟨gb126, _, none⟩) (by first | exact Nat.ne_of_lt (Nat.lt_of_lt_of_le (by have := World.block_lt_of_cell? _ _ hw123_2; first | rwa [add_block] at this | exact this) GW126.out) | (rw [add_block]; exact Nat.ne_of_lt (Nat.lt_of_lt_of_le (by have := World.block_lt_of_cell? _ _ hw123_2; first | rwa [add_block] at this | exact this) GW126.out)) | (show (Addr.add _ _).block ≠ _; rw [add_block]; exact Nat.ne_of_lt (Nat.lt_of_lt_of_le (by have := World.block_lt_of_cell? _ _ hw123_2; first | rwa [add_block] at this | exact this) GW126.out)) | (dsimp only; exact Nat.ne_of_lt (Nat.lt_of_lt_of_le (by have := World.block_lt_of_cell? _ _ hw123_2; first | rwa [add_block] at this | exact this) GW126.out))) _).trans (((cell_far (p := ⟨gb126, _, none⟩) (by first | exact Nat.ne_of_lt (Nat.lt_of_lt_of_le (by have := World.block_lt_of_cell? _ _ hw123_2; first | rwa [add_block] at this | exact this) GW126.out) | (rw [add_block]; exact Nat.ne_of_lt (Nat.lt_of_lt_of_le (by have := World.block_lt_of_cell? _ _ hw123_2; first | rwa [add_block] at this | exact this) GW126.out)) | (show (Addr.add _ _).block ≠ _; rw [add_block]; exact Nat.ne_of_lt (Nat.lt_of_lt_of_le (by have := World.block_lt_of_cell? _ _ hw123_2; first | rwa [add_block] at this | exact this) GW126.out)) | (dsimp only; exact Nat.ne_of_lt (Nat.lt_of_lt_of_le (by have := World.block_lt_of_cell? _ _ hw123_2; first | rwa [add_block] at this | exact this) GW126.out))) _).trans (((cell_far (p := ⟨gb126, _, none⟩) (by first | exact Nat.ne_of_lt (Nat.lt_of_lt_of_le (by have := World.block_lt_of_cell? _ _ hw123_2; first | rwa [add_block] at this | exact this) GW126.out) | (rw [add_block]; exact Nat.ne_of_lt (Nat.lt_of_lt_of_le (by have := World.block_lt_of_cell? _ _ hw123_2; first | rwa [add_block] at this | exact this) GW126.out)) | (show (Addr.add _ _).block ≠ _; rw [add_block]; exact Nat.ne_of_lt (Nat.lt_of_lt_of_le (by have := World.block_lt_of_cell? _ _ hw123_2; first | rwa [add_block] at this | exact this) GW126.out)) | (dsimp only; exact Nat.ne_of_lt (Nat.lt_of_lt_of_le (by have := World.block_lt_of_cell? _ _ hw123_2; first | rwa [add_block] at this | exact this) GW126.out))) _).trans (((cell_far (p := ⟨gb126, _, none⟩) (by first | exact Nat.ne_of_lt (Nat.lt_of_lt_of_le (by have := World.block_lt_of_cell? _ _ hw123_2; first | rwa [add_block] at this | exact this) GW126.out) | (rw [add_block]; exact Nat.ne_of_lt (Nat.lt_of_lt_of_le (by have := World.block_lt_of_cell? _ _ hw123_2; first | rwa [add_block] at this | exact this) GW126.out)) | (show (Addr.add _ _).block ≠ _; rw [add_block]; exact Nat.ne_of_lt (Nat.lt_of_lt_of_le (by have := World.block_lt_of_cell? _ _ hw123_2; first | rwa [add_block] at this | exact this) GW126.out)) | (dsimp only; exact Nat.ne_of_lt (Nat.lt_of_lt_of_le (by have := World.block_lt_of_cell? _ _ hw123_2; first | rwa [add_block] at this | exact this) GW126.out))) _).trans (hHeld.2.2.1)))))))), ((cell_far (p := ⟨gb126, _, none⟩) (by first | exact Nat.ne_of_lt (Nat.lt_of_lt_of_le (by have := World.block_lt_of_cell? _ _ hw123_3; first | rwa [add_block] at this | exact this) GW126.out) | (rw [add_block]; exact Nat.ne_of_lt (Nat.lt_of_lt_of_le (by have := World.block_lt_of_cell? _ _ hw123_3; first | rwa [add_block] at this | exact this) GW126.out)) | (show (Addr.add _ _).block ≠ _; rw [add_block]; exact Nat.ne_of_lt (Nat.lt_of_lt_of_le (by have := World.block_lt_of_cell? _ _ hw123_3; first | rwa [add_block] at this | exact this) GW126.out)) | (dsimp only; exact Nat.ne_of_lt (Nat.lt_of_lt_of_le (by have := World.block_lt_of_cell? _ _ hw123_3; first | rwa [add_block] at this | exact this) GW126.out))) _).trans (((cell_far (p := ⟨gb126, _, none⟩) (by first | exact Nat.ne_of_lt (Nat.lt_of_lt_of_le (by have := World.block_lt_of_cell? _ _ hw123_3; first | rwa [add_block] at this | exact this) GW126.out) | (rw [add_block]; exact Nat.ne_of_lt (Nat.lt_of_lt_of_le (by have := World.block_lt_of_cell? _ _ hw123_3; first | rwa [add_block] at this | exact this) GW126.out)) | (show (Addr.add _ _).block ≠ _; rw [add_block]; exact Nat.ne_of_lt (Nat.lt_of_lt_of_le (by have := World.block_lt_of_cell? _ _ hw123_3; first | rwa [add_block] at this | exact this) GW126.out)) | (dsimp only; exact Nat.ne_of_lt (Nat.lt_of_lt_of_le (by have := World.block_lt_of_cell? _ _ hw123_3; first | rwa [add_block] at this | exact this) GW126.out))) _).trans (((cell_far (p := ⟨gb126, _, none⟩) (by first | exact Nat.ne_of_lt (Nat.lt_of_lt_of_le (by have := World.block_lt_of_cell? _ _ hw123_3; first | rwa [add_block] at this | exact this) GW126.out) | (rw [add_block]; exact Nat.ne_of_lt (Nat.lt_of_lt_of_le (by have := World.block_lt_of_cell? _ _ hw123_3; first | rwa [add_block] at this | exact this) GW126.out)) | (show (Addr.add _ _).block ≠ _; rw [add_block]; exact Nat.ne_of_lt (Nat.lt_of_lt_of_le (by have := World.block_lt_of_cell? _ _ hw123_3; first | rwa [add_block] at this | exact this) GW126.out)) | (dsimp only; exact Nat.ne_of_lt (Nat.lt_of_lt_of_le (by have := World.block_lt_of_cell? _ _ hw123_3; first | rwa [add_block] at this | exact this) GW126.out))) _).trans (((cell_far (p := ⟨gb126, _, none⟩) (by first | exact Nat.ne_of_lt (Nat.lt_of_lt_of_le (by have := World.block_lt_of_cell? _ _ hw123_3; first | rwa [add_block] at this | exact this) GW126.out) | (rw [add_block]; exact Nat.ne_of_lt (Nat.lt_of_lt_of_le (by have := World.block_lt_of_cell? _ _ hw123_3; first | rwa [add_block] at this | exact this) GW126.out)) | (show (Addr.add _ _).block ≠ _; rw [add_block]; exact Nat.ne_of_lt (Nat.lt_of_lt_of_le (by have := World.block_lt_of_cell? _ _ hw123_3; first | rwa [add_block] at this | exact this) GW126.out)) | (dsimp only; exact Nat.ne_of_lt (Nat.lt_of_lt_of_le (by have := World.block_lt_of_cell? _ _ hw123_3; first | rwa [add_block] at this | exact this) GW126.out))) _).trans (hHeld.2.2.2.1)))))))), ((cell_far (p := ⟨gb126, _, none⟩) (by first | exact Nat.ne_of_lt (Nat.lt_of_lt_of_le (by have := World.block_lt_of_cell? _ _ hw124_0; first | rwa [add_block] at this | exact this) GW126.out) | (rw [add_block]; exact Nat.ne_of_lt (Nat.lt_of_lt_of_le (by have := World.block_lt_of_cell? _ _ hw124_0; first | rwa [add_block] at this | exact this) GW126.out)) | (show (Addr.add _ _).block ≠ _; rw [add_block]; exact Nat.ne_of_lt (Nat.lt_of_lt_of_le (by have := World.block_lt_of_cell? _ _ hw124_0; first | rwa [add_block] at this | exact this) GW126.out)) | (dsimp only; exact Nat.ne_of_lt (Nat.lt_of_lt_of_le (by have := World.block_lt_of_cell? _ _ hw124_0; first | rwa [add_block] at this | exact this) GW126.out))) _).trans (((cell_far (p := ⟨gb126, _, none⟩) (by first | exact Nat.ne_of_lt (Nat.lt_of_lt_of_le (by have := World.block_lt_of_cell? _ _ hw124_0; first | rwa [add_block] at this | exact this) GW126.out) | (rw [add_block]; exact Nat.ne_of_lt (Nat.lt_of_lt_of_le (by have := World.block_lt_of_cell? _ _ hw124_0; first | rwa [add_block] at this | exact this) GW126.out)) | (show (Addr.add _ _).block ≠ _; rw [add_block]; exact Nat.ne_of_lt (Nat.lt_of_lt_of_le (by have := World.block_lt_of_cell? _ _ hw124_0; first | rwa [add_block] at this | exact this) GW126.out)) | (dsimp only; exact Nat.ne_of_lt (Nat.lt_of_lt_of_le (by have := World.block_lt_of_cell? _ _ hw124_0; first | rwa [add_block] at this | exact this) GW126.out))) _).trans (((cell_far (p := ⟨gb126, _, none⟩) (by first | exact Nat.ne_of_lt (Nat.lt_of_lt_of_le (by have := World.block_lt_of_cell? _ _ hw124_0; first | rwa [add_block] at this | exact this) GW126.out) | (rw [add_block]; exact Nat.ne_of_lt (Nat.lt_of_lt_of_le (by have := World.block_lt_of_cell? _ _ hw124_0; first | rwa [add_block] at this | exact this) GW126.out)) | (show (Addr.add _ _).block ≠ _; rw [add_block]; exact Nat.ne_of_lt (Nat.lt_of_lt_of_le (by have := World.block_lt_of_cell? _ _ hw124_0; first | rwa [add_block] at this | exact this) GW126.out)) | (dsimp only; exact Nat.ne_of_lt (Nat.lt_of_lt_of_le (by have := World.block_lt_of_cell? _ _ hw124_0; first | rwa [add_block] at this | exact this) GW126.out))) _).trans (((cell_far (p := ⟨gb126, _, none⟩) (by first | exact Nat.ne_of_lt (Nat.lt_of_lt_of_le (by have := World.block_lt_of_cell? _ _ hw124_0; first | rwa [add_block] at this | exact this) GW126.out) | (rw [add_block]; exact Nat.ne_of_lt (Nat.lt_of_lt_of_le (by have := World.block_lt_of_cell? _ _ hw124_0; first | rwa [add_block] at this | exact this) GW126.out)) | (show (Addr.add _ _).block ≠ _; rw [add_block]; exact Nat.ne_of_lt (Nat.lt_of_lt_of_le (by have := World.block_lt_of_cell? _ _ hw124_0; first | rwa [add_block] at this | exact this) GW126.out)) | (dsimp only; exact Nat.ne_of_lt (Nat.lt_of_lt_of_le (by have := World.block_lt_of_cell? _ _ hw124_0; first | rwa [add_block] at this | exact this) GW126.out))) _).trans (hHeld.2.2.2.2.1)))))))), ((cell_far (p := ⟨gb126, _, none⟩) (by first | exact Nat.ne_of_lt (Nat.lt_of_lt_of_le (by have := World.block_lt_of_cell? _ _ hw124_1; first | rwa [add_block] at this | exact this) GW126.out) | (rw [add_block]; exact Nat.ne_of_lt (Nat.lt_of_lt_of_le (by have := World.block_lt_of_cell? _ _ hw124_1; first | rwa [add_block] at this | exact this) GW126.out)) | (show (Addr.add _ _).block ≠ _; rw [add_block]; exact Nat.ne_of_lt (Nat.lt_of_lt_of_le (by have := World.block_lt_of_cell? _ _ hw124_1; first | rwa [add_block] at this | exact this) GW126.out)) | (dsimp only; exact Nat.ne_of_lt (Nat.lt_of_lt_of_le (by have := World.block_lt_of_cell? _ _ hw124_1; first | rwa [add_block] at this | exact this) GW126.out))) _).trans (((cell_far (p := ⟨gb126, _, none⟩) (by first | exact Nat.ne_of_lt (Nat.lt_of_lt_of_le (by have := World.block_lt_of_cell? _ _ hw124_1; first | rwa [add_block] at this | exact this) GW126.out) | (rw [add_block]; exact Nat.ne_of_lt (Nat.lt_of_lt_of_le (by have := World.block_lt_of_cell? _ _ hw124_1; first | rwa [add_block] at this | exact this) GW126.out)) | (show (Addr.add _ _).block ≠ _; rw [add_block]; exact Nat.ne_of_lt (Nat.lt_of_lt_of_le (by have := World.block_lt_of_cell? _ _ hw124_1; first | rwa [add_block] at this | exact this) GW126.out)) | (dsimp only; exact Nat.ne_of_lt (Nat.lt_of_lt_of_le (by have := World.block_lt_of_cell? _ _ hw124_1; first | rwa [add_block] at this | exact this) GW126.out))) _).trans (((cell_far (p := ⟨gb126, _, none⟩) (by first | exact Nat.ne_of_lt (Nat.lt_of_lt_of_le (by have := World.block_lt_of_cell? _ _ hw124_1; first | rwa [add_block] at this | exact this) GW126.out) | (rw [add_block]; exact Nat.ne_of_lt (Nat.lt_of_lt_of_le (by have := World.block_lt_of_cell? _ _ hw124_1; first | rwa [add_block] at this | exact this) GW126.out)) | (show (Addr.add _ _).block ≠ _; rw [add_block]; exact Nat.ne_of_lt (Nat.lt_of_lt_of_le (by have := World.block_lt_of_cell? _ _ hw124_1; first | rwa [add_block] at this | exact this) GW126.out)) | (dsimp only; exact Nat.ne_of_lt (Nat.lt_of_lt_of_le (by have := World.block_lt_of_cell? _ _ hw124_1; first | rwa [add_block] at this | exact this) GW126.out))) _).trans (((cell_far (p := ⟨gb126, _, none⟩) (by first | exact Nat.ne_of_lt (Nat.lt_of_lt_of_le (by have := World.block_lt_of_cell? _ _ hw124_1; first | rwa [add_block] at this | exact this) GW126.out) | (rw [add_block]; exact Nat.ne_of_lt (Nat.lt_of_lt_of_le (by have := World.block_lt_of_cell? _ _ hw124_1; first | rwa [add_block] at this | exact this) GW126.out)) | (show (Addr.add _ _).block ≠ _; rw [add_block]; exact Nat.ne_of_lt (Nat.lt_of_lt_of_le (by have := World.block_lt_of_cell? _ _ hw124_1; first | rwa [add_block] at this | exact this) GW126.out)) | (dsimp only; exact Nat.ne_of_lt (Nat.lt_of_lt_of_le (by have := World.block_lt_of_cell? _ _ hw124_1; first | rwa [add_block] at this | exact this) GW126.out))) _).trans (hHeld.2.2.2.2.2.1)))))))), ((cell_far (p := ⟨gb126, _, none⟩) (by first | exact Nat.ne_of_lt (Nat.lt_of_lt_of_le (by have := World.block_lt_of_cell? _ _ hw124_2; first | rwa [add_block] at this | exact this) GW126.out) | (rw [add_block]; exact Nat.ne_of_lt (Nat.lt_of_lt_of_le (by have := World.block_lt_of_cell? _ _ hw124_2; first | rwa [add_block] at this | exact this) GW126.out)) | (show (Addr.add _ _).block ≠ _; rw [add_block]; exact Nat.ne_of_lt (Nat.lt_of_lt_of_le (by have := World.block_lt_of_cell? _ _ hw124_2; first | rwa [add_block] at this | exact this) GW126.out)) | (dsimp only; exact Nat.ne_of_lt (Nat.lt_of_lt_of_le (by have := World.block_lt_of_cell? _ _ hw124_2; first | rwa [add_block] at this | exact this) GW126.out))) _).trans (((cell_far (p := ⟨gb126, _, none⟩) (by first | exact Nat.ne_of_lt (Nat.lt_of_lt_of_le (by have := World.block_lt_of_cell? _ _ hw124_2; first | rwa [add_block] at this | exact this) GW126.out) | (rw [add_block]; exact Nat.ne_of_lt (Nat.lt_of_lt_of_le (by have := World.block_lt_of_cell? _ _ hw124_2; first | rwa [add_block] at this | exact this) GW126.out)) | (show (Addr.add _ _).block ≠ _; rw [add_block]; exact Nat.ne_of_lt (Nat.lt_of_lt_of_le (by have := World.block_lt_of_cell? _ _ hw124_2; first | rwa [add_block] at this | exact this) GW126.out)) | (dsimp only; exact Nat.ne_of_lt (Nat.lt_of_lt_of_le (by have := World.block_lt_of_cell? _ _ hw124_2; first | rwa [add_block] at this | exact this) GW126.out))) _).trans (((cell_far (p := ⟨gb126, _, none⟩) (by first | exact Nat.ne_of_lt (Nat.lt_of_lt_of_le (by have := World.block_lt_of_cell? _ _ hw124_2; first | rwa [add_block] at this | exact this) GW126.out) | (rw [add_block]; exact Nat.ne_of_lt (Nat.lt_of_lt_of_le (by have := World.block_lt_of_cell? _ _ hw124_2; first | rwa [add_block] at this | exact this) GW126.out)) | (show (Addr.add _ _).block ≠ _; rw [add_block]; exact Nat.ne_of_lt (Nat.lt_of_lt_of_le (by have := World.block_lt_of_cell? _ _ hw124_2; first | rwa [add_block] at this | exact this) GW126.out)) | (dsimp only; exact Nat.ne_of_lt (Nat.lt_of_lt_of_le (by have := World.block_lt_of_cell? _ _ hw124_2; first | rwa [add_block] at this | exact this) GW126.out))) _).trans (((cell_far (p := ⟨gb126, _, none⟩) (by first | exact Nat.ne_of_lt (Nat.lt_of_lt_of_le (by have := World.block_lt_of_cell? _ _ hw124_2; first | rwa [add_block] at this | exact this) GW126.out) | (rw [add_block]; exact Nat.ne_of_lt (Nat.lt_of_lt_of_le (by have := World.block_lt_of_cell? _ _ hw124_2; first | rwa [add_block] at this | exact this) GW126.out)) | (show (Addr.add _ _).block ≠ _; rw [add_block]; exact Nat.ne_of_lt (Nat.lt_of_lt_of_le (by have := World.block_lt_of_cell? _ _ hw124_2; first | rwa [add_block] at this | exact this) GW126.out)) | (dsimp only; exact Nat.ne_of_lt (Nat.lt_of_lt_of_le (by have := World.block_lt_of_cell? _ _ hw124_2; first | rwa [add_block] at this | exact this) GW126.out))) _).trans (hHeld.2.2.2.2.2.2.1)))))))), ((cell_far (p := ⟨gb126, _, none⟩) (by first | exact Nat.ne_of_lt (Nat.lt_of_lt_of_le (by have := World.block_lt_of_cell? _ _ hw124_3; first | rwa [add_block] at this | exact this) GW126.out) | (rw [add_block]; exact Nat.ne_of_lt (Nat.lt_of_lt_of_le (by have := World.block_lt_of_cell? _ _ hw124_3; first | rwa [add_block] at this | exact this) GW126.out)) | (show (Addr.add _ _).block ≠ _; rw [add_block]; exact Nat.ne_of_lt (Nat.lt_of_lt_of_le (by have := World.block_lt_of_cell? _ _ hw124_3; first | rwa [add_block] at this | exact this) GW126.out)) | (dsimp only; exact Nat.ne_of_lt (Nat.lt_of_lt_of_le (by have := World.block_lt_of_cell? _ _ hw124_3; first | rwa [add_block] at this | exact this) GW126.out))) _).trans (((cell_far (p := ⟨gb126, _, none⟩) (by first | exact Nat.ne_of_lt (Nat.lt_of_lt_of_le (by have := World.block_lt_of_cell? _ _ hw124_3; first | rwa [add_block] at this | exact this) GW126.out) | (rw [add_block]; exact Nat.ne_of_lt (Nat.lt_of_lt_of_le (by have := World.block_lt_of_cell? _ _ hw124_3; first | rwa [add_block] at this | exact this) GW126.out)) | (show (Addr.add _ _).block ≠ _; rw [add_block]; exact Nat.ne_of_lt (Nat.lt_of_lt_of_le (by have := World.block_lt_of_cell? _ _ hw124_3; first | rwa [add_block] at this | exact this) GW126.out)) | (dsimp only; exact Nat.ne_of_lt (Nat.lt_of_lt_of_le (by have := World.block_lt_of_cell? _ _ hw124_3; first | rwa [add_block] at this | exact this) GW126.out))) _).trans (((cell_far (p := ⟨gb126, _, none⟩) (by first | exact Nat.ne_of_lt (Nat.lt_of_lt_of_le (by have := World.block_lt_of_cell? _ _ hw124_3; first | rwa [add_block] at this | exact this) GW126.out) | (rw [add_block]; exact Nat.ne_of_lt (Nat.lt_of_lt_of_le (by have := World.block_lt_of_cell? _ _ hw124_3; first | rwa [add_block] at this | exact this) GW126.out)) | (show (Addr.add _ _).block ≠ _; rw [add_block]; exact Nat.ne_of_lt (Nat.lt_of_lt_of_le (by have := World.block_lt_of_cell? _ _ hw124_3; first | rwa [add_block] at this | exact this) GW126.out)) | (dsimp only; exact Nat.ne_of_lt (Nat.lt_of_lt_of_le (by have := World.block_lt_of_cell? _ _ hw124_3; first | rwa [add_block] at this | exact this) GW126.out))) _).trans (((cell_far (p := ⟨gb126, _, none⟩) (by first | exact Nat.ne_of_lt (Nat.lt_of_lt_of_le (by have := World.block_lt_of_cell? _ _ hw124_3; first | rwa [add_block] at this | exact this) GW126.out) | (rw [add_block]; exact Nat.ne_of_lt (Nat.lt_of_lt_of_le (by have := World.block_lt_of_cell? _ _ hw124_3; first | rwa [add_block] at this | exact this) GW126.out)) | (show (Addr.add _ _).block ≠ _; rw [add_block]; exact Nat.ne_of_lt (Nat.lt_of_lt_of_le (by have := World.block_lt_of_cell? _ _ hw124_3; first | rwa [add_block] at this | exact this) GW126.out)) | (dsimp only; exact Nat.ne_of_lt (Nat.lt_of_lt_of_le (by have := World.block_lt_of_cell? _ _ hw124_3; first | rwa [add_block] at this | exact this) GW126.out))) _).trans (hHeld.2.2.2.2.2.2.2))))))))⟩ (fun hHeld => ?_)
            clear hK K
            refine done_ (done_of HT_.out (by kernel_rfl)) ?_
            have hnb43 := NB125_126.out
            have hnc43 := NB126_125.out
            obtain ⟨hcz44_0, hcz44_1, hcz44_2, hcz44_3, hfz44_0, hfz44_1, hfz44_2, hfz44_3⟩ := blk4 BK125.out
            obtain ⟨hcz45_0, hcz45_1, hcz45_2, hcz45_3, hfz45_0, hfz45_1, hfz45_2, hfz45_3⟩ := blk4 BK126.out
            try go_wp2_with (first | ((with_reducible refine gate_dst (N := 74) rfl ?_); refine gLK (args1 := #[.agg #[.int .i64 ((rd_T36 l2 (ji22)).f0), .int .i64 ((rd_T36 l2 (ji22)).f1), .int .i64 ((rd_T36 l2 (ji22)).f2), .slice A123_3 ((rd_T36 l2 (ji22)).f3).length c123_3], .agg #[.int .i64 ((rd_T36 l3 (ji25)).f0), .int .i64 ((rd_T36 l3 (ji25)).f1), .int .i64 ((rd_T36 l3 (ji25)).f2), .slice A124_3 ((rd_T36 l3 (ji25)).f3).length c124_3]]) (some 74) #[.pointer (some ⟨gx4, 0, none⟩), .pointer (some ⟨gx5, 0, none⟩)] Tryd.func12 #[.agg #[.int .i64 ((rd_T36 l2 (ji22)).f0), .int .i64 ((rd_T36 l2 (ji22)).f1), .int .i64 ((rd_T36 l2 (ji22)).f2), .slice A123_3 ((rd_T36 l2 (ji22)).f3).length c123_3], .agg #[.int .i64 ((rd_T36 l3 (ji25)).f0), .int .i64 ((rd_T36 l3 (ji25)).f1), .int .i64 ((rd_T36 l3 (ji25)).f2), .slice A124_3 ((rd_T36 l3 (ji25)).f3).length c124_3], .pointer (some ⟨gx4, 0, none⟩), .pointer (some ⟨gx5, 0, none⟩)] rfl rfl (by (try simp only [List.map_toArray, List.map_cons, List.map_nil]); first | done | (simp only [hji22, hji25]; rfl) | rfl | (simp only [List.length_drop, List.length_take]; rfl)) rfl ?_; (with_reducible refine (match_Keep_1.calls gx4 gx5 ((rd_T36 l2 (ji22)).f0) ((rd_T36 l2 (ji22)).f1) ((rd_T36 l2 (ji22)).f2) _ _ ((rd_T36 l2 (ji22)).f3) ((rd_T36 l3 (ji25)).f0) ((rd_T36 l3 (ji25)).f1) ((rd_T36 l3 (ji25)).f2) _ _ ((rd_T36 l3 (ji25)).f3) _ _ l0 _ _ l1 true _ ?side1 ?side2 ?side3 ?side4 ?side5 ?side6 ?side7 ?side8 (pw_cell_below (bAt HB.out) HX4.out) (pw_cell_below (bAt HB.out) HX5.out) A28.out).mono ?_); (case side1 => exact Kd.C_below HR123_3.out (bAt HB.out)); (case side2 => exact HC123_3.out); (case side3 => exact Kd.C_below HR124_3.out (bAt HB.out)); (case side4 => exact HC124_3.out); (case side5 => exact Kd.C_below HR0.out (bAt HB.out)); (case side6 => exact HC0.out); (case side7 => exact Kd.C_below HR1.out (bAt HB.out)); (case side8 => exact HC1.out); rintro e w46 ⟨rfl, hb⟩; refine ⟨_, rfl, ?_⟩; replace BK125 := Aside0.mk (blk_below (g := gb125) (o := .cells #[.int .i64 ((rd_T36 l2 (ji22)).f0), .int .i64 ((rd_T36 l2 (ji22)).f1), .int .i64 ((rd_T36 l2 (ji22)).f2), .slice A123_3 ((rd_T36 l2 (ji22)).f3).length c123_3] 36 (0, 0)) (by (with_reducible repeat (first | refine blk_drewN ?_ _ | refine blk_drew ?_ | refine blk_alloc ?_ _)); refine blk_far ?_ NB125_126.out _; (with_reducible repeat (first | refine blk_drewN ?_ _ | refine blk_drew ?_ | refine blk_alloc ?_ _)); refine blk_far ?_ NB125_126.out _; (with_reducible repeat (first | refine blk_drewN ?_ _ | refine blk_drew ?_ | refine blk_alloc ?_ _)); refine blk_far ?_ NB125_126.out _; (with_reducible repeat (first | refine blk_drewN ?_ _ | refine blk_drew ?_ | refine blk_alloc ?_ _)); refine blk_far ?_ NB125_126.out _; refine bP #[.int .i64 ((rd_T36 l2 (ji22)).f0), .int .i64 ((rd_T36 l2 (ji22)).f1), .int .i64 ((rd_T36 l2 (ji22)).f2), .slice none 0 0] 3 ?_; refine bP #[.int .i64 ((rd_T36 l2 (ji22)).f0), .int .i64 ((rd_T36 l2 (ji22)).f1), .int .i64 0, .slice none 0 0] 2 ?_; refine bP #[.int .i64 ((rd_T36 l2 (ji22)).f0), .int .i64 0, .int .i64 0, .slice none 0 0] 1 ?_; refine bP #[.int .i64 0, .int .i64 0, .int .i64 0, .slice none 0 0] 0 ?_; (with_reducible repeat (first | refine blk_drewN ?_ _ | refine blk_drew ?_ | refine blk_alloc ?_ _)); exact BK125.out) hb); replace BK126 := Aside0.mk (blk_below (g := gb126) (o := .cells #[.int .i64 ((rd_T36 l3 (ji25)).f0), .int .i64 ((rd_T36 l3 (ji25)).f1), .int .i64 ((rd_T36 l3 (ji25)).f2), .slice A124_3 ((rd_T36 l3 (ji25)).f3).length c124_3] 36 (0, 0)) (by refine bP #[.int .i64 ((rd_T36 l3 (ji25)).f0), .int .i64 ((rd_T36 l3 (ji25)).f1), .int .i64 ((rd_T36 l3 (ji25)).f2), .slice none 0 0] 3 ?_; refine bP #[.int .i64 ((rd_T36 l3 (ji25)).f0), .int .i64 ((rd_T36 l3 (ji25)).f1), .int .i64 0, .slice none 0 0] 2 ?_; refine bP #[.int .i64 ((rd_T36 l3 (ji25)).f0), .int .i64 0, .int .i64 0, .slice none 0 0] 1 ?_; refine bP #[.int .i64 0, .int .i64 0, .int .i64 0, .slice none 0 0] 0 ?_; (with_reducible repeat (first | refine blk_drewN ?_ _ | refine blk_drew ?_ | refine blk_alloc ?_ _)); refine blk_far ?_ NB126_125.out _; (with_reducible repeat (first | refine blk_drewN ?_ _ | refine blk_drew ?_ | refine blk_alloc ?_ _)); refine blk_far ?_ NB126_125.out _; (with_reducible repeat (first | refine blk_drewN ?_ _ | refine blk_drew ?_ | refine blk_alloc ?_ _)); refine blk_far ?_ NB126_125.out _; (with_reducible repeat (first | refine blk_drewN ?_ _ | refine blk_drew ?_ | refine blk_alloc ?_ _)); refine blk_far ?_ NB126_125.out _; (with_reducible repeat (first | refine blk_drewN ?_ _ | refine blk_drew ?_ | refine blk_alloc ?_ _)); exact BK126.out) hb); replace HB := Aside0.mk (below_step (bAt HB.out) hb); (try clear hb); have hxw4_ := pw_cell_below HB.out HX4.out; have hxw5_ := pw_cell_below HB.out HX5.out; (try clear hb2); (try clear hk); (try clear hi); obtain ⟨hcz47_0, hcz47_1, hcz47_2, hcz47_3, hfz47_0, hfz47_1, hfz47_2, hfz47_3⟩ := blk4 BK125.out; obtain ⟨hcz48_0, hcz48_1, hcz48_2, hcz48_3, hfz48_0, hfz48_1, hfz48_2, hfz48_3⟩ := blk4 BK126.out))
            go_roundg k2
            case measure => have := HJ5.out; have := HK2.out; omega
            case rel => exact ⟨(wrap64 (x9_2 + 1)), sR, H', ⟨by have := HJ5.out; have := HK2.out; omega⟩, ⟨bAt HB.out⟩⟩
           ·rw [if_neg c30] at H
            obtain ⟨c30b0, c30b1⟩ := neB c30
            simp only [Option.some.injEq, Prod.mk.injEq] at H
            obtain ⟨rfl, rfl⟩ := H
            try go_wp2
            replace HB := Aside0.mk (below_drew1 HB.out)
            have p123 : 0 ≤ ((ji22) : Int) := dt
            have q123 : (ji22) < (l2.length : Int) := dt
            obtain ⟨ad123, A123_3, c123_3, e123, hx123_0, hx123_1, hx123_2, hx123_3, hl123_3, hi123_3⟩ := at_T36 HR2.out (ji22) p123 q123
            have hw123_3 := hx123_3
            have hw123_2 := hx123_2
            have hw123_1 := hx123_1
            have hw123_0 := hx123_0
            cases e123
            replace hx123_0 := pw_cell_below HB.out hx123_0
            replace hx123_1 := pw_cell_below HB.out hx123_1
            replace hx123_2 := pw_cell_below HB.out hx123_2
            replace hx123_3 := pw_cell_below HB.out hx123_3
            have HR123_3 := Aside0.mk hi123_3
            have HC123_3 := Aside0.mk hl123_3
            clear hi123_3 hl123_3
            replace p123 := eq_true p123
            replace q123 := eq_true q123
            have p124 : 0 ≤ ((ji25) : Int) := dt
            have q124 : (ji25) < (l3.length : Int) := dt
            obtain ⟨ad124, A124_3, c124_3, e124, hx124_0, hx124_1, hx124_2, hx124_3, hl124_3, hi124_3⟩ := at_T36 HR3.out (ji25) p124 q124
            have hw124_3 := hx124_3
            have hw124_2 := hx124_2
            have hw124_1 := hx124_1
            have hw124_0 := hx124_0
            cases e124
            replace hx124_0 := pw_cell_below HB.out hx124_0
            replace hx124_1 := pw_cell_below HB.out hx124_1
            replace hx124_2 := pw_cell_below HB.out hx124_2
            replace hx124_3 := pw_cell_below HB.out hx124_3
            have HR124_3 := Aside0.mk hi124_3
            have HC124_3 := Aside0.mk hl124_3
            clear hi124_3 hl124_3
            replace p124 := eq_true p124
            replace q124 := eq_true q124
            refine start_ (n := 20) (S := fun w' => w'.cell? (ad123.add (((ji22)).toNat * 4)) = some (.int .i64 ((rd_T36 l2 (ji22)).f0)) ∧ w'.cell? ⟨(ad123.add (((ji22)).toNat * 4)).block, (ad123.add (((ji22)).toNat * 4)).off + 1, none⟩ = some (.int .i64 ((rd_T36 l2 (ji22)).f1)) ∧ w'.cell? ⟨(ad123.add (((ji22)).toNat * 4)).block, (ad123.add (((ji22)).toNat * 4)).off + 2, none⟩ = some (.int .i64 ((rd_T36 l2 (ji22)).f2)) ∧ w'.cell? ⟨(ad123.add (((ji22)).toNat * 4)).block, (ad123.add (((ji22)).toNat * 4)).off + 3, none⟩ = some (.slice A123_3 ((rd_T36 l2 (ji22)).f3).length c123_3) ∧ w'.cell? (ad124.add (((ji25)).toNat * 4)) = some (.int .i64 ((rd_T36 l3 (ji25)).f0)) ∧ w'.cell? ⟨(ad124.add (((ji25)).toNat * 4)).block, (ad124.add (((ji25)).toNat * 4)).off + 1, none⟩ = some (.int .i64 ((rd_T36 l3 (ji25)).f1)) ∧ w'.cell? ⟨(ad124.add (((ji25)).toNat * 4)).block, (ad124.add (((ji25)).toNat * 4)).off + 2, none⟩ = some (.int .i64 ((rd_T36 l3 (ji25)).f2)) ∧ w'.cell? ⟨(ad124.add (((ji25)).toNat * 4)).block, (ad124.add (((ji25)).toNat * 4)).off + 3, none⟩ = some (.slice A124_3 ((rd_T36 l3 (ji25)).f3).length c124_3)) (ds := []) (bm 20 0) (by kernel_rfl) rfl rfl ⟨((HB.out.cell (World.block_lt_of_cell? w _ hw123_0)).trans hw123_0), ((HB.out.cell (World.block_lt_of_cell? w _ hw123_1)).trans hw123_1), ((HB.out.cell (World.block_lt_of_cell? w _ hw123_2)).trans hw123_2), ((HB.out.cell (World.block_lt_of_cell? w _ hw123_3)).trans hw123_3), ((HB.out.cell (World.block_lt_of_cell? w _ hw124_0)).trans hw124_0), ((HB.out.cell (World.block_lt_of_cell? w _ hw124_1)).trans hw124_1), ((HB.out.cell (World.block_lt_of_cell? w _ hw124_2)).trans hw124_2), ((HB.out.cell (World.block_lt_of_cell? w _ hw124_3)).trans hw124_3)⟩ (fun hHeld => ?_); refine with_tabW match_Keep.tab6 match_Keep.bits6 (fun HT_ HW_ => ?_)
            generalize wr.drew = w49 at HB HR123_3 HR124_3 hx123_0 hx123_1 hx123_2 hx123_3 hx124_0 hx124_1 hx124_2 hx124_3 hHeld ⊢
            refine pv_ 0 (some 55) (bm 20 1) HT_.out ?_
            refine pv_ 1 (some 56) (bm 20 3) HT_.out ?_
            refine pv_ 2 (some 57) (bm 20 7) HT_.out ?_
            refine pv_ 3 (some 58) (bm 20 15) HT_.out ?_
            refine pv_ 4 (some 59) (bm 20 31) HT_.out ?_
            refine pv_ 5 (some 60) (bm 20 63) HT_.out ?_
            refine pv_ 6 (some 61) (bm 20 127) HT_.out ?_
            refine pv_ 8 (some 63) (bm 20 383) HT_.out ?_
            refine pv_ 9 (some 64) (bm 20 895) HT_.out ?_
            refine pv_ 10 (some 65) (bm 20 1919) HT_.out ?_
            refine pv_ 11 (some 66) (bm 20 3967) HT_.out ?_
            refine pv_ 12 (some 67) (bm 20 8063) HT_.out ?_
            refine pv_ 13 (some 68) (bm 20 16255) HT_.out ?_
            refine pv_ 14 (some 69) (bm 20 32639) HT_.out ?_
            refine tk_ 7 (some 62) (bm 20 32767) HT_.out HW_.out hHeld ?_
            refine tk_ 15 (some 70) (bm 20 65535) HT_.out HW_.out hHeld ?_
            refine join_ (σ := Nat × Nat) 2 (bm 20 262143) (fun s_ => [(12, .pointer (some ⟨s_.1, 0, none⟩)), (13, .pointer (some ⟨s_.2, 0, none⟩))]) (fun s_ w' => (w'.cell? (ad123.add (((ji22)).toNat * 4)) = some (.int .i64 ((rd_T36 l2 (ji22)).f0)) ∧ w'.cell? ⟨(ad123.add (((ji22)).toNat * 4)).block, (ad123.add (((ji22)).toNat * 4)).off + 1, none⟩ = some (.int .i64 ((rd_T36 l2 (ji22)).f1)) ∧ w'.cell? ⟨(ad123.add (((ji22)).toNat * 4)).block, (ad123.add (((ji22)).toNat * 4)).off + 2, none⟩ = some (.int .i64 ((rd_T36 l2 (ji22)).f2)) ∧ w'.cell? ⟨(ad123.add (((ji22)).toNat * 4)).block, (ad123.add (((ji22)).toNat * 4)).off + 3, none⟩ = some (.slice A123_3 ((rd_T36 l2 (ji22)).f3).length c123_3) ∧ w'.cell? (ad124.add (((ji25)).toNat * 4)) = some (.int .i64 ((rd_T36 l3 (ji25)).f0)) ∧ w'.cell? ⟨(ad124.add (((ji25)).toNat * 4)).block, (ad124.add (((ji25)).toNat * 4)).off + 1, none⟩ = some (.int .i64 ((rd_T36 l3 (ji25)).f1)) ∧ w'.cell? ⟨(ad124.add (((ji25)).toNat * 4)).block, (ad124.add (((ji25)).toNat * 4)).off + 2, none⟩ = some (.int .i64 ((rd_T36 l3 (ji25)).f2)) ∧ w'.cell? ⟨(ad124.add (((ji25)).toNat * 4)).block, (ad124.add (((ji25)).toNat * 4)).off + 3, none⟩ = some (.slice A124_3 ((rd_T36 l3 (ji25)).f3).length c124_3)) ∧ (w'.heap[s_.1]? = some (.cells #[.int .i64 0, .int .i64 0, .int .i64 0, .slice none 0 0] 36 (0, 0))) ∧ (w'.heap[s_.2]? = some (.cells #[.int .i64 0, .int .i64 0, .int .i64 0, .slice none 0 0] 36 (0, 0))) ∧ (w.heap.size ≤ s_.1) ∧ (w.heap.size ≤ s_.1) ∧ (s_.2 ≠ s_.1) ∧ (s_.1 ≠ s_.2) ∧ (w.heap.size ≤ s_.2) ∧ (w.heap.size ≤ s_.2) ∧ (Below w.heap.size w w')) ?_ ?_
            rotate_left
            ·intro hCont
             refine two_ (i := 16) (j := 17) (Ni := some 12) (Nj := some 13) (bm 20 131071) (bm 20 196607) rfl rfl rfl rfl (two_of HT_.out (by kernel_rfl)) (by decide) (by decide) (fun K hK => ?_) (fun K hK => ?_)
             ·skip
              refine box_step ?hg (N := 12) ?hd (cs := #[.int .i64 0, .int .i64 0, .int .i64 0, .slice none 0 0]) (t := 36) ?hr ?_; (case hd => rfl); (case hg => rfl); (case hr => first | (go_simp; done) | (go_simp; rfl))
              intro gb125 hg w50 hbox hb
              have n0_ := Aside0.mk (below_step (bAt HB.out) hb)
              have n1_ := Aside0.mk (hbox)
              have n2_ := Aside0.mk (gE (g := gb125) hg HB.out)
              have n3_ := Aside0.mk (gE (g := gb125) hg HB.out)
              clear HB
              have HB := n0_
              have BK125 := n1_
              have GW125 := n2_
              have GE125 := n3_
              clear n0_ n1_ n2_ n3_ hb hbox hg
              refine hK.out _ _ ⟨((HB.out.cell (World.block_lt_of_cell? w _ hw123_0)).trans hw123_0), ((HB.out.cell (World.block_lt_of_cell? w _ hw123_1)).trans hw123_1), ((HB.out.cell (World.block_lt_of_cell? w _ hw123_2)).trans hw123_2), ((HB.out.cell (World.block_lt_of_cell? w _ hw123_3)).trans hw123_3), ((HB.out.cell (World.block_lt_of_cell? w _ hw124_0)).trans hw124_0), ((HB.out.cell (World.block_lt_of_cell? w _ hw124_1)).trans hw124_1), ((HB.out.cell (World.block_lt_of_cell? w _ hw124_2)).trans hw124_2), ((HB.out.cell (World.block_lt_of_cell? w _ hw124_3)).trans hw124_3)⟩ (fun hHeld => ?_)
              clear hK K
              refine norm_ (a' := ?_) ?_ ?_
              rotate_left
              ·show Act.put _ (some 12) _ = _
               simp only [Act.put, List.setIfInBounds_toArray, List.set_cons_zero, List.set_cons_succ, i64_w, i32_w]
               rfl
              refine one_ (i := 17) (N := some 13) (bm 20 262143) rfl rfl (one_of HT_.out (by kernel_rfl)) (by decide) (fun K hK => ?_)
              refine box_step ?hg (N := 13) ?hd (cs := #[.int .i64 0, .int .i64 0, .int .i64 0, .slice none 0 0]) (t := 36) ?hr ?_; (case hd => rfl); (case hg => rfl); (case hr => first | (go_simp; done) | (go_simp; rfl))
              intro gb126 hg w51 hbox hb
              have n0_ := Aside0.mk (blk_below (g := gb125) (o := .cells #[.int .i64 0, .int .i64 0, .int .i64 0, .slice none 0 0] 36 (0, 0)) (kAt BK125.out) hb)
              have n1_ := Aside0.mk (below_step (bAt HB.out) hb)
              have n2_ := Aside0.mk (hbox)
              have n3_ := Aside0.mk (gE (g := gb126) hg HB.out)
              have n4_ := Aside0.mk (gE (g := gb126) hg HB.out)
              have n5_ := Aside0.mk ((by rw [hg]; exact Nat.ne_of_lt (blk_lt (g := gb125) (o := .cells #[.int .i64 0, .int .i64 0, .int .i64 0, .slice none 0 0] 36 (0, 0)) (kAt BK125.out)) : gb125 ≠ gb126))
              have n6_ := Aside0.mk ((by rw [hg]; exact Nat.ne_of_gt (blk_lt (g := gb125) (o := .cells #[.int .i64 0, .int .i64 0, .int .i64 0, .slice none 0 0] 36 (0, 0)) (kAt BK125.out)) : gb126 ≠ gb125))
              clear BK125 HB
              have BK125 := n0_
              have HB := n1_
              have BK126 := n2_
              have GW126 := n3_
              have GE126 := n4_
              have NB125_126 := n5_
              have NB126_125 := n6_
              clear n0_ n1_ n2_ n3_ n4_ n5_ n6_ hb hbox hg
              refine hK.out _ _ ⟨((HB.out.cell (World.block_lt_of_cell? w _ hw123_0)).trans hw123_0), ((HB.out.cell (World.block_lt_of_cell? w _ hw123_1)).trans hw123_1), ((HB.out.cell (World.block_lt_of_cell? w _ hw123_2)).trans hw123_2), ((HB.out.cell (World.block_lt_of_cell? w _ hw123_3)).trans hw123_3), ((HB.out.cell (World.block_lt_of_cell? w _ hw124_0)).trans hw124_0), ((HB.out.cell (World.block_lt_of_cell? w _ hw124_1)).trans hw124_1), ((HB.out.cell (World.block_lt_of_cell? w _ hw124_2)).trans hw124_2), ((HB.out.cell (World.block_lt_of_cell? w _ hw124_3)).trans hw124_3)⟩ (fun hHeld => ?_)
              clear hK K
              refine norm_ (a' := ?_) ?_ ?_
              rotate_left
              ·show Act.put _ (some 13) _ = _
               simp only [Act.put, List.setIfInBounds_toArray, List.set_cons_zero, List.set_cons_succ, i64_w, i32_w]
               rfl
              exact norm_ (by simp only [putAll, Act.put, List.setIfInBounds_toArray, List.set_cons_zero, List.set_cons_succ]) (hCont (gb125, gb126) _ ⟨hHeld, (kAt BK125.out), (kAt BK126.out), GW125.out, GE125.out, NB126_125.out, NB125_126.out, GW126.out, GE126.out, (bAt HB.out)⟩)
             ·skip
              refine box_step ?hg (N := 13) ?hd (cs := #[.int .i64 0, .int .i64 0, .int .i64 0, .slice none 0 0]) (t := 36) ?hr ?_; (case hd => rfl); (case hg => rfl); (case hr => first | (go_simp; done) | (go_simp; rfl))
              intro gb126 hg w50 hbox hb
              have n0_ := Aside0.mk (below_step (bAt HB.out) hb)
              have n1_ := Aside0.mk (hbox)
              have n2_ := Aside0.mk (gE (g := gb126) hg HB.out)
              have n3_ := Aside0.mk (gE (g := gb126) hg HB.out)
              clear HB
              have HB := n0_
              have BK126 := n1_
              have GW126 := n2_
              have GE126 := n3_
              clear n0_ n1_ n2_ n3_ hb hbox hg
              refine hK.out _ _ ⟨((HB.out.cell (World.block_lt_of_cell? w _ hw123_0)).trans hw123_0), ((HB.out.cell (World.block_lt_of_cell? w _ hw123_1)).trans hw123_1), ((HB.out.cell (World.block_lt_of_cell? w _ hw123_2)).trans hw123_2), ((HB.out.cell (World.block_lt_of_cell? w _ hw123_3)).trans hw123_3), ((HB.out.cell (World.block_lt_of_cell? w _ hw124_0)).trans hw124_0), ((HB.out.cell (World.block_lt_of_cell? w _ hw124_1)).trans hw124_1), ((HB.out.cell (World.block_lt_of_cell? w _ hw124_2)).trans hw124_2), ((HB.out.cell (World.block_lt_of_cell? w _ hw124_3)).trans hw124_3)⟩ (fun hHeld => ?_)
              clear hK K
              refine norm_ (a' := ?_) ?_ ?_
              rotate_left
              ·show Act.put _ (some 13) _ = _
               simp only [Act.put, List.setIfInBounds_toArray, List.set_cons_zero, List.set_cons_succ, i64_w, i32_w]
               rfl
              refine one_ (i := 16) (N := some 12) (bm 20 262143) rfl rfl (one_of HT_.out (by kernel_rfl)) (by decide) (fun K hK => ?_)
              refine box_step ?hg (N := 12) ?hd (cs := #[.int .i64 0, .int .i64 0, .int .i64 0, .slice none 0 0]) (t := 36) ?hr ?_; (case hd => rfl); (case hg => rfl); (case hr => first | (go_simp; done) | (go_simp; rfl))
              intro gb125 hg w51 hbox hb
              have n0_ := Aside0.mk (blk_below (g := gb126) (o := .cells #[.int .i64 0, .int .i64 0, .int .i64 0, .slice none 0 0] 36 (0, 0)) (kAt BK126.out) hb)
              have n1_ := Aside0.mk (below_step (bAt HB.out) hb)
              have n2_ := Aside0.mk (hbox)
              have n3_ := Aside0.mk (gE (g := gb125) hg HB.out)
              have n4_ := Aside0.mk (gE (g := gb125) hg HB.out)
              have n5_ := Aside0.mk ((by rw [hg]; exact Nat.ne_of_lt (blk_lt (g := gb126) (o := .cells #[.int .i64 0, .int .i64 0, .int .i64 0, .slice none 0 0] 36 (0, 0)) (kAt BK126.out)) : gb126 ≠ gb125))
              have n6_ := Aside0.mk ((by rw [hg]; exact Nat.ne_of_gt (blk_lt (g := gb126) (o := .cells #[.int .i64 0, .int .i64 0, .int .i64 0, .slice none 0 0] 36 (0, 0)) (kAt BK126.out)) : gb125 ≠ gb126))
              clear BK126 HB
              have BK126 := n0_
              have HB := n1_
              have BK125 := n2_
              have GW125 := n3_
              have GE125 := n4_
              have NB126_125 := n5_
              have NB125_126 := n6_
              clear n0_ n1_ n2_ n3_ n4_ n5_ n6_ hb hbox hg
              refine hK.out _ _ ⟨((HB.out.cell (World.block_lt_of_cell? w _ hw123_0)).trans hw123_0), ((HB.out.cell (World.block_lt_of_cell? w _ hw123_1)).trans hw123_1), ((HB.out.cell (World.block_lt_of_cell? w _ hw123_2)).trans hw123_2), ((HB.out.cell (World.block_lt_of_cell? w _ hw123_3)).trans hw123_3), ((HB.out.cell (World.block_lt_of_cell? w _ hw124_0)).trans hw124_0), ((HB.out.cell (World.block_lt_of_cell? w _ hw124_1)).trans hw124_1), ((HB.out.cell (World.block_lt_of_cell? w _ hw124_2)).trans hw124_2), ((HB.out.cell (World.block_lt_of_cell? w _ hw124_3)).trans hw124_3)⟩ (fun hHeld => ?_)
              clear hK K
              refine norm_ (a' := ?_) ?_ ?_
              rotate_left
              ·show Act.put _ (some 12) _ = _
               simp only [Act.put, List.setIfInBounds_toArray, List.set_cons_zero, List.set_cons_succ, i64_w, i32_w]
               rfl
              exact norm_ (by simp only [putAll, Act.put, List.setIfInBounds_toArray, List.set_cons_zero, List.set_cons_succ]) (hCont (gb125, gb126) _ ⟨hHeld, (kAt BK125.out), (kAt BK126.out), GW125.out, GE125.out, NB126_125.out, NB125_126.out, GW126.out, GE126.out, (bAt HB.out)⟩)
            rintro ⟨gb125, gb126⟩ w52 ⟨hS_, h0_, h1_, h2_, h3_, h4_, h5_, h6_, h7_, h8_⟩
            have n0_ : Aside0 (w52.heap[gb125]? = some (.cells #[.int .i64 0, .int .i64 0, .int .i64 0, .slice none 0 0] 36 (0, 0))) := ⟨h0_⟩
            have n1_ : Aside0 (w52.heap[gb126]? = some (.cells #[.int .i64 0, .int .i64 0, .int .i64 0, .slice none 0 0] 36 (0, 0))) := ⟨h1_⟩
            have n2_ : Aside0 (w.heap.size ≤ gb125) := ⟨h2_⟩
            have n3_ : Aside0 (w.heap.size ≤ gb125) := ⟨h3_⟩
            have n4_ : Aside0 (gb126 ≠ gb125) := ⟨h4_⟩
            have n5_ : Aside0 (gb125 ≠ gb126) := ⟨h5_⟩
            have n6_ : Aside0 (w.heap.size ≤ gb126) := ⟨h6_⟩
            have n7_ : Aside0 (w.heap.size ≤ gb126) := ⟨h7_⟩
            have n8_ : Aside0 (Below w.heap.size w w52) := ⟨h8_⟩
            clear HB h0_ h1_ h2_ h3_ h4_ h5_ h6_ h7_ h8_
            have BK125 := n0_
            have BK126 := n1_
            have GW125 := n2_
            have GE125 := n3_
            have NB126_125 := n4_
            have NB125_126 := n5_
            have GW126 := n6_
            have GE126 := n7_
            have HB := n8_
            clear n0_ n1_ n2_ n3_ n4_ n5_ n6_ n7_ n8_
            have hHeld : w52.cell? (ad123.add (((ji22)).toNat * 4)) = some (.int .i64 ((rd_T36 l2 (ji22)).f0)) ∧ w52.cell? ⟨(ad123.add (((ji22)).toNat * 4)).block, (ad123.add (((ji22)).toNat * 4)).off + 1, none⟩ = some (.int .i64 ((rd_T36 l2 (ji22)).f1)) ∧ w52.cell? ⟨(ad123.add (((ji22)).toNat * 4)).block, (ad123.add (((ji22)).toNat * 4)).off + 2, none⟩ = some (.int .i64 ((rd_T36 l2 (ji22)).f2)) ∧ w52.cell? ⟨(ad123.add (((ji22)).toNat * 4)).block, (ad123.add (((ji22)).toNat * 4)).off + 3, none⟩ = some (.slice A123_3 ((rd_T36 l2 (ji22)).f3).length c123_3) ∧ w52.cell? (ad124.add (((ji25)).toNat * 4)) = some (.int .i64 ((rd_T36 l3 (ji25)).f0)) ∧ w52.cell? ⟨(ad124.add (((ji25)).toNat * 4)).block, (ad124.add (((ji25)).toNat * 4)).off + 1, none⟩ = some (.int .i64 ((rd_T36 l3 (ji25)).f1)) ∧ w52.cell? ⟨(ad124.add (((ji25)).toNat * 4)).block, (ad124.add (((ji25)).toNat * 4)).off + 2, none⟩ = some (.int .i64 ((rd_T36 l3 (ji25)).f2)) ∧ w52.cell? ⟨(ad124.add (((ji25)).toNat * 4)).block, (ad124.add (((ji25)).toNat * 4)).off + 3, none⟩ = some (.slice A124_3 ((rd_T36 l3 (ji25)).f3).length c124_3) := hS_
            refine norm_ (a' := ?_) ?_ ?_
            rotate_left
            ·simp only [putAll, Act.put, List.setIfInBounds_toArray, List.set_cons_zero, List.set_cons_succ]
             rfl
            refine one_ (i := 18) (N := none) (bm 20 524287) rfl rfl (one_of HT_.out (by kernel_rfl)) (by decide) (fun K hK => ?_)
            have hs53 : w52.cell? ⟨gb125, 0, none⟩ = some (.int .i64 0) := (blk_cell BK125.out 0).trans rfl
            have hfs53 := blk_frozen BK125.out 0
            have hns53_1 := NB126_125.out
            have hms53_1 := NB125_126.out
            have hs54 : w52.cell? ⟨gb125, 1, none⟩ = some (.int .i64 0) := (blk_cell BK125.out 1).trans rfl
            have hfs54 := blk_frozen BK125.out 1
            have hns54_1 := NB126_125.out
            have hms54_1 := NB125_126.out
            have hs55 : w52.cell? ⟨gb125, 2, none⟩ = some (.int .i64 0) := (blk_cell BK125.out 2).trans rfl
            have hfs55 := blk_frozen BK125.out 2
            have hns55_1 := NB126_125.out
            have hms55_1 := NB125_126.out
            have hs56 : w52.cell? ⟨gb125, 3, none⟩ = some (.slice none 0 0) := (blk_cell BK125.out 3).trans rfl
            have hfs56 := blk_frozen BK125.out 3
            have hns56_1 := NB126_125.out
            have hms56_1 := NB125_126.out
            refine skip_ (w1 := ?_) (by rfl) rfl ?_ ?_
            rotate_left
            ·go_simp
             rfl
            refine hK.out _ _ ⟨((cell_far (p := ⟨gb125, _, none⟩) (by first | exact Nat.ne_of_lt (Nat.lt_of_lt_of_le (by have := World.block_lt_of_cell? _ _ hw123_0; first | rwa [add_block] at this | exact this) GW125.out) | (rw [add_block]; exact Nat.ne_of_lt (Nat.lt_of_lt_of_le (by have := World.block_lt_of_cell? _ _ hw123_0; first | rwa [add_block] at this | exact this) GW125.out)) | (show (Addr.add _ _).block ≠ _; rw [add_block]; exact Nat.ne_of_lt (Nat.lt_of_lt_of_le (by have := World.block_lt_of_cell? _ _ hw123_0; first | rwa [add_block] at this | exact this) GW125.out)) | (dsimp only; exact Nat.ne_of_lt (Nat.lt_of_lt_of_le (by have := World.block_lt_of_cell? _ _ hw123_0; first | rwa [add_block] at this | exact this) GW125.out))) _).trans (((cell_far (p := ⟨gb125, _, none⟩) (by first | exact Nat.ne_of_lt (Nat.lt_of_lt_of_le (by have := World.block_lt_of_cell? _ _ hw123_0; first | rwa [add_block] at this | exact this) GW125.out) | (rw [add_block]; exact Nat.ne_of_lt (Nat.lt_of_lt_of_le (by have := World.block_lt_of_cell? _ _ hw123_0; first | rwa [add_block] at this | exact this) GW125.out)) | (show (Addr.add _ _).block ≠ _; rw [add_block]; exact Nat.ne_of_lt (Nat.lt_of_lt_of_le (by have := World.block_lt_of_cell? _ _ hw123_0; first | rwa [add_block] at this | exact this) GW125.out)) | (dsimp only; exact Nat.ne_of_lt (Nat.lt_of_lt_of_le (by have := World.block_lt_of_cell? _ _ hw123_0; first | rwa [add_block] at this | exact this) GW125.out))) _).trans (((cell_far (p := ⟨gb125, _, none⟩) (by first | exact Nat.ne_of_lt (Nat.lt_of_lt_of_le (by have := World.block_lt_of_cell? _ _ hw123_0; first | rwa [add_block] at this | exact this) GW125.out) | (rw [add_block]; exact Nat.ne_of_lt (Nat.lt_of_lt_of_le (by have := World.block_lt_of_cell? _ _ hw123_0; first | rwa [add_block] at this | exact this) GW125.out)) | (show (Addr.add _ _).block ≠ _; rw [add_block]; exact Nat.ne_of_lt (Nat.lt_of_lt_of_le (by have := World.block_lt_of_cell? _ _ hw123_0; first | rwa [add_block] at this | exact this) GW125.out)) | (dsimp only; exact Nat.ne_of_lt (Nat.lt_of_lt_of_le (by have := World.block_lt_of_cell? _ _ hw123_0; first | rwa [add_block] at this | exact this) GW125.out))) _).trans (((cell_far (p := ⟨gb125, _, none⟩) (by first | exact Nat.ne_of_lt (Nat.lt_of_lt_of_le (by have := World.block_lt_of_cell? _ _ hw123_0; first | rwa [add_block] at this | exact this) GW125.out) | (rw [add_block]; exact Nat.ne_of_lt (Nat.lt_of_lt_of_le (by have := World.block_lt_of_cell? _ _ hw123_0; first | rwa [add_block] at this | exact this) GW125.out)) | (show (Addr.add _ _).block ≠ _; rw [add_block]; exact Nat.ne_of_lt (Nat.lt_of_lt_of_le (by have := World.block_lt_of_cell? _ _ hw123_0; first | rwa [add_block] at this | exact this) GW125.out)) | (dsimp only; exact Nat.ne_of_lt (Nat.lt_of_lt_of_le (by have := World.block_lt_of_cell? _ _ hw123_0; first | rwa [add_block] at this | exact this) GW125.out))) _).trans (hHeld.1)))))))), ((cell_far (p := ⟨gb125, _, none⟩) (by first | exact Nat.ne_of_lt (Nat.lt_of_lt_of_le (by have := World.block_lt_of_cell? _ _ hw123_1; first | rwa [add_block] at this | exact this) GW125.out) | (rw [add_block]; exact Nat.ne_of_lt (Nat.lt_of_lt_of_le (by have := World.block_lt_of_cell? _ _ hw123_1; first | rwa [add_block] at this | exact this) GW125.out)) | (show (Addr.add _ _).block ≠ _; rw [add_block]; exact Nat.ne_of_lt (Nat.lt_of_lt_of_le (by have := World.block_lt_of_cell? _ _ hw123_1; first | rwa [add_block] at this | exact this) GW125.out)) | (dsimp only; exact Nat.ne_of_lt (Nat.lt_of_lt_of_le (by have := World.block_lt_of_cell? _ _ hw123_1; first | rwa [add_block] at this | exact this) GW125.out))) _).trans (((cell_far (p := ⟨gb125, _, none⟩) (by first | exact Nat.ne_of_lt (Nat.lt_of_lt_of_le (by have := World.block_lt_of_cell? _ _ hw123_1; first | rwa [add_block] at this | exact this) GW125.out) | (rw [add_block]; exact Nat.ne_of_lt (Nat.lt_of_lt_of_le (by have := World.block_lt_of_cell? _ _ hw123_1; first | rwa [add_block] at this | exact this) GW125.out)) | (show (Addr.add _ _).block ≠ _; rw [add_block]; exact Nat.ne_of_lt (Nat.lt_of_lt_of_le (by have := World.block_lt_of_cell? _ _ hw123_1; first | rwa [add_block] at this | exact this) GW125.out)) | (dsimp only; exact Nat.ne_of_lt (Nat.lt_of_lt_of_le (by have := World.block_lt_of_cell? _ _ hw123_1; first | rwa [add_block] at this | exact this) GW125.out))) _).trans (((cell_far (p := ⟨gb125, _, none⟩) (by first | exact Nat.ne_of_lt (Nat.lt_of_lt_of_le (by have := World.block_lt_of_cell? _ _ hw123_1; first | rwa [add_block] at this | exact this) GW125.out) | (rw [add_block]; exact Nat.ne_of_lt (Nat.lt_of_lt_of_le (by have := World.block_lt_of_cell? _ _ hw123_1; first | rwa [add_block] at this | exact this) GW125.out)) | (show (Addr.add _ _).block ≠ _; rw [add_block]; exact Nat.ne_of_lt (Nat.lt_of_lt_of_le (by have := World.block_lt_of_cell? _ _ hw123_1; first | rwa [add_block] at this | exact this) GW125.out)) | (dsimp only; exact Nat.ne_of_lt (Nat.lt_of_lt_of_le (by have := World.block_lt_of_cell? _ _ hw123_1; first | rwa [add_block] at this | exact this) GW125.out))) _).trans (((cell_far (p := ⟨gb125, _, none⟩) (by first | exact Nat.ne_of_lt (Nat.lt_of_lt_of_le (by have := World.block_lt_of_cell? _ _ hw123_1; first | rwa [add_block] at this | exact this) GW125.out) | (rw [add_block]; exact Nat.ne_of_lt (Nat.lt_of_lt_of_le (by have := World.block_lt_of_cell? _ _ hw123_1; first | rwa [add_block] at this | exact this) GW125.out)) | (show (Addr.add _ _).block ≠ _; rw [add_block]; exact Nat.ne_of_lt (Nat.lt_of_lt_of_le (by have := World.block_lt_of_cell? _ _ hw123_1; first | rwa [add_block] at this | exact this) GW125.out)) | (dsimp only; exact Nat.ne_of_lt (Nat.lt_of_lt_of_le (by have := World.block_lt_of_cell? _ _ hw123_1; first | rwa [add_block] at this | exact this) GW125.out))) _).trans (hHeld.2.1)))))))), ((cell_far (p := ⟨gb125, _, none⟩) (by first | exact Nat.ne_of_lt (Nat.lt_of_lt_of_le (by have := World.block_lt_of_cell? _ _ hw123_2; first | rwa [add_block] at this | exact this) GW125.out) | (rw [add_block]; exact Nat.ne_of_lt (Nat.lt_of_lt_of_le (by have := World.block_lt_of_cell? _ _ hw123_2; first | rwa [add_block] at this | exact this) GW125.out)) | (show (Addr.add _ _).block ≠ _; rw [add_block]; exact Nat.ne_of_lt (Nat.lt_of_lt_of_le (by have := World.block_lt_of_cell? _ _ hw123_2; first | rwa [add_block] at this | exact this) GW125.out)) | (dsimp only; exact Nat.ne_of_lt (Nat.lt_of_lt_of_le (by have := World.block_lt_of_cell? _ _ hw123_2; first | rwa [add_block] at this | exact this) GW125.out))) _).trans (((cell_far (p := ⟨gb125, _, none⟩) (by first | exact Nat.ne_of_lt (Nat.lt_of_lt_of_le (by have := World.block_lt_of_cell? _ _ hw123_2; first | rwa [add_block] at this | exact this) GW125.out) | (rw [add_block]; exact Nat.ne_of_lt (Nat.lt_of_lt_of_le (by have := World.block_lt_of_cell? _ _ hw123_2; first | rwa [add_block] at this | exact this) GW125.out)) | (show (Addr.add _ _).block ≠ _; rw [add_block]; exact Nat.ne_of_lt (Nat.lt_of_lt_of_le (by have := World.block_lt_of_cell? _ _ hw123_2; first | rwa [add_block] at this | exact this) GW125.out)) | (dsimp only; exact Nat.ne_of_lt (Nat.lt_of_lt_of_le (by have := World.block_lt_of_cell? _ _ hw123_2; first | rwa [add_block] at this | exact this) GW125.out))) _).trans (((cell_far (p := ⟨gb125, _, none⟩) (by first | exact Nat.ne_of_lt (Nat.lt_of_lt_of_le (by have := World.block_lt_of_cell? _ _ hw123_2; first | rwa [add_block] at this | exact this) GW125.out) | (rw [add_block]; exact Nat.ne_of_lt (Nat.lt_of_lt_of_le (by have := World.block_lt_of_cell? _ _ hw123_2; first | rwa [add_block] at this | exact this) GW125.out)) | (show (Addr.add _ _).block ≠ _; rw [add_block]; exact Nat.ne_of_lt (Nat.lt_of_lt_of_le (by have := World.block_lt_of_cell? _ _ hw123_2; first | rwa [add_block] at this | exact this) GW125.out)) | (dsimp only; exact Nat.ne_of_lt (Nat.lt_of_lt_of_le (by have := World.block_lt_of_cell? _ _ hw123_2; first | rwa [add_block] at this | exact this) GW125.out))) _).trans (((cell_far (p := ⟨gb125, _, none⟩) (by first | exact Nat.ne_of_lt (Nat.lt_of_lt_of_le (by have := World.block_lt_of_cell? _ _ hw123_2; first | rwa [add_block] at this | exact this) GW125.out) | (rw [add_block]; exact Nat.ne_of_lt (Nat.lt_of_lt_of_le (by have := World.block_lt_of_cell? _ _ hw123_2; first | rwa [add_block] at this | exact this) GW125.out)) | (show (Addr.add _ _).block ≠ _; rw [add_block]; exact Nat.ne_of_lt (Nat.lt_of_lt_of_le (by have := World.block_lt_of_cell? _ _ hw123_2; first | rwa [add_block] at this | exact this) GW125.out)) | (dsimp only; exact Nat.ne_of_lt (Nat.lt_of_lt_of_le (by have := World.block_lt_of_cell? _ _ hw123_2; first | rwa [add_block] at this | exact this) GW125.out))) _).trans (hHeld.2.2.1)))))))), ((cell_far (p := ⟨gb125, _, none⟩) (by first | exact Nat.ne_of_lt (Nat.lt_of_lt_of_le (by have := World.block_lt_of_cell? _ _ hw123_3; first | rwa [add_block] at this | exact this) GW125.out) | (rw [add_block]; exact Nat.ne_of_lt (Nat.lt_of_lt_of_le (by have := World.block_lt_of_cell? _ _ hw123_3; first | rwa [add_block] at this | exact this) GW125.out)) | (show (Addr.add _ _).block ≠ _; rw [add_block]; exact Nat.ne_of_lt (Nat.lt_of_lt_of_le (by have := World.block_lt_of_cell? _ _ hw123_3; first | rwa [add_block] at this | exact this) GW125.out)) | (dsimp only; exact Nat.ne_of_lt (Nat.lt_of_lt_of_le (by have := World.block_lt_of_cell? _ _ hw123_3; first | rwa [add_block] at this | exact this) GW125.out))) _).trans (((cell_far (p := ⟨gb125, _, none⟩) (by first | exact Nat.ne_of_lt (Nat.lt_of_lt_of_le (by have := World.block_lt_of_cell? _ _ hw123_3; first | rwa [add_block] at this | exact this) GW125.out) | (rw [add_block]; exact Nat.ne_of_lt (Nat.lt_of_lt_of_le (by have := World.block_lt_of_cell? _ _ hw123_3; first | rwa [add_block] at this | exact this) GW125.out)) | (show (Addr.add _ _).block ≠ _; rw [add_block]; exact Nat.ne_of_lt (Nat.lt_of_lt_of_le (by have := World.block_lt_of_cell? _ _ hw123_3; first | rwa [add_block] at this | exact this) GW125.out)) | (dsimp only; exact Nat.ne_of_lt (Nat.lt_of_lt_of_le (by have := World.block_lt_of_cell? _ _ hw123_3; first | rwa [add_block] at this | exact this) GW125.out))) _).trans (((cell_far (p := ⟨gb125, _, none⟩) (by first | exact Nat.ne_of_lt (Nat.lt_of_lt_of_le (by have := World.block_lt_of_cell? _ _ hw123_3; first | rwa [add_block] at this | exact this) GW125.out) | (rw [add_block]; exact Nat.ne_of_lt (Nat.lt_of_lt_of_le (by have := World.block_lt_of_cell? _ _ hw123_3; first | rwa [add_block] at this | exact this) GW125.out)) | (show (Addr.add _ _).block ≠ _; rw [add_block]; exact Nat.ne_of_lt (Nat.lt_of_lt_of_le (by have := World.block_lt_of_cell? _ _ hw123_3; first | rwa [add_block] at this | exact this) GW125.out)) | (dsimp only; exact Nat.ne_of_lt (Nat.lt_of_lt_of_le (by have := World.block_lt_of_cell? _ _ hw123_3; first | rwa [add_block] at this | exact this) GW125.out))) _).trans (((cell_far (p := ⟨gb125, _, none⟩) (by first | exact Nat.ne_of_lt (Nat.lt_of_lt_of_le (by have := World.block_lt_of_cell? _ _ hw123_3; first | rwa [add_block] at this | exact this) GW125.out) | (rw [add_block]; exact Nat.ne_of_lt (Nat.lt_of_lt_of_le (by have := World.block_lt_of_cell? _ _ hw123_3; first | rwa [add_block] at this | exact this) GW125.out)) | (show (Addr.add _ _).block ≠ _; rw [add_block]; exact Nat.ne_of_lt (Nat.lt_of_lt_of_le (by have := World.block_lt_of_cell? _ _ hw123_3; first | rwa [add_block] at this | exact this) GW125.out)) | (dsimp only; exact Nat.ne_of_lt (Nat.lt_of_lt_of_le (by have := World.block_lt_of_cell? _ _ hw123_3; first | rwa [add_block] at this | exact this) GW125.out))) _).trans (hHeld.2.2.2.1)))))))), ((cell_far (p := ⟨gb125, _, none⟩) (by first | exact Nat.ne_of_lt (Nat.lt_of_lt_of_le (by have := World.block_lt_of_cell? _ _ hw124_0; first | rwa [add_block] at this | exact this) GW125.out) | (rw [add_block]; exact Nat.ne_of_lt (Nat.lt_of_lt_of_le (by have := World.block_lt_of_cell? _ _ hw124_0; first | rwa [add_block] at this | exact this) GW125.out)) | (show (Addr.add _ _).block ≠ _; rw [add_block]; exact Nat.ne_of_lt (Nat.lt_of_lt_of_le (by have := World.block_lt_of_cell? _ _ hw124_0; first | rwa [add_block] at this | exact this) GW125.out)) | (dsimp only; exact Nat.ne_of_lt (Nat.lt_of_lt_of_le (by have := World.block_lt_of_cell? _ _ hw124_0; first | rwa [add_block] at this | exact this) GW125.out))) _).trans (((cell_far (p := ⟨gb125, _, none⟩) (by first | exact Nat.ne_of_lt (Nat.lt_of_lt_of_le (by have := World.block_lt_of_cell? _ _ hw124_0; first | rwa [add_block] at this | exact this) GW125.out) | (rw [add_block]; exact Nat.ne_of_lt (Nat.lt_of_lt_of_le (by have := World.block_lt_of_cell? _ _ hw124_0; first | rwa [add_block] at this | exact this) GW125.out)) | (show (Addr.add _ _).block ≠ _; rw [add_block]; exact Nat.ne_of_lt (Nat.lt_of_lt_of_le (by have := World.block_lt_of_cell? _ _ hw124_0; first | rwa [add_block] at this | exact this) GW125.out)) | (dsimp only; exact Nat.ne_of_lt (Nat.lt_of_lt_of_le (by have := World.block_lt_of_cell? _ _ hw124_0; first | rwa [add_block] at this | exact this) GW125.out))) _).trans (((cell_far (p := ⟨gb125, _, none⟩) (by first | exact Nat.ne_of_lt (Nat.lt_of_lt_of_le (by have := World.block_lt_of_cell? _ _ hw124_0; first | rwa [add_block] at this | exact this) GW125.out) | (rw [add_block]; exact Nat.ne_of_lt (Nat.lt_of_lt_of_le (by have := World.block_lt_of_cell? _ _ hw124_0; first | rwa [add_block] at this | exact this) GW125.out)) | (show (Addr.add _ _).block ≠ _; rw [add_block]; exact Nat.ne_of_lt (Nat.lt_of_lt_of_le (by have := World.block_lt_of_cell? _ _ hw124_0; first | rwa [add_block] at this | exact this) GW125.out)) | (dsimp only; exact Nat.ne_of_lt (Nat.lt_of_lt_of_le (by have := World.block_lt_of_cell? _ _ hw124_0; first | rwa [add_block] at this | exact this) GW125.out))) _).trans (((cell_far (p := ⟨gb125, _, none⟩) (by first | exact Nat.ne_of_lt (Nat.lt_of_lt_of_le (by have := World.block_lt_of_cell? _ _ hw124_0; first | rwa [add_block] at this | exact this) GW125.out) | (rw [add_block]; exact Nat.ne_of_lt (Nat.lt_of_lt_of_le (by have := World.block_lt_of_cell? _ _ hw124_0; first | rwa [add_block] at this | exact this) GW125.out)) | (show (Addr.add _ _).block ≠ _; rw [add_block]; exact Nat.ne_of_lt (Nat.lt_of_lt_of_le (by have := World.block_lt_of_cell? _ _ hw124_0; first | rwa [add_block] at this | exact this) GW125.out)) | (dsimp only; exact Nat.ne_of_lt (Nat.lt_of_lt_of_le (by have := World.block_lt_of_cell? _ _ hw124_0; first | rwa [add_block] at this | exact this) GW125.out))) _).trans (hHeld.2.2.2.2.1)))))))), ((cell_far (p := ⟨gb125, _, none⟩) (by first | exact Nat.ne_of_lt (Nat.lt_of_lt_of_le (by have := World.block_lt_of_cell? _ _ hw124_1; first | rwa [add_block] at this | exact this) GW125.out) | (rw [add_block]; exact Nat.ne_of_lt (Nat.lt_of_lt_of_le (by have := World.block_lt_of_cell? _ _ hw124_1; first | rwa [add_block] at this | exact this) GW125.out)) | (show (Addr.add _ _).block ≠ _; rw [add_block]; exact Nat.ne_of_lt (Nat.lt_of_lt_of_le (by have := World.block_lt_of_cell? _ _ hw124_1; first | rwa [add_block] at this | exact this) GW125.out)) | (dsimp only; exact Nat.ne_of_lt (Nat.lt_of_lt_of_le (by have := World.block_lt_of_cell? _ _ hw124_1; first | rwa [add_block] at this | exact this) GW125.out))) _).trans (((cell_far (p := ⟨gb125, _, none⟩) (by first | exact Nat.ne_of_lt (Nat.lt_of_lt_of_le (by have := World.block_lt_of_cell? _ _ hw124_1; first | rwa [add_block] at this | exact this) GW125.out) | (rw [add_block]; exact Nat.ne_of_lt (Nat.lt_of_lt_of_le (by have := World.block_lt_of_cell? _ _ hw124_1; first | rwa [add_block] at this | exact this) GW125.out)) | (show (Addr.add _ _).block ≠ _; rw [add_block]; exact Nat.ne_of_lt (Nat.lt_of_lt_of_le (by have := World.block_lt_of_cell? _ _ hw124_1; first | rwa [add_block] at this | exact this) GW125.out)) | (dsimp only; exact Nat.ne_of_lt (Nat.lt_of_lt_of_le (by have := World.block_lt_of_cell? _ _ hw124_1; first | rwa [add_block] at this | exact this) GW125.out))) _).trans (((cell_far (p := ⟨gb125, _, none⟩) (by first | exact Nat.ne_of_lt (Nat.lt_of_lt_of_le (by have := World.block_lt_of_cell? _ _ hw124_1; first | rwa [add_block] at this | exact this) GW125.out) | (rw [add_block]; exact Nat.ne_of_lt (Nat.lt_of_lt_of_le (by have := World.block_lt_of_cell? _ _ hw124_1; first | rwa [add_block] at this | exact this) GW125.out)) | (show (Addr.add _ _).block ≠ _; rw [add_block]; exact Nat.ne_of_lt (Nat.lt_of_lt_of_le (by have := World.block_lt_of_cell? _ _ hw124_1; first | rwa [add_block] at this | exact this) GW125.out)) | (dsimp only; exact Nat.ne_of_lt (Nat.lt_of_lt_of_le (by have := World.block_lt_of_cell? _ _ hw124_1; first | rwa [add_block] at this | exact this) GW125.out))) _).trans (((cell_far (p := ⟨gb125, _, none⟩) (by first | exact Nat.ne_of_lt (Nat.lt_of_lt_of_le (by have := World.block_lt_of_cell? _ _ hw124_1; first | rwa [add_block] at this | exact this) GW125.out) | (rw [add_block]; exact Nat.ne_of_lt (Nat.lt_of_lt_of_le (by have := World.block_lt_of_cell? _ _ hw124_1; first | rwa [add_block] at this | exact this) GW125.out)) | (show (Addr.add _ _).block ≠ _; rw [add_block]; exact Nat.ne_of_lt (Nat.lt_of_lt_of_le (by have := World.block_lt_of_cell? _ _ hw124_1; first | rwa [add_block] at this | exact this) GW125.out)) | (dsimp only; exact Nat.ne_of_lt (Nat.lt_of_lt_of_le (by have := World.block_lt_of_cell? _ _ hw124_1; first | rwa [add_block] at this | exact this) GW125.out))) _).trans (hHeld.2.2.2.2.2.1)))))))), ((cell_far (p := ⟨gb125, _, none⟩) (by first | exact Nat.ne_of_lt (Nat.lt_of_lt_of_le (by have := World.block_lt_of_cell? _ _ hw124_2; first | rwa [add_block] at this | exact this) GW125.out) | (rw [add_block]; exact Nat.ne_of_lt (Nat.lt_of_lt_of_le (by have := World.block_lt_of_cell? _ _ hw124_2; first | rwa [add_block] at this | exact this) GW125.out)) | (show (Addr.add _ _).block ≠ _; rw [add_block]; exact Nat.ne_of_lt (Nat.lt_of_lt_of_le (by have := World.block_lt_of_cell? _ _ hw124_2; first | rwa [add_block] at this | exact this) GW125.out)) | (dsimp only; exact Nat.ne_of_lt (Nat.lt_of_lt_of_le (by have := World.block_lt_of_cell? _ _ hw124_2; first | rwa [add_block] at this | exact this) GW125.out))) _).trans (((cell_far (p := ⟨gb125, _, none⟩) (by first | exact Nat.ne_of_lt (Nat.lt_of_lt_of_le (by have := World.block_lt_of_cell? _ _ hw124_2; first | rwa [add_block] at this | exact this) GW125.out) | (rw [add_block]; exact Nat.ne_of_lt (Nat.lt_of_lt_of_le (by have := World.block_lt_of_cell? _ _ hw124_2; first | rwa [add_block] at this | exact this) GW125.out)) | (show (Addr.add _ _).block ≠ _; rw [add_block]; exact Nat.ne_of_lt (Nat.lt_of_lt_of_le (by have := World.block_lt_of_cell? _ _ hw124_2; first | rwa [add_block] at this | exact this) GW125.out)) | (dsimp only; exact Nat.ne_of_lt (Nat.lt_of_lt_of_le (by have := World.block_lt_of_cell? _ _ hw124_2; first | rwa [add_block] at this | exact this) GW125.out))) _).trans (((cell_far (p := ⟨gb125, _, none⟩) (by first | exact Nat.ne_of_lt (Nat.lt_of_lt_of_le (by have := World.block_lt_of_cell? _ _ hw124_2; first | rwa [add_block] at this | exact this) GW125.out) | (rw [add_block]; exact Nat.ne_of_lt (Nat.lt_of_lt_of_le (by have := World.block_lt_of_cell? _ _ hw124_2; first | rwa [add_block] at this | exact this) GW125.out)) | (show (Addr.add _ _).block ≠ _; rw [add_block]; exact Nat.ne_of_lt (Nat.lt_of_lt_of_le (by have := World.block_lt_of_cell? _ _ hw124_2; first | rwa [add_block] at this | exact this) GW125.out)) | (dsimp only; exact Nat.ne_of_lt (Nat.lt_of_lt_of_le (by have := World.block_lt_of_cell? _ _ hw124_2; first | rwa [add_block] at this | exact this) GW125.out))) _).trans (((cell_far (p := ⟨gb125, _, none⟩) (by first | exact Nat.ne_of_lt (Nat.lt_of_lt_of_le (by have := World.block_lt_of_cell? _ _ hw124_2; first | rwa [add_block] at this | exact this) GW125.out) | (rw [add_block]; exact Nat.ne_of_lt (Nat.lt_of_lt_of_le (by have := World.block_lt_of_cell? _ _ hw124_2; first | rwa [add_block] at this | exact this) GW125.out)) | (show (Addr.add _ _).block ≠ _; rw [add_block]; exact Nat.ne_of_lt (Nat.lt_of_lt_of_le (by have := World.block_lt_of_cell? _ _ hw124_2; first | rwa [add_block] at this | exact this) GW125.out)) | (dsimp only; exact Nat.ne_of_lt (Nat.lt_of_lt_of_le (by have := World.block_lt_of_cell? _ _ hw124_2; first | rwa [add_block] at this | exact this) GW125.out))) _).trans (hHeld.2.2.2.2.2.2.1)))))))), ((cell_far (p := ⟨gb125, _, none⟩) (by first | exact Nat.ne_of_lt (Nat.lt_of_lt_of_le (by have := World.block_lt_of_cell? _ _ hw124_3; first | rwa [add_block] at this | exact this) GW125.out) | (rw [add_block]; exact Nat.ne_of_lt (Nat.lt_of_lt_of_le (by have := World.block_lt_of_cell? _ _ hw124_3; first | rwa [add_block] at this | exact this) GW125.out)) | (show (Addr.add _ _).block ≠ _; rw [add_block]; exact Nat.ne_of_lt (Nat.lt_of_lt_of_le (by have := World.block_lt_of_cell? _ _ hw124_3; first | rwa [add_block] at this | exact this) GW125.out)) | (dsimp only; exact Nat.ne_of_lt (Nat.lt_of_lt_of_le (by have := World.block_lt_of_cell? _ _ hw124_3; first | rwa [add_block] at this | exact this) GW125.out))) _).trans (((cell_far (p := ⟨gb125, _, none⟩) (by first | exact Nat.ne_of_lt (Nat.lt_of_lt_of_le (by have := World.block_lt_of_cell? _ _ hw124_3; first | rwa [add_block] at this | exact this) GW125.out) | (rw [add_block]; exact Nat.ne_of_lt (Nat.lt_of_lt_of_le (by have := World.block_lt_of_cell? _ _ hw124_3; first | rwa [add_block] at this | exact this) GW125.out)) | (show (Addr.add _ _).block ≠ _; rw [add_block]; exact Nat.ne_of_lt (Nat.lt_of_lt_of_le (by have := World.block_lt_of_cell? _ _ hw124_3; first | rwa [add_block] at this | exact this) GW125.out)) | (dsimp only; exact Nat.ne_of_lt (Nat.lt_of_lt_of_le (by have := World.block_lt_of_cell? _ _ hw124_3; first | rwa [add_block] at this | exact this) GW125.out))) _).trans (((cell_far (p := ⟨gb125, _, none⟩) (by first | exact Nat.ne_of_lt (Nat.lt_of_lt_of_le (by have := World.block_lt_of_cell? _ _ hw124_3; first | rwa [add_block] at this | exact this) GW125.out) | (rw [add_block]; exact Nat.ne_of_lt (Nat.lt_of_lt_of_le (by have := World.block_lt_of_cell? _ _ hw124_3; first | rwa [add_block] at this | exact this) GW125.out)) | (show (Addr.add _ _).block ≠ _; rw [add_block]; exact Nat.ne_of_lt (Nat.lt_of_lt_of_le (by have := World.block_lt_of_cell? _ _ hw124_3; first | rwa [add_block] at this | exact this) GW125.out)) | (dsimp only; exact Nat.ne_of_lt (Nat.lt_of_lt_of_le (by have := World.block_lt_of_cell? _ _ hw124_3; first | rwa [add_block] at this | exact this) GW125.out))) _).trans (((cell_far (p := ⟨gb125, _, none⟩) (by first | exact Nat.ne_of_lt (Nat.lt_of_lt_of_le (by have := World.block_lt_of_cell? _ _ hw124_3; first | rwa [add_block] at this | exact this) GW125.out) | (rw [add_block]; exact Nat.ne_of_lt (Nat.lt_of_lt_of_le (by have := World.block_lt_of_cell? _ _ hw124_3; first | rwa [add_block] at this | exact this) GW125.out)) | (show (Addr.add _ _).block ≠ _; rw [add_block]; exact Nat.ne_of_lt (Nat.lt_of_lt_of_le (by have := World.block_lt_of_cell? _ _ hw124_3; first | rwa [add_block] at this | exact this) GW125.out)) | (dsimp only; exact Nat.ne_of_lt (Nat.lt_of_lt_of_le (by have := World.block_lt_of_cell? _ _ hw124_3; first | rwa [add_block] at this | exact this) GW125.out))) _).trans (hHeld.2.2.2.2.2.2.2))))))))⟩ (fun hHeld => ?_)
            clear hK K
            refine one_ (i := 19) (N := none) (bm 20 1048575) rfl rfl (one_of HT_.out (by kernel_rfl)) (by decide) (fun K hK => ?_)
            have hs57 : w52.cell? ⟨gb126, 0, none⟩ = some (.int .i64 0) := (blk_cell BK126.out 0).trans rfl
            have hfs57 := blk_frozen BK126.out 0
            have hns57_0 := NB125_126.out
            have hms57_0 := NB126_125.out
            have hs58 : w52.cell? ⟨gb126, 1, none⟩ = some (.int .i64 0) := (blk_cell BK126.out 1).trans rfl
            have hfs58 := blk_frozen BK126.out 1
            have hns58_0 := NB125_126.out
            have hms58_0 := NB126_125.out
            have hs59 : w52.cell? ⟨gb126, 2, none⟩ = some (.int .i64 0) := (blk_cell BK126.out 2).trans rfl
            have hfs59 := blk_frozen BK126.out 2
            have hns59_0 := NB125_126.out
            have hms59_0 := NB126_125.out
            have hs60 : w52.cell? ⟨gb126, 3, none⟩ = some (.slice none 0 0) := (blk_cell BK126.out 3).trans rfl
            have hfs60 := blk_frozen BK126.out 3
            have hns60_0 := NB125_126.out
            have hms60_0 := NB126_125.out
            refine skip_ (w1 := ?_) (by rfl) rfl ?_ ?_
            rotate_left
            ·go_simp
             rfl
            refine hK.out _ _ ⟨((cell_far (p := ⟨gb126, _, none⟩) (by first | exact Nat.ne_of_lt (Nat.lt_of_lt_of_le (by have := World.block_lt_of_cell? _ _ hw123_0; first | rwa [add_block] at this | exact this) GW126.out) | (rw [add_block]; exact Nat.ne_of_lt (Nat.lt_of_lt_of_le (by have := World.block_lt_of_cell? _ _ hw123_0; first | rwa [add_block] at this | exact this) GW126.out)) | (show (Addr.add _ _).block ≠ _; rw [add_block]; exact Nat.ne_of_lt (Nat.lt_of_lt_of_le (by have := World.block_lt_of_cell? _ _ hw123_0; first | rwa [add_block] at this | exact this) GW126.out)) | (dsimp only; exact Nat.ne_of_lt (Nat.lt_of_lt_of_le (by have := World.block_lt_of_cell? _ _ hw123_0; first | rwa [add_block] at this | exact this) GW126.out))) _).trans (((cell_far (p := ⟨gb126, _, none⟩) (by first | exact Nat.ne_of_lt (Nat.lt_of_lt_of_le (by have := World.block_lt_of_cell? _ _ hw123_0; first | rwa [add_block] at this | exact this) GW126.out) | (rw [add_block]; exact Nat.ne_of_lt (Nat.lt_of_lt_of_le (by have := World.block_lt_of_cell? _ _ hw123_0; first | rwa [add_block] at this | exact this) GW126.out)) | (show (Addr.add _ _).block ≠ _; rw [add_block]; exact Nat.ne_of_lt (Nat.lt_of_lt_of_le (by have := World.block_lt_of_cell? _ _ hw123_0; first | rwa [add_block] at this | exact this) GW126.out)) | (dsimp only; exact Nat.ne_of_lt (Nat.lt_of_lt_of_le (by have := World.block_lt_of_cell? _ _ hw123_0; first | rwa [add_block] at this | exact this) GW126.out))) _).trans (((cell_far (p := ⟨gb126, _, none⟩) (by first | exact Nat.ne_of_lt (Nat.lt_of_lt_of_le (by have := World.block_lt_of_cell? _ _ hw123_0; first | rwa [add_block] at this | exact this) GW126.out) | (rw [add_block]; exact Nat.ne_of_lt (Nat.lt_of_lt_of_le (by have := World.block_lt_of_cell? _ _ hw123_0; first | rwa [add_block] at this | exact this) GW126.out)) | (show (Addr.add _ _).block ≠ _; rw [add_block]; exact Nat.ne_of_lt (Nat.lt_of_lt_of_le (by have := World.block_lt_of_cell? _ _ hw123_0; first | rwa [add_block] at this | exact this) GW126.out)) | (dsimp only; exact Nat.ne_of_lt (Nat.lt_of_lt_of_le (by have := World.block_lt_of_cell? _ _ hw123_0; first | rwa [add_block] at this | exact this) GW126.out))) _).trans (((cell_far (p := ⟨gb126, _, none⟩) (by first | exact Nat.ne_of_lt (Nat.lt_of_lt_of_le (by have := World.block_lt_of_cell? _ _ hw123_0; first | rwa [add_block] at this | exact this) GW126.out) | (rw [add_block]; exact Nat.ne_of_lt (Nat.lt_of_lt_of_le (by have := World.block_lt_of_cell? _ _ hw123_0; first | rwa [add_block] at this | exact this) GW126.out)) | (show (Addr.add _ _).block ≠ _; rw [add_block]; exact Nat.ne_of_lt (Nat.lt_of_lt_of_le (by have := World.block_lt_of_cell? _ _ hw123_0; first | rwa [add_block] at this | exact this) GW126.out)) | (dsimp only; exact Nat.ne_of_lt (Nat.lt_of_lt_of_le (by have := World.block_lt_of_cell? _ _ hw123_0; first | rwa [add_block] at this | exact this) GW126.out))) _).trans (hHeld.1)))))))), ((cell_far (p := ⟨gb126, _, none⟩) (by first | exact Nat.ne_of_lt (Nat.lt_of_lt_of_le (by have := World.block_lt_of_cell? _ _ hw123_1; first | rwa [add_block] at this | exact this) GW126.out) | (rw [add_block]; exact Nat.ne_of_lt (Nat.lt_of_lt_of_le (by have := World.block_lt_of_cell? _ _ hw123_1; first | rwa [add_block] at this | exact this) GW126.out)) | (show (Addr.add _ _).block ≠ _; rw [add_block]; exact Nat.ne_of_lt (Nat.lt_of_lt_of_le (by have := World.block_lt_of_cell? _ _ hw123_1; first | rwa [add_block] at this | exact this) GW126.out)) | (dsimp only; exact Nat.ne_of_lt (Nat.lt_of_lt_of_le (by have := World.block_lt_of_cell? _ _ hw123_1; first | rwa [add_block] at this | exact this) GW126.out))) _).trans (((cell_far (p := ⟨gb126, _, none⟩) (by first | exact Nat.ne_of_lt (Nat.lt_of_lt_of_le (by have := World.block_lt_of_cell? _ _ hw123_1; first | rwa [add_block] at this | exact this) GW126.out) | (rw [add_block]; exact Nat.ne_of_lt (Nat.lt_of_lt_of_le (by have := World.block_lt_of_cell? _ _ hw123_1; first | rwa [add_block] at this | exact this) GW126.out)) | (show (Addr.add _ _).block ≠ _; rw [add_block]; exact Nat.ne_of_lt (Nat.lt_of_lt_of_le (by have := World.block_lt_of_cell? _ _ hw123_1; first | rwa [add_block] at this | exact this) GW126.out)) | (dsimp only; exact Nat.ne_of_lt (Nat.lt_of_lt_of_le (by have := World.block_lt_of_cell? _ _ hw123_1; first | rwa [add_block] at this | exact this) GW126.out))) _).trans (((cell_far (p := ⟨gb126, _, none⟩) (by first | exact Nat.ne_of_lt (Nat.lt_of_lt_of_le (by have := World.block_lt_of_cell? _ _ hw123_1; first | rwa [add_block] at this | exact this) GW126.out) | (rw [add_block]; exact Nat.ne_of_lt (Nat.lt_of_lt_of_le (by have := World.block_lt_of_cell? _ _ hw123_1; first | rwa [add_block] at this | exact this) GW126.out)) | (show (Addr.add _ _).block ≠ _; rw [add_block]; exact Nat.ne_of_lt (Nat.lt_of_lt_of_le (by have := World.block_lt_of_cell? _ _ hw123_1; first | rwa [add_block] at this | exact this) GW126.out)) | (dsimp only; exact Nat.ne_of_lt (Nat.lt_of_lt_of_le (by have := World.block_lt_of_cell? _ _ hw123_1; first | rwa [add_block] at this | exact this) GW126.out))) _).trans (((cell_far (p := ⟨gb126, _, none⟩) (by first | exact Nat.ne_of_lt (Nat.lt_of_lt_of_le (by have := World.block_lt_of_cell? _ _ hw123_1; first | rwa [add_block] at this | exact this) GW126.out) | (rw [add_block]; exact Nat.ne_of_lt (Nat.lt_of_lt_of_le (by have := World.block_lt_of_cell? _ _ hw123_1; first | rwa [add_block] at this | exact this) GW126.out)) | (show (Addr.add _ _).block ≠ _; rw [add_block]; exact Nat.ne_of_lt (Nat.lt_of_lt_of_le (by have := World.block_lt_of_cell? _ _ hw123_1; first | rwa [add_block] at this | exact this) GW126.out)) | (dsimp only; exact Nat.ne_of_lt (Nat.lt_of_lt_of_le (by have := World.block_lt_of_cell? _ _ hw123_1; first | rwa [add_block] at this | exact this) GW126.out))) _).trans (hHeld.2.1)))))))), ((cell_far (p := ⟨gb126, _, none⟩) (by first | exact Nat.ne_of_lt (Nat.lt_of_lt_of_le (by have := World.block_lt_of_cell? _ _ hw123_2; first | rwa [add_block] at this | exact this) GW126.out) | (rw [add_block]; exact Nat.ne_of_lt (Nat.lt_of_lt_of_le (by have := World.block_lt_of_cell? _ _ hw123_2; first | rwa [add_block] at this | exact this) GW126.out)) | (show (Addr.add _ _).block ≠ _; rw [add_block]; exact Nat.ne_of_lt (Nat.lt_of_lt_of_le (by have := World.block_lt_of_cell? _ _ hw123_2; first | rwa [add_block] at this | exact this) GW126.out)) | (dsimp only; exact Nat.ne_of_lt (Nat.lt_of_lt_of_le (by have := World.block_lt_of_cell? _ _ hw123_2; first | rwa [add_block] at this | exact this) GW126.out))) _).trans (((cell_far (p := ⟨gb126, _, none⟩) (by first | exact Nat.ne_of_lt (Nat.lt_of_lt_of_le (by have := World.block_lt_of_cell? _ _ hw123_2; first | rwa [add_block] at this | exact this) GW126.out) | (rw [add_block]; exact Nat.ne_of_lt (Nat.lt_of_lt_of_le (by have := World.block_lt_of_cell? _ _ hw123_2; first | rwa [add_block] at this | exact this) GW126.out)) | (show (Addr.add _ _).block ≠ _; rw [add_block]; exact Nat.ne_of_lt (Nat.lt_of_lt_of_le (by have := World.block_lt_of_cell? _ _ hw123_2; first | rwa [add_block] at this | exact this) GW126.out)) | (dsimp only; exact Nat.ne_of_lt (Nat.lt_of_lt_of_le (by have := World.block_lt_of_cell? _ _ hw123_2; first | rwa [add_block] at this | exact this) GW126.out))) _).trans (((cell_far (p := ⟨gb126, _, none⟩) (by first | exact Nat.ne_of_lt (Nat.lt_of_lt_of_le (by have := World.block_lt_of_cell? _ _ hw123_2; first | rwa [add_block] at this | exact this) GW126.out) | (rw [add_block]; exact Nat.ne_of_lt (Nat.lt_of_lt_of_le (by have := World.block_lt_of_cell? _ _ hw123_2; first | rwa [add_block] at this | exact this) GW126.out)) | (show (Addr.add _ _).block ≠ _; rw [add_block]; exact Nat.ne_of_lt (Nat.lt_of_lt_of_le (by have := World.block_lt_of_cell? _ _ hw123_2; first | rwa [add_block] at this | exact this) GW126.out)) | (dsimp only; exact Nat.ne_of_lt (Nat.lt_of_lt_of_le (by have := World.block_lt_of_cell? _ _ hw123_2; first | rwa [add_block] at this | exact this) GW126.out))) _).trans (((cell_far (p := ⟨gb126, _, none⟩) (by first | exact Nat.ne_of_lt (Nat.lt_of_lt_of_le (by have := World.block_lt_of_cell? _ _ hw123_2; first | rwa [add_block] at this | exact this) GW126.out) | (rw [add_block]; exact Nat.ne_of_lt (Nat.lt_of_lt_of_le (by have := World.block_lt_of_cell? _ _ hw123_2; first | rwa [add_block] at this | exact this) GW126.out)) | (show (Addr.add _ _).block ≠ _; rw [add_block]; exact Nat.ne_of_lt (Nat.lt_of_lt_of_le (by have := World.block_lt_of_cell? _ _ hw123_2; first | rwa [add_block] at this | exact this) GW126.out)) | (dsimp only; exact Nat.ne_of_lt (Nat.lt_of_lt_of_le (by have := World.block_lt_of_cell? _ _ hw123_2; first | rwa [add_block] at this | exact this) GW126.out))) _).trans (hHeld.2.2.1)))))))), ((cell_far (p := ⟨gb126, _, none⟩) (by first | exact Nat.ne_of_lt (Nat.lt_of_lt_of_le (by have := World.block_lt_of_cell? _ _ hw123_3; first | rwa [add_block] at this | exact this) GW126.out) | (rw [add_block]; exact Nat.ne_of_lt (Nat.lt_of_lt_of_le (by have := World.block_lt_of_cell? _ _ hw123_3; first | rwa [add_block] at this | exact this) GW126.out)) | (show (Addr.add _ _).block ≠ _; rw [add_block]; exact Nat.ne_of_lt (Nat.lt_of_lt_of_le (by have := World.block_lt_of_cell? _ _ hw123_3; first | rwa [add_block] at this | exact this) GW126.out)) | (dsimp only; exact Nat.ne_of_lt (Nat.lt_of_lt_of_le (by have := World.block_lt_of_cell? _ _ hw123_3; first | rwa [add_block] at this | exact this) GW126.out))) _).trans (((cell_far (p := ⟨gb126, _, none⟩) (by first | exact Nat.ne_of_lt (Nat.lt_of_lt_of_le (by have := World.block_lt_of_cell? _ _ hw123_3; first | rwa [add_block] at this | exact this) GW126.out) | (rw [add_block]; exact Nat.ne_of_lt (Nat.lt_of_lt_of_le (by have := World.block_lt_of_cell? _ _ hw123_3; first | rwa [add_block] at this | exact this) GW126.out)) | (show (Addr.add _ _).block ≠ _; rw [add_block]; exact Nat.ne_of_lt (Nat.lt_of_lt_of_le (by have := World.block_lt_of_cell? _ _ hw123_3; first | rwa [add_block] at this | exact this) GW126.out)) | (dsimp only; exact Nat.ne_of_lt (Nat.lt_of_lt_of_le (by have := World.block_lt_of_cell? _ _ hw123_3; first | rwa [add_block] at this | exact this) GW126.out))) _).trans (((cell_far (p := ⟨gb126, _, none⟩) (by first | exact Nat.ne_of_lt (Nat.lt_of_lt_of_le (by have := World.block_lt_of_cell? _ _ hw123_3; first | rwa [add_block] at this | exact this) GW126.out) | (rw [add_block]; exact Nat.ne_of_lt (Nat.lt_of_lt_of_le (by have := World.block_lt_of_cell? _ _ hw123_3; first | rwa [add_block] at this | exact this) GW126.out)) | (show (Addr.add _ _).block ≠ _; rw [add_block]; exact Nat.ne_of_lt (Nat.lt_of_lt_of_le (by have := World.block_lt_of_cell? _ _ hw123_3; first | rwa [add_block] at this | exact this) GW126.out)) | (dsimp only; exact Nat.ne_of_lt (Nat.lt_of_lt_of_le (by have := World.block_lt_of_cell? _ _ hw123_3; first | rwa [add_block] at this | exact this) GW126.out))) _).trans (((cell_far (p := ⟨gb126, _, none⟩) (by first | exact Nat.ne_of_lt (Nat.lt_of_lt_of_le (by have := World.block_lt_of_cell? _ _ hw123_3; first | rwa [add_block] at this | exact this) GW126.out) | (rw [add_block]; exact Nat.ne_of_lt (Nat.lt_of_lt_of_le (by have := World.block_lt_of_cell? _ _ hw123_3; first | rwa [add_block] at this | exact this) GW126.out)) | (show (Addr.add _ _).block ≠ _; rw [add_block]; exact Nat.ne_of_lt (Nat.lt_of_lt_of_le (by have := World.block_lt_of_cell? _ _ hw123_3; first | rwa [add_block] at this | exact this) GW126.out)) | (dsimp only; exact Nat.ne_of_lt (Nat.lt_of_lt_of_le (by have := World.block_lt_of_cell? _ _ hw123_3; first | rwa [add_block] at this | exact this) GW126.out))) _).trans (hHeld.2.2.2.1)))))))), ((cell_far (p := ⟨gb126, _, none⟩) (by first | exact Nat.ne_of_lt (Nat.lt_of_lt_of_le (by have := World.block_lt_of_cell? _ _ hw124_0; first | rwa [add_block] at this | exact this) GW126.out) | (rw [add_block]; exact Nat.ne_of_lt (Nat.lt_of_lt_of_le (by have := World.block_lt_of_cell? _ _ hw124_0; first | rwa [add_block] at this | exact this) GW126.out)) | (show (Addr.add _ _).block ≠ _; rw [add_block]; exact Nat.ne_of_lt (Nat.lt_of_lt_of_le (by have := World.block_lt_of_cell? _ _ hw124_0; first | rwa [add_block] at this | exact this) GW126.out)) | (dsimp only; exact Nat.ne_of_lt (Nat.lt_of_lt_of_le (by have := World.block_lt_of_cell? _ _ hw124_0; first | rwa [add_block] at this | exact this) GW126.out))) _).trans (((cell_far (p := ⟨gb126, _, none⟩) (by first | exact Nat.ne_of_lt (Nat.lt_of_lt_of_le (by have := World.block_lt_of_cell? _ _ hw124_0; first | rwa [add_block] at this | exact this) GW126.out) | (rw [add_block]; exact Nat.ne_of_lt (Nat.lt_of_lt_of_le (by have := World.block_lt_of_cell? _ _ hw124_0; first | rwa [add_block] at this | exact this) GW126.out)) | (show (Addr.add _ _).block ≠ _; rw [add_block]; exact Nat.ne_of_lt (Nat.lt_of_lt_of_le (by have := World.block_lt_of_cell? _ _ hw124_0; first | rwa [add_block] at this | exact this) GW126.out)) | (dsimp only; exact Nat.ne_of_lt (Nat.lt_of_lt_of_le (by have := World.block_lt_of_cell? _ _ hw124_0; first | rwa [add_block] at this | exact this) GW126.out))) _).trans (((cell_far (p := ⟨gb126, _, none⟩) (by first | exact Nat.ne_of_lt (Nat.lt_of_lt_of_le (by have := World.block_lt_of_cell? _ _ hw124_0; first | rwa [add_block] at this | exact this) GW126.out) | (rw [add_block]; exact Nat.ne_of_lt (Nat.lt_of_lt_of_le (by have := World.block_lt_of_cell? _ _ hw124_0; first | rwa [add_block] at this | exact this) GW126.out)) | (show (Addr.add _ _).block ≠ _; rw [add_block]; exact Nat.ne_of_lt (Nat.lt_of_lt_of_le (by have := World.block_lt_of_cell? _ _ hw124_0; first | rwa [add_block] at this | exact this) GW126.out)) | (dsimp only; exact Nat.ne_of_lt (Nat.lt_of_lt_of_le (by have := World.block_lt_of_cell? _ _ hw124_0; first | rwa [add_block] at this | exact this) GW126.out))) _).trans (((cell_far (p := ⟨gb126, _, none⟩) (by first | exact Nat.ne_of_lt (Nat.lt_of_lt_of_le (by have := World.block_lt_of_cell? _ _ hw124_0; first | rwa [add_block] at this | exact this) GW126.out) | (rw [add_block]; exact Nat.ne_of_lt (Nat.lt_of_lt_of_le (by have := World.block_lt_of_cell? _ _ hw124_0; first | rwa [add_block] at this | exact this) GW126.out)) | (show (Addr.add _ _).block ≠ _; rw [add_block]; exact Nat.ne_of_lt (Nat.lt_of_lt_of_le (by have := World.block_lt_of_cell? _ _ hw124_0; first | rwa [add_block] at this | exact this) GW126.out)) | (dsimp only; exact Nat.ne_of_lt (Nat.lt_of_lt_of_le (by have := World.block_lt_of_cell? _ _ hw124_0; first | rwa [add_block] at this | exact this) GW126.out))) _).trans (hHeld.2.2.2.2.1)))))))), ((cell_far (p := ⟨gb126, _, none⟩) (by first | exact Nat.ne_of_lt (Nat.lt_of_lt_of_le (by have := World.block_lt_of_cell? _ _ hw124_1; first | rwa [add_block] at this | exact this) GW126.out) | (rw [add_block]; exact Nat.ne_of_lt (Nat.lt_of_lt_of_le (by have := World.block_lt_of_cell? _ _ hw124_1; first | rwa [add_block] at this | exact this) GW126.out)) | (show (Addr.add _ _).block ≠ _; rw [add_block]; exact Nat.ne_of_lt (Nat.lt_of_lt_of_le (by have := World.block_lt_of_cell? _ _ hw124_1; first | rwa [add_block] at this | exact this) GW126.out)) | (dsimp only; exact Nat.ne_of_lt (Nat.lt_of_lt_of_le (by have := World.block_lt_of_cell? _ _ hw124_1; first | rwa [add_block] at this | exact this) GW126.out))) _).trans (((cell_far (p := ⟨gb126, _, none⟩) (by first | exact Nat.ne_of_lt (Nat.lt_of_lt_of_le (by have := World.block_lt_of_cell? _ _ hw124_1; first | rwa [add_block] at this | exact this) GW126.out) | (rw [add_block]; exact Nat.ne_of_lt (Nat.lt_of_lt_of_le (by have := World.block_lt_of_cell? _ _ hw124_1; first | rwa [add_block] at this | exact this) GW126.out)) | (show (Addr.add _ _).block ≠ _; rw [add_block]; exact Nat.ne_of_lt (Nat.lt_of_lt_of_le (by have := World.block_lt_of_cell? _ _ hw124_1; first | rwa [add_block] at this | exact this) GW126.out)) | (dsimp only; exact Nat.ne_of_lt (Nat.lt_of_lt_of_le (by have := World.block_lt_of_cell? _ _ hw124_1; first | rwa [add_block] at this | exact this) GW126.out))) _).trans (((cell_far (p := ⟨gb126, _, none⟩) (by first | exact Nat.ne_of_lt (Nat.lt_of_lt_of_le (by have := World.block_lt_of_cell? _ _ hw124_1; first | rwa [add_block] at this | exact this) GW126.out) | (rw [add_block]; exact Nat.ne_of_lt (Nat.lt_of_lt_of_le (by have := World.block_lt_of_cell? _ _ hw124_1; first | rwa [add_block] at this | exact this) GW126.out)) | (show (Addr.add _ _).block ≠ _; rw [add_block]; exact Nat.ne_of_lt (Nat.lt_of_lt_of_le (by have := World.block_lt_of_cell? _ _ hw124_1; first | rwa [add_block] at this | exact this) GW126.out)) | (dsimp only; exact Nat.ne_of_lt (Nat.lt_of_lt_of_le (by have := World.block_lt_of_cell? _ _ hw124_1; first | rwa [add_block] at this | exact this) GW126.out))) _).trans (((cell_far (p := ⟨gb126, _, none⟩) (by first | exact Nat.ne_of_lt (Nat.lt_of_lt_of_le (by have := World.block_lt_of_cell? _ _ hw124_1; first | rwa [add_block] at this | exact this) GW126.out) | (rw [add_block]; exact Nat.ne_of_lt (Nat.lt_of_lt_of_le (by have := World.block_lt_of_cell? _ _ hw124_1; first | rwa [add_block] at this | exact this) GW126.out)) | (show (Addr.add _ _).block ≠ _; rw [add_block]; exact Nat.ne_of_lt (Nat.lt_of_lt_of_le (by have := World.block_lt_of_cell? _ _ hw124_1; first | rwa [add_block] at this | exact this) GW126.out)) | (dsimp only; exact Nat.ne_of_lt (Nat.lt_of_lt_of_le (by have := World.block_lt_of_cell? _ _ hw124_1; first | rwa [add_block] at this | exact this) GW126.out))) _).trans (hHeld.2.2.2.2.2.1)))))))), ((cell_far (p := ⟨gb126, _, none⟩) (by first | exact Nat.ne_of_lt (Nat.lt_of_lt_of_le (by have := World.block_lt_of_cell? _ _ hw124_2; first | rwa [add_block] at this | exact this) GW126.out) | (rw [add_block]; exact Nat.ne_of_lt (Nat.lt_of_lt_of_le (by have := World.block_lt_of_cell? _ _ hw124_2; first | rwa [add_block] at this | exact this) GW126.out)) | (show (Addr.add _ _).block ≠ _; rw [add_block]; exact Nat.ne_of_lt (Nat.lt_of_lt_of_le (by have := World.block_lt_of_cell? _ _ hw124_2; first | rwa [add_block] at this | exact this) GW126.out)) | (dsimp only; exact Nat.ne_of_lt (Nat.lt_of_lt_of_le (by have := World.block_lt_of_cell? _ _ hw124_2; first | rwa [add_block] at this | exact this) GW126.out))) _).trans (((cell_far (p := ⟨gb126, _, none⟩) (by first | exact Nat.ne_of_lt (Nat.lt_of_lt_of_le (by have := World.block_lt_of_cell? _ _ hw124_2; first | rwa [add_block] at this | exact this) GW126.out) | (rw [add_block]; exact Nat.ne_of_lt (Nat.lt_of_lt_of_le (by have := World.block_lt_of_cell? _ _ hw124_2; first | rwa [add_block] at this | exact this) GW126.out)) | (show (Addr.add _ _).block ≠ _; rw [add_block]; exact Nat.ne_of_lt (Nat.lt_of_lt_of_le (by have := World.block_lt_of_cell? _ _ hw124_2; first | rwa [add_block] at this | exact this) GW126.out)) | (dsimp only; exact Nat.ne_of_lt (Nat.lt_of_lt_of_le (by have := World.block_lt_of_cell? _ _ hw124_2; first | rwa [add_block] at this | exact this) GW126.out))) _).trans (((cell_far (p := ⟨gb126, _, none⟩) (by first | exact Nat.ne_of_lt (Nat.lt_of_lt_of_le (by have := World.block_lt_of_cell? _ _ hw124_2; first | rwa [add_block] at this | exact this) GW126.out) | (rw [add_block]; exact Nat.ne_of_lt (Nat.lt_of_lt_of_le (by have := World.block_lt_of_cell? _ _ hw124_2; first | rwa [add_block] at this | exact this) GW126.out)) | (show (Addr.add _ _).block ≠ _; rw [add_block]; exact Nat.ne_of_lt (Nat.lt_of_lt_of_le (by have := World.block_lt_of_cell? _ _ hw124_2; first | rwa [add_block] at this | exact this) GW126.out)) | (dsimp only; exact Nat.ne_of_lt (Nat.lt_of_lt_of_le (by have := World.block_lt_of_cell? _ _ hw124_2; first | rwa [add_block] at this | exact this) GW126.out))) _).trans (((cell_far (p := ⟨gb126, _, none⟩) (by first | exact Nat.ne_of_lt (Nat.lt_of_lt_of_le (by have := World.block_lt_of_cell? _ _ hw124_2; first | rwa [add_block] at this | exact this) GW126.out) | (rw [add_block]; exact Nat.ne_of_lt (Nat.lt_of_lt_of_le (by have := World.block_lt_of_cell? _ _ hw124_2; first | rwa [add_block] at this | exact this) GW126.out)) | (show (Addr.add _ _).block ≠ _; rw [add_block]; exact Nat.ne_of_lt (Nat.lt_of_lt_of_le (by have := World.block_lt_of_cell? _ _ hw124_2; first | rwa [add_block] at this | exact this) GW126.out)) | (dsimp only; exact Nat.ne_of_lt (Nat.lt_of_lt_of_le (by have := World.block_lt_of_cell? _ _ hw124_2; first | rwa [add_block] at this | exact this) GW126.out))) _).trans (hHeld.2.2.2.2.2.2.1)))))))), ((cell_far (p := ⟨gb126, _, none⟩) (by first | exact Nat.ne_of_lt (Nat.lt_of_lt_of_le (by have := World.block_lt_of_cell? _ _ hw124_3; first | rwa [add_block] at this | exact this) GW126.out) | (rw [add_block]; exact Nat.ne_of_lt (Nat.lt_of_lt_of_le (by have := World.block_lt_of_cell? _ _ hw124_3; first | rwa [add_block] at this | exact this) GW126.out)) | (show (Addr.add _ _).block ≠ _; rw [add_block]; exact Nat.ne_of_lt (Nat.lt_of_lt_of_le (by have := World.block_lt_of_cell? _ _ hw124_3; first | rwa [add_block] at this | exact this) GW126.out)) | (dsimp only; exact Nat.ne_of_lt (Nat.lt_of_lt_of_le (by have := World.block_lt_of_cell? _ _ hw124_3; first | rwa [add_block] at this | exact this) GW126.out))) _).trans (((cell_far (p := ⟨gb126, _, none⟩) (by first | exact Nat.ne_of_lt (Nat.lt_of_lt_of_le (by have := World.block_lt_of_cell? _ _ hw124_3; first | rwa [add_block] at this | exact this) GW126.out) | (rw [add_block]; exact Nat.ne_of_lt (Nat.lt_of_lt_of_le (by have := World.block_lt_of_cell? _ _ hw124_3; first | rwa [add_block] at this | exact this) GW126.out)) | (show (Addr.add _ _).block ≠ _; rw [add_block]; exact Nat.ne_of_lt (Nat.lt_of_lt_of_le (by have := World.block_lt_of_cell? _ _ hw124_3; first | rwa [add_block] at this | exact this) GW126.out)) | (dsimp only; exact Nat.ne_of_lt (Nat.lt_of_lt_of_le (by have := World.block_lt_of_cell? _ _ hw124_3; first | rwa [add_block] at this | exact this) GW126.out))) _).trans (((cell_far (p := ⟨gb126, _, none⟩) (by first | exact Nat.ne_of_lt (Nat.lt_of_lt_of_le (by have := World.block_lt_of_cell? _ _ hw124_3; first | rwa [add_block] at this | exact this) GW126.out) | (rw [add_block]; exact Nat.ne_of_lt (Nat.lt_of_lt_of_le (by have := World.block_lt_of_cell? _ _ hw124_3; first | rwa [add_block] at this | exact this) GW126.out)) | (show (Addr.add _ _).block ≠ _; rw [add_block]; exact Nat.ne_of_lt (Nat.lt_of_lt_of_le (by have := World.block_lt_of_cell? _ _ hw124_3; first | rwa [add_block] at this | exact this) GW126.out)) | (dsimp only; exact Nat.ne_of_lt (Nat.lt_of_lt_of_le (by have := World.block_lt_of_cell? _ _ hw124_3; first | rwa [add_block] at this | exact this) GW126.out))) _).trans (((cell_far (p := ⟨gb126, _, none⟩) (by first | exact Nat.ne_of_lt (Nat.lt_of_lt_of_le (by have := World.block_lt_of_cell? _ _ hw124_3; first | rwa [add_block] at this | exact this) GW126.out) | (rw [add_block]; exact Nat.ne_of_lt (Nat.lt_of_lt_of_le (by have := World.block_lt_of_cell? _ _ hw124_3; first | rwa [add_block] at this | exact this) GW126.out)) | (show (Addr.add _ _).block ≠ _; rw [add_block]; exact Nat.ne_of_lt (Nat.lt_of_lt_of_le (by have := World.block_lt_of_cell? _ _ hw124_3; first | rwa [add_block] at this | exact this) GW126.out)) | (dsimp only; exact Nat.ne_of_lt (Nat.lt_of_lt_of_le (by have := World.block_lt_of_cell? _ _ hw124_3; first | rwa [add_block] at this | exact this) GW126.out))) _).trans (hHeld.2.2.2.2.2.2.2))))))))⟩ (fun hHeld => ?_)
            clear hK K
            refine done_ (done_of HT_.out (by kernel_rfl)) ?_
            have hnb61 := NB125_126.out
            have hnc61 := NB126_125.out
            obtain ⟨hcz62_0, hcz62_1, hcz62_2, hcz62_3, hfz62_0, hfz62_1, hfz62_2, hfz62_3⟩ := blk4 BK125.out
            obtain ⟨hcz63_0, hcz63_1, hcz63_2, hcz63_3, hfz63_0, hfz63_1, hfz63_2, hfz63_3⟩ := blk4 BK126.out
            try go_wp2_with (first | ((with_reducible refine gate_dst (N := 74) rfl ?_); refine gLK (args1 := #[.agg #[.int .i64 ((rd_T36 l2 (ji22)).f0), .int .i64 ((rd_T36 l2 (ji22)).f1), .int .i64 ((rd_T36 l2 (ji22)).f2), .slice A123_3 ((rd_T36 l2 (ji22)).f3).length c123_3], .agg #[.int .i64 ((rd_T36 l3 (ji25)).f0), .int .i64 ((rd_T36 l3 (ji25)).f1), .int .i64 ((rd_T36 l3 (ji25)).f2), .slice A124_3 ((rd_T36 l3 (ji25)).f3).length c124_3]]) (some 74) #[.pointer (some ⟨gx4, 0, none⟩), .pointer (some ⟨gx5, 0, none⟩)] Tryd.func12 #[.agg #[.int .i64 ((rd_T36 l2 (ji22)).f0), .int .i64 ((rd_T36 l2 (ji22)).f1), .int .i64 ((rd_T36 l2 (ji22)).f2), .slice A123_3 ((rd_T36 l2 (ji22)).f3).length c123_3], .agg #[.int .i64 ((rd_T36 l3 (ji25)).f0), .int .i64 ((rd_T36 l3 (ji25)).f1), .int .i64 ((rd_T36 l3 (ji25)).f2), .slice A124_3 ((rd_T36 l3 (ji25)).f3).length c124_3], .pointer (some ⟨gx4, 0, none⟩), .pointer (some ⟨gx5, 0, none⟩)] rfl rfl (by (try simp only [List.map_toArray, List.map_cons, List.map_nil]); first | done | (simp only [hji22, hji25]; rfl) | rfl | (simp only [List.length_drop, List.length_take]; rfl)) rfl ?_; (with_reducible refine (match_Keep_1.calls gx4 gx5 ((rd_T36 l2 (ji22)).f0) ((rd_T36 l2 (ji22)).f1) ((rd_T36 l2 (ji22)).f2) _ _ ((rd_T36 l2 (ji22)).f3) ((rd_T36 l3 (ji25)).f0) ((rd_T36 l3 (ji25)).f1) ((rd_T36 l3 (ji25)).f2) _ _ ((rd_T36 l3 (ji25)).f3) _ _ l0 _ _ l1 true _ ?side1 ?side2 ?side3 ?side4 ?side5 ?side6 ?side7 ?side8 (pw_cell_below (bAt HB.out) HX4.out) (pw_cell_below (bAt HB.out) HX5.out) A28.out).mono ?_); (case side1 => exact Kd.C_below HR123_3.out (bAt HB.out)); (case side2 => exact HC123_3.out); (case side3 => exact Kd.C_below HR124_3.out (bAt HB.out)); (case side4 => exact HC124_3.out); (case side5 => exact Kd.C_below HR0.out (bAt HB.out)); (case side6 => exact HC0.out); (case side7 => exact Kd.C_below HR1.out (bAt HB.out)); (case side8 => exact HC1.out); rintro e w64 ⟨rfl, hb⟩; refine ⟨_, rfl, ?_⟩; replace BK125 := Aside0.mk (blk_below (g := gb125) (o := .cells #[.int .i64 ((rd_T36 l2 (ji22)).f0), .int .i64 ((rd_T36 l2 (ji22)).f1), .int .i64 ((rd_T36 l2 (ji22)).f2), .slice A123_3 ((rd_T36 l2 (ji22)).f3).length c123_3] 36 (0, 0)) (by (with_reducible repeat (first | refine blk_drewN ?_ _ | refine blk_drew ?_ | refine blk_alloc ?_ _)); refine blk_far ?_ NB125_126.out _; (with_reducible repeat (first | refine blk_drewN ?_ _ | refine blk_drew ?_ | refine blk_alloc ?_ _)); refine blk_far ?_ NB125_126.out _; (with_reducible repeat (first | refine blk_drewN ?_ _ | refine blk_drew ?_ | refine blk_alloc ?_ _)); refine blk_far ?_ NB125_126.out _; (with_reducible repeat (first | refine blk_drewN ?_ _ | refine blk_drew ?_ | refine blk_alloc ?_ _)); refine blk_far ?_ NB125_126.out _; refine bP #[.int .i64 ((rd_T36 l2 (ji22)).f0), .int .i64 ((rd_T36 l2 (ji22)).f1), .int .i64 ((rd_T36 l2 (ji22)).f2), .slice none 0 0] 3 ?_; refine bP #[.int .i64 ((rd_T36 l2 (ji22)).f0), .int .i64 ((rd_T36 l2 (ji22)).f1), .int .i64 0, .slice none 0 0] 2 ?_; refine bP #[.int .i64 ((rd_T36 l2 (ji22)).f0), .int .i64 0, .int .i64 0, .slice none 0 0] 1 ?_; refine bP #[.int .i64 0, .int .i64 0, .int .i64 0, .slice none 0 0] 0 ?_; (with_reducible repeat (first | refine blk_drewN ?_ _ | refine blk_drew ?_ | refine blk_alloc ?_ _)); exact BK125.out) hb); replace BK126 := Aside0.mk (blk_below (g := gb126) (o := .cells #[.int .i64 ((rd_T36 l3 (ji25)).f0), .int .i64 ((rd_T36 l3 (ji25)).f1), .int .i64 ((rd_T36 l3 (ji25)).f2), .slice A124_3 ((rd_T36 l3 (ji25)).f3).length c124_3] 36 (0, 0)) (by refine bP #[.int .i64 ((rd_T36 l3 (ji25)).f0), .int .i64 ((rd_T36 l3 (ji25)).f1), .int .i64 ((rd_T36 l3 (ji25)).f2), .slice none 0 0] 3 ?_; refine bP #[.int .i64 ((rd_T36 l3 (ji25)).f0), .int .i64 ((rd_T36 l3 (ji25)).f1), .int .i64 0, .slice none 0 0] 2 ?_; refine bP #[.int .i64 ((rd_T36 l3 (ji25)).f0), .int .i64 0, .int .i64 0, .slice none 0 0] 1 ?_; refine bP #[.int .i64 0, .int .i64 0, .int .i64 0, .slice none 0 0] 0 ?_; (with_reducible repeat (first | refine blk_drewN ?_ _ | refine blk_drew ?_ | refine blk_alloc ?_ _)); refine blk_far ?_ NB126_125.out _; (with_reducible repeat (first | refine blk_drewN ?_ _ | refine blk_drew ?_ | refine blk_alloc ?_ _)); refine blk_far ?_ NB126_125.out _; (with_reducible repeat (first | refine blk_drewN ?_ _ | refine blk_drew ?_ | refine blk_alloc ?_ _)); refine blk_far ?_ NB126_125.out _; (with_reducible repeat (first | refine blk_drewN ?_ _ | refine blk_drew ?_ | refine blk_alloc ?_ _)); refine blk_far ?_ NB126_125.out _; (with_reducible repeat (first | refine blk_drewN ?_ _ | refine blk_drew ?_ | refine blk_alloc ?_ _)); exact BK126.out) hb); replace HB := Aside0.mk (below_step (bAt HB.out) hb); (try clear hb); have hxw4_ := pw_cell_below HB.out HX4.out; have hxw5_ := pw_cell_below HB.out HX5.out; (try clear hb2); (try clear hk); (try clear hi); obtain ⟨hcz65_0, hcz65_1, hcz65_2, hcz65_3, hfz65_0, hfz65_1, hfz65_2, hfz65_3⟩ := blk4 BK125.out; obtain ⟨hcz66_0, hcz66_1, hcz66_2, hcz66_3, hfz66_0, hfz66_1, hfz66_2, hfz66_3⟩ := blk4 BK126.out))
            go_ret2
            exact ⟨by first | rfl | (simp [errW_none, errW_some] <;> rfl) | (simp only [← hji5, ← hji22, ← hji25]; first | rfl | (simp [errW_none, errW_some] <;> rfl)) | (simp [*, errW_none, errW_some] <;> rfl), below_step HB0.out (bAt HB.out)⟩
          ·replace c29 := Bool.eq_false_iff.mpr c29
           subst c29
           replace H := fP H
           simp only [Option.some.injEq, Prod.mk.injEq] at H
           obtain ⟨rfl, rfl⟩ := H
           try go_wp2
           replace HB := Aside0.mk (below_drew1 HB.out)
           have p123 : 0 ≤ ((ji22) : Int) := dt
           have q123 : (ji22) < (l2.length : Int) := dt
           obtain ⟨ad123, A123_3, c123_3, e123, hx123_0, hx123_1, hx123_2, hx123_3, hl123_3, hi123_3⟩ := at_T36 HR2.out (ji22) p123 q123
           have hw123_3 := hx123_3
           have hw123_2 := hx123_2
           have hw123_1 := hx123_1
           have hw123_0 := hx123_0
           cases e123
           replace hx123_0 := pw_cell_below HB.out hx123_0
           replace hx123_1 := pw_cell_below HB.out hx123_1
           replace hx123_2 := pw_cell_below HB.out hx123_2
           replace hx123_3 := pw_cell_below HB.out hx123_3
           have HR123_3 := Aside0.mk hi123_3
           have HC123_3 := Aside0.mk hl123_3
           clear hi123_3 hl123_3
           replace p123 := eq_true p123
           replace q123 := eq_true q123
           have p124 : 0 ≤ ((ji25) : Int) := dt
           have q124 : (ji25) < (l3.length : Int) := dt
           obtain ⟨ad124, A124_3, c124_3, e124, hx124_0, hx124_1, hx124_2, hx124_3, hl124_3, hi124_3⟩ := at_T36 HR3.out (ji25) p124 q124
           have hw124_3 := hx124_3
           have hw124_2 := hx124_2
           have hw124_1 := hx124_1
           have hw124_0 := hx124_0
           cases e124
           replace hx124_0 := pw_cell_below HB.out hx124_0
           replace hx124_1 := pw_cell_below HB.out hx124_1
           replace hx124_2 := pw_cell_below HB.out hx124_2
           replace hx124_3 := pw_cell_below HB.out hx124_3
           have HR124_3 := Aside0.mk hi124_3
           have HC124_3 := Aside0.mk hl124_3
           clear hi124_3 hl124_3
           replace p124 := eq_true p124
           replace q124 := eq_true q124
           refine start_ (n := 20) (S := fun w' => w'.cell? (ad123.add (((ji22)).toNat * 4)) = some (.int .i64 ((rd_T36 l2 (ji22)).f0)) ∧ w'.cell? ⟨(ad123.add (((ji22)).toNat * 4)).block, (ad123.add (((ji22)).toNat * 4)).off + 1, none⟩ = some (.int .i64 ((rd_T36 l2 (ji22)).f1)) ∧ w'.cell? ⟨(ad123.add (((ji22)).toNat * 4)).block, (ad123.add (((ji22)).toNat * 4)).off + 2, none⟩ = some (.int .i64 ((rd_T36 l2 (ji22)).f2)) ∧ w'.cell? ⟨(ad123.add (((ji22)).toNat * 4)).block, (ad123.add (((ji22)).toNat * 4)).off + 3, none⟩ = some (.slice A123_3 ((rd_T36 l2 (ji22)).f3).length c123_3) ∧ w'.cell? (ad124.add (((ji25)).toNat * 4)) = some (.int .i64 ((rd_T36 l3 (ji25)).f0)) ∧ w'.cell? ⟨(ad124.add (((ji25)).toNat * 4)).block, (ad124.add (((ji25)).toNat * 4)).off + 1, none⟩ = some (.int .i64 ((rd_T36 l3 (ji25)).f1)) ∧ w'.cell? ⟨(ad124.add (((ji25)).toNat * 4)).block, (ad124.add (((ji25)).toNat * 4)).off + 2, none⟩ = some (.int .i64 ((rd_T36 l3 (ji25)).f2)) ∧ w'.cell? ⟨(ad124.add (((ji25)).toNat * 4)).block, (ad124.add (((ji25)).toNat * 4)).off + 3, none⟩ = some (.slice A124_3 ((rd_T36 l3 (ji25)).f3).length c124_3)) (ds := []) (bm 20 0) (by kernel_rfl) rfl rfl ⟨((HB.out.cell (World.block_lt_of_cell? w _ hw123_0)).trans hw123_0), ((HB.out.cell (World.block_lt_of_cell? w _ hw123_1)).trans hw123_1), ((HB.out.cell (World.block_lt_of_cell? w _ hw123_2)).trans hw123_2), ((HB.out.cell (World.block_lt_of_cell? w _ hw123_3)).trans hw123_3), ((HB.out.cell (World.block_lt_of_cell? w _ hw124_0)).trans hw124_0), ((HB.out.cell (World.block_lt_of_cell? w _ hw124_1)).trans hw124_1), ((HB.out.cell (World.block_lt_of_cell? w _ hw124_2)).trans hw124_2), ((HB.out.cell (World.block_lt_of_cell? w _ hw124_3)).trans hw124_3)⟩ (fun hHeld => ?_); refine with_tabW match_Keep.tab6 match_Keep.bits6 (fun HT_ HW_ => ?_)
           generalize wr.drew = w67 at HB HR123_3 HR124_3 hx123_0 hx123_1 hx123_2 hx123_3 hx124_0 hx124_1 hx124_2 hx124_3 hHeld ⊢
           refine pv_ 0 (some 55) (bm 20 1) HT_.out ?_
           refine pv_ 1 (some 56) (bm 20 3) HT_.out ?_
           refine pv_ 2 (some 57) (bm 20 7) HT_.out ?_
           refine pv_ 3 (some 58) (bm 20 15) HT_.out ?_
           refine pv_ 4 (some 59) (bm 20 31) HT_.out ?_
           refine pv_ 5 (some 60) (bm 20 63) HT_.out ?_
           refine pv_ 6 (some 61) (bm 20 127) HT_.out ?_
           refine pv_ 8 (some 63) (bm 20 383) HT_.out ?_
           refine pv_ 9 (some 64) (bm 20 895) HT_.out ?_
           refine pv_ 10 (some 65) (bm 20 1919) HT_.out ?_
           refine pv_ 11 (some 66) (bm 20 3967) HT_.out ?_
           refine pv_ 12 (some 67) (bm 20 8063) HT_.out ?_
           refine pv_ 13 (some 68) (bm 20 16255) HT_.out ?_
           refine pv_ 14 (some 69) (bm 20 32639) HT_.out ?_
           refine tk_ 7 (some 62) (bm 20 32767) HT_.out HW_.out hHeld ?_
           refine tk_ 15 (some 70) (bm 20 65535) HT_.out HW_.out hHeld ?_
           refine join_ (σ := Nat × Nat) 2 (bm 20 262143) (fun s_ => [(12, .pointer (some ⟨s_.1, 0, none⟩)), (13, .pointer (some ⟨s_.2, 0, none⟩))]) (fun s_ w' => (w'.cell? (ad123.add (((ji22)).toNat * 4)) = some (.int .i64 ((rd_T36 l2 (ji22)).f0)) ∧ w'.cell? ⟨(ad123.add (((ji22)).toNat * 4)).block, (ad123.add (((ji22)).toNat * 4)).off + 1, none⟩ = some (.int .i64 ((rd_T36 l2 (ji22)).f1)) ∧ w'.cell? ⟨(ad123.add (((ji22)).toNat * 4)).block, (ad123.add (((ji22)).toNat * 4)).off + 2, none⟩ = some (.int .i64 ((rd_T36 l2 (ji22)).f2)) ∧ w'.cell? ⟨(ad123.add (((ji22)).toNat * 4)).block, (ad123.add (((ji22)).toNat * 4)).off + 3, none⟩ = some (.slice A123_3 ((rd_T36 l2 (ji22)).f3).length c123_3) ∧ w'.cell? (ad124.add (((ji25)).toNat * 4)) = some (.int .i64 ((rd_T36 l3 (ji25)).f0)) ∧ w'.cell? ⟨(ad124.add (((ji25)).toNat * 4)).block, (ad124.add (((ji25)).toNat * 4)).off + 1, none⟩ = some (.int .i64 ((rd_T36 l3 (ji25)).f1)) ∧ w'.cell? ⟨(ad124.add (((ji25)).toNat * 4)).block, (ad124.add (((ji25)).toNat * 4)).off + 2, none⟩ = some (.int .i64 ((rd_T36 l3 (ji25)).f2)) ∧ w'.cell? ⟨(ad124.add (((ji25)).toNat * 4)).block, (ad124.add (((ji25)).toNat * 4)).off + 3, none⟩ = some (.slice A124_3 ((rd_T36 l3 (ji25)).f3).length c124_3)) ∧ (w'.heap[s_.1]? = some (.cells #[.int .i64 0, .int .i64 0, .int .i64 0, .slice none 0 0] 36 (0, 0))) ∧ (w'.heap[s_.2]? = some (.cells #[.int .i64 0, .int .i64 0, .int .i64 0, .slice none 0 0] 36 (0, 0))) ∧ (w.heap.size ≤ s_.1) ∧ (w.heap.size ≤ s_.1) ∧ (s_.2 ≠ s_.1) ∧ (s_.1 ≠ s_.2) ∧ (w.heap.size ≤ s_.2) ∧ (w.heap.size ≤ s_.2) ∧ (Below w.heap.size w w')) ?_ ?_
           rotate_left
           ·intro hCont
            refine two_ (i := 16) (j := 17) (Ni := some 12) (Nj := some 13) (bm 20 131071) (bm 20 196607) rfl rfl rfl rfl (two_of HT_.out (by kernel_rfl)) (by decide) (by decide) (fun K hK => ?_) (fun K hK => ?_)
            ·skip
             refine box_step ?hg (N := 12) ?hd (cs := #[.int .i64 0, .int .i64 0, .int .i64 0, .slice none 0 0]) (t := 36) ?hr ?_; (case hd => rfl); (case hg => rfl); (case hr => first | (go_simp; done) | (go_simp; rfl))
             intro gb125 hg w68 hbox hb
             have n0_ := Aside0.mk (below_step (bAt HB.out) hb)
             have n1_ := Aside0.mk (hbox)
             have n2_ := Aside0.mk (gE (g := gb125) hg HB.out)
             have n3_ := Aside0.mk (gE (g := gb125) hg HB.out)
             clear HB
             have HB := n0_
             have BK125 := n1_
             have GW125 := n2_
             have GE125 := n3_
             clear n0_ n1_ n2_ n3_ hb hbox hg
             refine hK.out _ _ ⟨((HB.out.cell (World.block_lt_of_cell? w _ hw123_0)).trans hw123_0), ((HB.out.cell (World.block_lt_of_cell? w _ hw123_1)).trans hw123_1), ((HB.out.cell (World.block_lt_of_cell? w _ hw123_2)).trans hw123_2), ((HB.out.cell (World.block_lt_of_cell? w _ hw123_3)).trans hw123_3), ((HB.out.cell (World.block_lt_of_cell? w _ hw124_0)).trans hw124_0), ((HB.out.cell (World.block_lt_of_cell? w _ hw124_1)).trans hw124_1), ((HB.out.cell (World.block_lt_of_cell? w _ hw124_2)).trans hw124_2), ((HB.out.cell (World.block_lt_of_cell? w _ hw124_3)).trans hw124_3)⟩ (fun hHeld => ?_)
             clear hK K
             refine norm_ (a' := ?_) ?_ ?_
             rotate_left
             ·show Act.put _ (some 12) _ = _
              simp only [Act.put, List.setIfInBounds_toArray, List.set_cons_zero, List.set_cons_succ, i64_w, i32_w]
              rfl
             refine one_ (i := 17) (N := some 13) (bm 20 262143) rfl rfl (one_of HT_.out (by kernel_rfl)) (by decide) (fun K hK => ?_)
             refine box_step ?hg (N := 13) ?hd (cs := #[.int .i64 0, .int .i64 0, .int .i64 0, .slice none 0 0]) (t := 36) ?hr ?_; (case hd => rfl); (case hg => rfl); (case hr => first | (go_simp; done) | (go_simp; rfl))
             intro gb126 hg w69 hbox hb
             have n0_ := Aside0.mk (blk_below (g := gb125) (o := .cells #[.int .i64 0, .int .i64 0, .int .i64 0, .slice none 0 0] 36 (0, 0)) (kAt BK125.out) hb)
             have n1_ := Aside0.mk (below_step (bAt HB.out) hb)
             have n2_ := Aside0.mk (hbox)
             have n3_ := Aside0.mk (gE (g := gb126) hg HB.out)
             have n4_ := Aside0.mk (gE (g := gb126) hg HB.out)
             have n5_ := Aside0.mk ((by rw [hg]; exact Nat.ne_of_lt (blk_lt (g := gb125) (o := .cells #[.int .i64 0, .int .i64 0, .int .i64 0, .slice none 0 0] 36 (0, 0)) (kAt BK125.out)) : gb125 ≠ gb126))
             have n6_ := Aside0.mk ((by rw [hg]; exact Nat.ne_of_gt (blk_lt (g := gb125) (o := .cells #[.int .i64 0, .int .i64 0, .int .i64 0, .slice none 0 0] 36 (0, 0)) (kAt BK125.out)) : gb126 ≠ gb125))
             clear BK125 HB
             have BK125 := n0_
             have HB := n1_
             have BK126 := n2_
             have GW126 := n3_
             have GE126 := n4_
             have NB125_126 := n5_
             have NB126_125 := n6_
             clear n0_ n1_ n2_ n3_ n4_ n5_ n6_ hb hbox hg
             refine hK.out _ _ ⟨((HB.out.cell (World.block_lt_of_cell? w _ hw123_0)).trans hw123_0), ((HB.out.cell (World.block_lt_of_cell? w _ hw123_1)).trans hw123_1), ((HB.out.cell (World.block_lt_of_cell? w _ hw123_2)).trans hw123_2), ((HB.out.cell (World.block_lt_of_cell? w _ hw123_3)).trans hw123_3), ((HB.out.cell (World.block_lt_of_cell? w _ hw124_0)).trans hw124_0), ((HB.out.cell (World.block_lt_of_cell? w _ hw124_1)).trans hw124_1), ((HB.out.cell (World.block_lt_of_cell? w _ hw124_2)).trans hw124_2), ((HB.out.cell (World.block_lt_of_cell? w _ hw124_3)).trans hw124_3)⟩ (fun hHeld => ?_)
             clear hK K
             refine norm_ (a' := ?_) ?_ ?_
             rotate_left
             ·show Act.put _ (some 13) _ = _
              simp only [Act.put, List.setIfInBounds_toArray, List.set_cons_zero, List.set_cons_succ, i64_w, i32_w]
              rfl
             exact norm_ (by simp only [putAll, Act.put, List.setIfInBounds_toArray, List.set_cons_zero, List.set_cons_succ]) (hCont (gb125, gb126) _ ⟨hHeld, (kAt BK125.out), (kAt BK126.out), GW125.out, GE125.out, NB126_125.out, NB125_126.out, GW126.out, GE126.out, (bAt HB.out)⟩)
            ·skip
             refine box_step ?hg (N := 13) ?hd (cs := #[.int .i64 0, .int .i64 0, .int .i64 0, .slice none 0 0]) (t := 36) ?hr ?_; (case hd => rfl); (case hg => rfl); (case hr => first | (go_simp; done) | (go_simp; rfl))
             intro gb126 hg w68 hbox hb
             have n0_ := Aside0.mk (below_step (bAt HB.out) hb)
             have n1_ := Aside0.mk (hbox)
             have n2_ := Aside0.mk (gE (g := gb126) hg HB.out)
             have n3_ := Aside0.mk (gE (g := gb126) hg HB.out)
             clear HB
             have HB := n0_
             have BK126 := n1_
             have GW126 := n2_
             have GE126 := n3_
             clear n0_ n1_ n2_ n3_ hb hbox hg
             refine hK.out _ _ ⟨((HB.out.cell (World.block_lt_of_cell? w _ hw123_0)).trans hw123_0), ((HB.out.cell (World.block_lt_of_cell? w _ hw123_1)).trans hw123_1), ((HB.out.cell (World.block_lt_of_cell? w _ hw123_2)).trans hw123_2), ((HB.out.cell (World.block_lt_of_cell? w _ hw123_3)).trans hw123_3), ((HB.out.cell (World.block_lt_of_cell? w _ hw124_0)).trans hw124_0), ((HB.out.cell (World.block_lt_of_cell? w _ hw124_1)).trans hw124_1), ((HB.out.cell (World.block_lt_of_cell? w _ hw124_2)).trans hw124_2), ((HB.out.cell (World.block_lt_of_cell? w _ hw124_3)).trans hw124_3)⟩ (fun hHeld => ?_)
             clear hK K
             refine norm_ (a' := ?_) ?_ ?_
             rotate_left
             ·show Act.put _ (some 13) _ = _
              simp only [Act.put, List.setIfInBounds_toArray, List.set_cons_zero, List.set_cons_succ, i64_w, i32_w]
              rfl
             refine one_ (i := 16) (N := some 12) (bm 20 262143) rfl rfl (one_of HT_.out (by kernel_rfl)) (by decide) (fun K hK => ?_)
             refine box_step ?hg (N := 12) ?hd (cs := #[.int .i64 0, .int .i64 0, .int .i64 0, .slice none 0 0]) (t := 36) ?hr ?_; (case hd => rfl); (case hg => rfl); (case hr => first | (go_simp; done) | (go_simp; rfl))
             intro gb125 hg w69 hbox hb
             have n0_ := Aside0.mk (blk_below (g := gb126) (o := .cells #[.int .i64 0, .int .i64 0, .int .i64 0, .slice none 0 0] 36 (0, 0)) (kAt BK126.out) hb)
             have n1_ := Aside0.mk (below_step (bAt HB.out) hb)
             have n2_ := Aside0.mk (hbox)
             have n3_ := Aside0.mk (gE (g := gb125) hg HB.out)
             have n4_ := Aside0.mk (gE (g := gb125) hg HB.out)
             have n5_ := Aside0.mk ((by rw [hg]; exact Nat.ne_of_lt (blk_lt (g := gb126) (o := .cells #[.int .i64 0, .int .i64 0, .int .i64 0, .slice none 0 0] 36 (0, 0)) (kAt BK126.out)) : gb126 ≠ gb125))
             have n6_ := Aside0.mk ((by rw [hg]; exact Nat.ne_of_gt (blk_lt (g := gb126) (o := .cells #[.int .i64 0, .int .i64 0, .int .i64 0, .slice none 0 0] 36 (0, 0)) (kAt BK126.out)) : gb125 ≠ gb126))
             clear BK126 HB
             have BK126 := n0_
             have HB := n1_
             have BK125 := n2_
             have GW125 := n3_
             have GE125 := n4_
             have NB126_125 := n5_
             have NB125_126 := n6_
             clear n0_ n1_ n2_ n3_ n4_ n5_ n6_ hb hbox hg
             refine hK.out _ _ ⟨((HB.out.cell (World.block_lt_of_cell? w _ hw123_0)).trans hw123_0), ((HB.out.cell (World.block_lt_of_cell? w _ hw123_1)).trans hw123_1), ((HB.out.cell (World.block_lt_of_cell? w _ hw123_2)).trans hw123_2), ((HB.out.cell (World.block_lt_of_cell? w _ hw123_3)).trans hw123_3), ((HB.out.cell (World.block_lt_of_cell? w _ hw124_0)).trans hw124_0), ((HB.out.cell (World.block_lt_of_cell? w _ hw124_1)).trans hw124_1), ((HB.out.cell (World.block_lt_of_cell? w _ hw124_2)).trans hw124_2), ((HB.out.cell (World.block_lt_of_cell? w _ hw124_3)).trans hw124_3)⟩ (fun hHeld => ?_)
             clear hK K
             refine norm_ (a' := ?_) ?_ ?_
             rotate_left
             ·show Act.put _ (some 12) _ = _
              simp only [Act.put, List.setIfInBounds_toArray, List.set_cons_zero, List.set_cons_succ, i64_w, i32_w]
              rfl
             exact norm_ (by simp only [putAll, Act.put, List.setIfInBounds_toArray, List.set_cons_zero, List.set_cons_succ]) (hCont (gb125, gb126) _ ⟨hHeld, (kAt BK125.out), (kAt BK126.out), GW125.out, GE125.out, NB126_125.out, NB125_126.out, GW126.out, GE126.out, (bAt HB.out)⟩)
           rintro ⟨gb125, gb126⟩ w70 ⟨hS_, h0_, h1_, h2_, h3_, h4_, h5_, h6_, h7_, h8_⟩
           have n0_ : Aside0 (w70.heap[gb125]? = some (.cells #[.int .i64 0, .int .i64 0, .int .i64 0, .slice none 0 0] 36 (0, 0))) := ⟨h0_⟩
           have n1_ : Aside0 (w70.heap[gb126]? = some (.cells #[.int .i64 0, .int .i64 0, .int .i64 0, .slice none 0 0] 36 (0, 0))) := ⟨h1_⟩
           have n2_ : Aside0 (w.heap.size ≤ gb125) := ⟨h2_⟩
           have n3_ : Aside0 (w.heap.size ≤ gb125) := ⟨h3_⟩
           have n4_ : Aside0 (gb126 ≠ gb125) := ⟨h4_⟩
           have n5_ : Aside0 (gb125 ≠ gb126) := ⟨h5_⟩
           have n6_ : Aside0 (w.heap.size ≤ gb126) := ⟨h6_⟩
           have n7_ : Aside0 (w.heap.size ≤ gb126) := ⟨h7_⟩
           have n8_ : Aside0 (Below w.heap.size w w70) := ⟨h8_⟩
           clear HB h0_ h1_ h2_ h3_ h4_ h5_ h6_ h7_ h8_
           have BK125 := n0_
           have BK126 := n1_
           have GW125 := n2_
           have GE125 := n3_
           have NB126_125 := n4_
           have NB125_126 := n5_
           have GW126 := n6_
           have GE126 := n7_
           have HB := n8_
           clear n0_ n1_ n2_ n3_ n4_ n5_ n6_ n7_ n8_
           have hHeld : w70.cell? (ad123.add (((ji22)).toNat * 4)) = some (.int .i64 ((rd_T36 l2 (ji22)).f0)) ∧ w70.cell? ⟨(ad123.add (((ji22)).toNat * 4)).block, (ad123.add (((ji22)).toNat * 4)).off + 1, none⟩ = some (.int .i64 ((rd_T36 l2 (ji22)).f1)) ∧ w70.cell? ⟨(ad123.add (((ji22)).toNat * 4)).block, (ad123.add (((ji22)).toNat * 4)).off + 2, none⟩ = some (.int .i64 ((rd_T36 l2 (ji22)).f2)) ∧ w70.cell? ⟨(ad123.add (((ji22)).toNat * 4)).block, (ad123.add (((ji22)).toNat * 4)).off + 3, none⟩ = some (.slice A123_3 ((rd_T36 l2 (ji22)).f3).length c123_3) ∧ w70.cell? (ad124.add (((ji25)).toNat * 4)) = some (.int .i64 ((rd_T36 l3 (ji25)).f0)) ∧ w70.cell? ⟨(ad124.add (((ji25)).toNat * 4)).block, (ad124.add (((ji25)).toNat * 4)).off + 1, none⟩ = some (.int .i64 ((rd_T36 l3 (ji25)).f1)) ∧ w70.cell? ⟨(ad124.add (((ji25)).toNat * 4)).block, (ad124.add (((ji25)).toNat * 4)).off + 2, none⟩ = some (.int .i64 ((rd_T36 l3 (ji25)).f2)) ∧ w70.cell? ⟨(ad124.add (((ji25)).toNat * 4)).block, (ad124.add (((ji25)).toNat * 4)).off + 3, none⟩ = some (.slice A124_3 ((rd_T36 l3 (ji25)).f3).length c124_3) := hS_
           refine norm_ (a' := ?_) ?_ ?_
           rotate_left
           ·simp only [putAll, Act.put, List.setIfInBounds_toArray, List.set_cons_zero, List.set_cons_succ]
            rfl
           refine one_ (i := 18) (N := none) (bm 20 524287) rfl rfl (one_of HT_.out (by kernel_rfl)) (by decide) (fun K hK => ?_)
           have hs71 : w70.cell? ⟨gb125, 0, none⟩ = some (.int .i64 0) := (blk_cell BK125.out 0).trans rfl
           have hfs71 := blk_frozen BK125.out 0
           have hns71_1 := NB126_125.out
           have hms71_1 := NB125_126.out
           have hs72 : w70.cell? ⟨gb125, 1, none⟩ = some (.int .i64 0) := (blk_cell BK125.out 1).trans rfl
           have hfs72 := blk_frozen BK125.out 1
           have hns72_1 := NB126_125.out
           have hms72_1 := NB125_126.out
           have hs73 : w70.cell? ⟨gb125, 2, none⟩ = some (.int .i64 0) := (blk_cell BK125.out 2).trans rfl
           have hfs73 := blk_frozen BK125.out 2
           have hns73_1 := NB126_125.out
           have hms73_1 := NB125_126.out
           have hs74 : w70.cell? ⟨gb125, 3, none⟩ = some (.slice none 0 0) := (blk_cell BK125.out 3).trans rfl
           have hfs74 := blk_frozen BK125.out 3
           have hns74_1 := NB126_125.out
           have hms74_1 := NB125_126.out
           refine skip_ (w1 := ?_) (by rfl) rfl ?_ ?_
           rotate_left
           ·go_simp
            rfl
           refine hK.out _ _ ⟨((cell_far (p := ⟨gb125, _, none⟩) (by first | exact Nat.ne_of_lt (Nat.lt_of_lt_of_le (by have := World.block_lt_of_cell? _ _ hw123_0; first | rwa [add_block] at this | exact this) GW125.out) | (rw [add_block]; exact Nat.ne_of_lt (Nat.lt_of_lt_of_le (by have := World.block_lt_of_cell? _ _ hw123_0; first | rwa [add_block] at this | exact this) GW125.out)) | (show (Addr.add _ _).block ≠ _; rw [add_block]; exact Nat.ne_of_lt (Nat.lt_of_lt_of_le (by have := World.block_lt_of_cell? _ _ hw123_0; first | rwa [add_block] at this | exact this) GW125.out)) | (dsimp only; exact Nat.ne_of_lt (Nat.lt_of_lt_of_le (by have := World.block_lt_of_cell? _ _ hw123_0; first | rwa [add_block] at this | exact this) GW125.out))) _).trans (((cell_far (p := ⟨gb125, _, none⟩) (by first | exact Nat.ne_of_lt (Nat.lt_of_lt_of_le (by have := World.block_lt_of_cell? _ _ hw123_0; first | rwa [add_block] at this | exact this) GW125.out) | (rw [add_block]; exact Nat.ne_of_lt (Nat.lt_of_lt_of_le (by have := World.block_lt_of_cell? _ _ hw123_0; first | rwa [add_block] at this | exact this) GW125.out)) | (show (Addr.add _ _).block ≠ _; rw [add_block]; exact Nat.ne_of_lt (Nat.lt_of_lt_of_le (by have := World.block_lt_of_cell? _ _ hw123_0; first | rwa [add_block] at this | exact this) GW125.out)) | (dsimp only; exact Nat.ne_of_lt (Nat.lt_of_lt_of_le (by have := World.block_lt_of_cell? _ _ hw123_0; first | rwa [add_block] at this | exact this) GW125.out))) _).trans (((cell_far (p := ⟨gb125, _, none⟩) (by first | exact Nat.ne_of_lt (Nat.lt_of_lt_of_le (by have := World.block_lt_of_cell? _ _ hw123_0; first | rwa [add_block] at this | exact this) GW125.out) | (rw [add_block]; exact Nat.ne_of_lt (Nat.lt_of_lt_of_le (by have := World.block_lt_of_cell? _ _ hw123_0; first | rwa [add_block] at this | exact this) GW125.out)) | (show (Addr.add _ _).block ≠ _; rw [add_block]; exact Nat.ne_of_lt (Nat.lt_of_lt_of_le (by have := World.block_lt_of_cell? _ _ hw123_0; first | rwa [add_block] at this | exact this) GW125.out)) | (dsimp only; exact Nat.ne_of_lt (Nat.lt_of_lt_of_le (by have := World.block_lt_of_cell? _ _ hw123_0; first | rwa [add_block] at this | exact this) GW125.out))) _).trans (((cell_far (p := ⟨gb125, _, none⟩) (by first | exact Nat.ne_of_lt (Nat.lt_of_lt_of_le (by have := World.block_lt_of_cell? _ _ hw123_0; first | rwa [add_block] at this | exact this) GW125.out) | (rw [add_block]; exact Nat.ne_of_lt (Nat.lt_of_lt_of_le (by have := World.block_lt_of_cell? _ _ hw123_0; first | rwa [add_block] at this | exact this) GW125.out)) | (show (Addr.add _ _).block ≠ _; rw [add_block]; exact Nat.ne_of_lt (Nat.lt_of_lt_of_le (by have := World.block_lt_of_cell? _ _ hw123_0; first | rwa [add_block] at this | exact this) GW125.out)) | (dsimp only; exact Nat.ne_of_lt (Nat.lt_of_lt_of_le (by have := World.block_lt_of_cell? _ _ hw123_0; first | rwa [add_block] at this | exact this) GW125.out))) _).trans (hHeld.1)))))))), ((cell_far (p := ⟨gb125, _, none⟩) (by first | exact Nat.ne_of_lt (Nat.lt_of_lt_of_le (by have := World.block_lt_of_cell? _ _ hw123_1; first | rwa [add_block] at this | exact this) GW125.out) | (rw [add_block]; exact Nat.ne_of_lt (Nat.lt_of_lt_of_le (by have := World.block_lt_of_cell? _ _ hw123_1; first | rwa [add_block] at this | exact this) GW125.out)) | (show (Addr.add _ _).block ≠ _; rw [add_block]; exact Nat.ne_of_lt (Nat.lt_of_lt_of_le (by have := World.block_lt_of_cell? _ _ hw123_1; first | rwa [add_block] at this | exact this) GW125.out)) | (dsimp only; exact Nat.ne_of_lt (Nat.lt_of_lt_of_le (by have := World.block_lt_of_cell? _ _ hw123_1; first | rwa [add_block] at this | exact this) GW125.out))) _).trans (((cell_far (p := ⟨gb125, _, none⟩) (by first | exact Nat.ne_of_lt (Nat.lt_of_lt_of_le (by have := World.block_lt_of_cell? _ _ hw123_1; first | rwa [add_block] at this | exact this) GW125.out) | (rw [add_block]; exact Nat.ne_of_lt (Nat.lt_of_lt_of_le (by have := World.block_lt_of_cell? _ _ hw123_1; first | rwa [add_block] at this | exact this) GW125.out)) | (show (Addr.add _ _).block ≠ _; rw [add_block]; exact Nat.ne_of_lt (Nat.lt_of_lt_of_le (by have := World.block_lt_of_cell? _ _ hw123_1; first | rwa [add_block] at this | exact this) GW125.out)) | (dsimp only; exact Nat.ne_of_lt (Nat.lt_of_lt_of_le (by have := World.block_lt_of_cell? _ _ hw123_1; first | rwa [add_block] at this | exact this) GW125.out))) _).trans (((cell_far (p := ⟨gb125, _, none⟩) (by first | exact Nat.ne_of_lt (Nat.lt_of_lt_of_le (by have := World.block_lt_of_cell? _ _ hw123_1; first | rwa [add_block] at this | exact this) GW125.out) | (rw [add_block]; exact Nat.ne_of_lt (Nat.lt_of_lt_of_le (by have := World.block_lt_of_cell? _ _ hw123_1; first | rwa [add_block] at this | exact this) GW125.out)) | (show (Addr.add _ _).block ≠ _; rw [add_block]; exact Nat.ne_of_lt (Nat.lt_of_lt_of_le (by have := World.block_lt_of_cell? _ _ hw123_1; first | rwa [add_block] at this | exact this) GW125.out)) | (dsimp only; exact Nat.ne_of_lt (Nat.lt_of_lt_of_le (by have := World.block_lt_of_cell? _ _ hw123_1; first | rwa [add_block] at this | exact this) GW125.out))) _).trans (((cell_far (p := ⟨gb125, _, none⟩) (by first | exact Nat.ne_of_lt (Nat.lt_of_lt_of_le (by have := World.block_lt_of_cell? _ _ hw123_1; first | rwa [add_block] at this | exact this) GW125.out) | (rw [add_block]; exact Nat.ne_of_lt (Nat.lt_of_lt_of_le (by have := World.block_lt_of_cell? _ _ hw123_1; first | rwa [add_block] at this | exact this) GW125.out)) | (show (Addr.add _ _).block ≠ _; rw [add_block]; exact Nat.ne_of_lt (Nat.lt_of_lt_of_le (by have := World.block_lt_of_cell? _ _ hw123_1; first | rwa [add_block] at this | exact this) GW125.out)) | (dsimp only; exact Nat.ne_of_lt (Nat.lt_of_lt_of_le (by have := World.block_lt_of_cell? _ _ hw123_1; first | rwa [add_block] at this | exact this) GW125.out))) _).trans (hHeld.2.1)))))))), ((cell_far (p := ⟨gb125, _, none⟩) (by first | exact Nat.ne_of_lt (Nat.lt_of_lt_of_le (by have := World.block_lt_of_cell? _ _ hw123_2; first | rwa [add_block] at this | exact this) GW125.out) | (rw [add_block]; exact Nat.ne_of_lt (Nat.lt_of_lt_of_le (by have := World.block_lt_of_cell? _ _ hw123_2; first | rwa [add_block] at this | exact this) GW125.out)) | (show (Addr.add _ _).block ≠ _; rw [add_block]; exact Nat.ne_of_lt (Nat.lt_of_lt_of_le (by have := World.block_lt_of_cell? _ _ hw123_2; first | rwa [add_block] at this | exact this) GW125.out)) | (dsimp only; exact Nat.ne_of_lt (Nat.lt_of_lt_of_le (by have := World.block_lt_of_cell? _ _ hw123_2; first | rwa [add_block] at this | exact this) GW125.out))) _).trans (((cell_far (p := ⟨gb125, _, none⟩) (by first | exact Nat.ne_of_lt (Nat.lt_of_lt_of_le (by have := World.block_lt_of_cell? _ _ hw123_2; first | rwa [add_block] at this | exact this) GW125.out) | (rw [add_block]; exact Nat.ne_of_lt (Nat.lt_of_lt_of_le (by have := World.block_lt_of_cell? _ _ hw123_2; first | rwa [add_block] at this | exact this) GW125.out)) | (show (Addr.add _ _).block ≠ _; rw [add_block]; exact Nat.ne_of_lt (Nat.lt_of_lt_of_le (by have := World.block_lt_of_cell? _ _ hw123_2; first | rwa [add_block] at this | exact this) GW125.out)) | (dsimp only; exact Nat.ne_of_lt (Nat.lt_of_lt_of_le (by have := World.block_lt_of_cell? _ _ hw123_2; first | rwa [add_block] at this | exact this) GW125.out))) _).trans (((cell_far (p := ⟨gb125, _, none⟩) (by first | exact Nat.ne_of_lt (Nat.lt_of_lt_of_le (by have := World.block_lt_of_cell? _ _ hw123_2; first | rwa [add_block] at this | exact this) GW125.out) | (rw [add_block]; exact Nat.ne_of_lt (Nat.lt_of_lt_of_le (by have := World.block_lt_of_cell? _ _ hw123_2; first | rwa [add_block] at this | exact this) GW125.out)) | (show (Addr.add _ _).block ≠ _; rw [add_block]; exact Nat.ne_of_lt (Nat.lt_of_lt_of_le (by have := World.block_lt_of_cell? _ _ hw123_2; first | rwa [add_block] at this | exact this) GW125.out)) | (dsimp only; exact Nat.ne_of_lt (Nat.lt_of_lt_of_le (by have := World.block_lt_of_cell? _ _ hw123_2; first | rwa [add_block] at this | exact this) GW125.out))) _).trans (((cell_far (p := ⟨gb125, _, none⟩) (by first | exact Nat.ne_of_lt (Nat.lt_of_lt_of_le (by have := World.block_lt_of_cell? _ _ hw123_2; first | rwa [add_block] at this | exact this) GW125.out) | (rw [add_block]; exact Nat.ne_of_lt (Nat.lt_of_lt_of_le (by have := World.block_lt_of_cell? _ _ hw123_2; first | rwa [add_block] at this | exact this) GW125.out)) | (show (Addr.add _ _).block ≠ _; rw [add_block]; exact Nat.ne_of_lt (Nat.lt_of_lt_of_le (by have := World.block_lt_of_cell? _ _ hw123_2; first | rwa [add_block] at this | exact this) GW125.out)) | (dsimp only; exact Nat.ne_of_lt (Nat.lt_of_lt_of_le (by have := World.block_lt_of_cell? _ _ hw123_2; first | rwa [add_block] at this | exact this) GW125.out))) _).trans (hHeld.2.2.1)))))))), ((cell_far (p := ⟨gb125, _, none⟩) (by first | exact Nat.ne_of_lt (Nat.lt_of_lt_of_le (by have := World.block_lt_of_cell? _ _ hw123_3; first | rwa [add_block] at this | exact this) GW125.out) | (rw [add_block]; exact Nat.ne_of_lt (Nat.lt_of_lt_of_le (by have := World.block_lt_of_cell? _ _ hw123_3; first | rwa [add_block] at this | exact this) GW125.out)) | (show (Addr.add _ _).block ≠ _; rw [add_block]; exact Nat.ne_of_lt (Nat.lt_of_lt_of_le (by have := World.block_lt_of_cell? _ _ hw123_3; first | rwa [add_block] at this | exact this) GW125.out)) | (dsimp only; exact Nat.ne_of_lt (Nat.lt_of_lt_of_le (by have := World.block_lt_of_cell? _ _ hw123_3; first | rwa [add_block] at this | exact this) GW125.out))) _).trans (((cell_far (p := ⟨gb125, _, none⟩) (by first | exact Nat.ne_of_lt (Nat.lt_of_lt_of_le (by have := World.block_lt_of_cell? _ _ hw123_3; first | rwa [add_block] at this | exact this) GW125.out) | (rw [add_block]; exact Nat.ne_of_lt (Nat.lt_of_lt_of_le (by have := World.block_lt_of_cell? _ _ hw123_3; first | rwa [add_block] at this | exact this) GW125.out)) | (show (Addr.add _ _).block ≠ _; rw [add_block]; exact Nat.ne_of_lt (Nat.lt_of_lt_of_le (by have := World.block_lt_of_cell? _ _ hw123_3; first | rwa [add_block] at this | exact this) GW125.out)) | (dsimp only; exact Nat.ne_of_lt (Nat.lt_of_lt_of_le (by have := World.block_lt_of_cell? _ _ hw123_3; first | rwa [add_block] at this | exact this) GW125.out))) _).trans (((cell_far (p := ⟨gb125, _, none⟩) (by first | exact Nat.ne_of_lt (Nat.lt_of_lt_of_le (by have := World.block_lt_of_cell? _ _ hw123_3; first | rwa [add_block] at this | exact this) GW125.out) | (rw [add_block]; exact Nat.ne_of_lt (Nat.lt_of_lt_of_le (by have := World.block_lt_of_cell? _ _ hw123_3; first | rwa [add_block] at this | exact this) GW125.out)) | (show (Addr.add _ _).block ≠ _; rw [add_block]; exact Nat.ne_of_lt (Nat.lt_of_lt_of_le (by have := World.block_lt_of_cell? _ _ hw123_3; first | rwa [add_block] at this | exact this) GW125.out)) | (dsimp only; exact Nat.ne_of_lt (Nat.lt_of_lt_of_le (by have := World.block_lt_of_cell? _ _ hw123_3; first | rwa [add_block] at this | exact this) GW125.out))) _).trans (((cell_far (p := ⟨gb125, _, none⟩) (by first | exact Nat.ne_of_lt (Nat.lt_of_lt_of_le (by have := World.block_lt_of_cell? _ _ hw123_3; first | rwa [add_block] at this | exact this) GW125.out) | (rw [add_block]; exact Nat.ne_of_lt (Nat.lt_of_lt_of_le (by have := World.block_lt_of_cell? _ _ hw123_3; first | rwa [add_block] at this | exact this) GW125.out)) | (show (Addr.add _ _).block ≠ _; rw [add_block]; exact Nat.ne_of_lt (Nat.lt_of_lt_of_le (by have := World.block_lt_of_cell? _ _ hw123_3; first | rwa [add_block] at this | exact this) GW125.out)) | (dsimp only; exact Nat.ne_of_lt (Nat.lt_of_lt_of_le (by have := World.block_lt_of_cell? _ _ hw123_3; first | rwa [add_block] at this | exact this) GW125.out))) _).trans (hHeld.2.2.2.1)))))))), ((cell_far (p := ⟨gb125, _, none⟩) (by first | exact Nat.ne_of_lt (Nat.lt_of_lt_of_le (by have := World.block_lt_of_cell? _ _ hw124_0; first | rwa [add_block] at this | exact this) GW125.out) | (rw [add_block]; exact Nat.ne_of_lt (Nat.lt_of_lt_of_le (by have := World.block_lt_of_cell? _ _ hw124_0; first | rwa [add_block] at this | exact this) GW125.out)) | (show (Addr.add _ _).block ≠ _; rw [add_block]; exact Nat.ne_of_lt (Nat.lt_of_lt_of_le (by have := World.block_lt_of_cell? _ _ hw124_0; first | rwa [add_block] at this | exact this) GW125.out)) | (dsimp only; exact Nat.ne_of_lt (Nat.lt_of_lt_of_le (by have := World.block_lt_of_cell? _ _ hw124_0; first | rwa [add_block] at this | exact this) GW125.out))) _).trans (((cell_far (p := ⟨gb125, _, none⟩) (by first | exact Nat.ne_of_lt (Nat.lt_of_lt_of_le (by have := World.block_lt_of_cell? _ _ hw124_0; first | rwa [add_block] at this | exact this) GW125.out) | (rw [add_block]; exact Nat.ne_of_lt (Nat.lt_of_lt_of_le (by have := World.block_lt_of_cell? _ _ hw124_0; first | rwa [add_block] at this | exact this) GW125.out)) | (show (Addr.add _ _).block ≠ _; rw [add_block]; exact Nat.ne_of_lt (Nat.lt_of_lt_of_le (by have := World.block_lt_of_cell? _ _ hw124_0; first | rwa [add_block] at this | exact this) GW125.out)) | (dsimp only; exact Nat.ne_of_lt (Nat.lt_of_lt_of_le (by have := World.block_lt_of_cell? _ _ hw124_0; first | rwa [add_block] at this | exact this) GW125.out))) _).trans (((cell_far (p := ⟨gb125, _, none⟩) (by first | exact Nat.ne_of_lt (Nat.lt_of_lt_of_le (by have := World.block_lt_of_cell? _ _ hw124_0; first | rwa [add_block] at this | exact this) GW125.out) | (rw [add_block]; exact Nat.ne_of_lt (Nat.lt_of_lt_of_le (by have := World.block_lt_of_cell? _ _ hw124_0; first | rwa [add_block] at this | exact this) GW125.out)) | (show (Addr.add _ _).block ≠ _; rw [add_block]; exact Nat.ne_of_lt (Nat.lt_of_lt_of_le (by have := World.block_lt_of_cell? _ _ hw124_0; first | rwa [add_block] at this | exact this) GW125.out)) | (dsimp only; exact Nat.ne_of_lt (Nat.lt_of_lt_of_le (by have := World.block_lt_of_cell? _ _ hw124_0; first | rwa [add_block] at this | exact this) GW125.out))) _).trans (((cell_far (p := ⟨gb125, _, none⟩) (by first | exact Nat.ne_of_lt (Nat.lt_of_lt_of_le (by have := World.block_lt_of_cell? _ _ hw124_0; first | rwa [add_block] at this | exact this) GW125.out) | (rw [add_block]; exact Nat.ne_of_lt (Nat.lt_of_lt_of_le (by have := World.block_lt_of_cell? _ _ hw124_0; first | rwa [add_block] at this | exact this) GW125.out)) | (show (Addr.add _ _).block ≠ _; rw [add_block]; exact Nat.ne_of_lt (Nat.lt_of_lt_of_le (by have := World.block_lt_of_cell? _ _ hw124_0; first | rwa [add_block] at this | exact this) GW125.out)) | (dsimp only; exact Nat.ne_of_lt (Nat.lt_of_lt_of_le (by have := World.block_lt_of_cell? _ _ hw124_0; first | rwa [add_block] at this | exact this) GW125.out))) _).trans (hHeld.2.2.2.2.1)))))))), ((cell_far (p := ⟨gb125, _, none⟩) (by first | exact Nat.ne_of_lt (Nat.lt_of_lt_of_le (by have := World.block_lt_of_cell? _ _ hw124_1; first | rwa [add_block] at this | exact this) GW125.out) | (rw [add_block]; exact Nat.ne_of_lt (Nat.lt_of_lt_of_le (by have := World.block_lt_of_cell? _ _ hw124_1; first | rwa [add_block] at this | exact this) GW125.out)) | (show (Addr.add _ _).block ≠ _; rw [add_block]; exact Nat.ne_of_lt (Nat.lt_of_lt_of_le (by have := World.block_lt_of_cell? _ _ hw124_1; first | rwa [add_block] at this | exact this) GW125.out)) | (dsimp only; exact Nat.ne_of_lt (Nat.lt_of_lt_of_le (by have := World.block_lt_of_cell? _ _ hw124_1; first | rwa [add_block] at this | exact this) GW125.out))) _).trans (((cell_far (p := ⟨gb125, _, none⟩) (by first | exact Nat.ne_of_lt (Nat.lt_of_lt_of_le (by have := World.block_lt_of_cell? _ _ hw124_1; first | rwa [add_block] at this | exact this) GW125.out) | (rw [add_block]; exact Nat.ne_of_lt (Nat.lt_of_lt_of_le (by have := World.block_lt_of_cell? _ _ hw124_1; first | rwa [add_block] at this | exact this) GW125.out)) | (show (Addr.add _ _).block ≠ _; rw [add_block]; exact Nat.ne_of_lt (Nat.lt_of_lt_of_le (by have := World.block_lt_of_cell? _ _ hw124_1; first | rwa [add_block] at this | exact this) GW125.out)) | (dsimp only; exact Nat.ne_of_lt (Nat.lt_of_lt_of_le (by have := World.block_lt_of_cell? _ _ hw124_1; first | rwa [add_block] at this | exact this) GW125.out))) _).trans (((cell_far (p := ⟨gb125, _, none⟩) (by first | exact Nat.ne_of_lt (Nat.lt_of_lt_of_le (by have := World.block_lt_of_cell? _ _ hw124_1; first | rwa [add_block] at this | exact this) GW125.out) | (rw [add_block]; exact Nat.ne_of_lt (Nat.lt_of_lt_of_le (by have := World.block_lt_of_cell? _ _ hw124_1; first | rwa [add_block] at this | exact this) GW125.out)) | (show (Addr.add _ _).block ≠ _; rw [add_block]; exact Nat.ne_of_lt (Nat.lt_of_lt_of_le (by have := World.block_lt_of_cell? _ _ hw124_1; first | rwa [add_block] at this | exact this) GW125.out)) | (dsimp only; exact Nat.ne_of_lt (Nat.lt_of_lt_of_le (by have := World.block_lt_of_cell? _ _ hw124_1; first | rwa [add_block] at this | exact this) GW125.out))) _).trans (((cell_far (p := ⟨gb125, _, none⟩) (by first | exact Nat.ne_of_lt (Nat.lt_of_lt_of_le (by have := World.block_lt_of_cell? _ _ hw124_1; first | rwa [add_block] at this | exact this) GW125.out) | (rw [add_block]; exact Nat.ne_of_lt (Nat.lt_of_lt_of_le (by have := World.block_lt_of_cell? _ _ hw124_1; first | rwa [add_block] at this | exact this) GW125.out)) | (show (Addr.add _ _).block ≠ _; rw [add_block]; exact Nat.ne_of_lt (Nat.lt_of_lt_of_le (by have := World.block_lt_of_cell? _ _ hw124_1; first | rwa [add_block] at this | exact this) GW125.out)) | (dsimp only; exact Nat.ne_of_lt (Nat.lt_of_lt_of_le (by have := World.block_lt_of_cell? _ _ hw124_1; first | rwa [add_block] at this | exact this) GW125.out))) _).trans (hHeld.2.2.2.2.2.1)))))))), ((cell_far (p := ⟨gb125, _, none⟩) (by first | exact Nat.ne_of_lt (Nat.lt_of_lt_of_le (by have := World.block_lt_of_cell? _ _ hw124_2; first | rwa [add_block] at this | exact this) GW125.out) | (rw [add_block]; exact Nat.ne_of_lt (Nat.lt_of_lt_of_le (by have := World.block_lt_of_cell? _ _ hw124_2; first | rwa [add_block] at this | exact this) GW125.out)) | (show (Addr.add _ _).block ≠ _; rw [add_block]; exact Nat.ne_of_lt (Nat.lt_of_lt_of_le (by have := World.block_lt_of_cell? _ _ hw124_2; first | rwa [add_block] at this | exact this) GW125.out)) | (dsimp only; exact Nat.ne_of_lt (Nat.lt_of_lt_of_le (by have := World.block_lt_of_cell? _ _ hw124_2; first | rwa [add_block] at this | exact this) GW125.out))) _).trans (((cell_far (p := ⟨gb125, _, none⟩) (by first | exact Nat.ne_of_lt (Nat.lt_of_lt_of_le (by have := World.block_lt_of_cell? _ _ hw124_2; first | rwa [add_block] at this | exact this) GW125.out) | (rw [add_block]; exact Nat.ne_of_lt (Nat.lt_of_lt_of_le (by have := World.block_lt_of_cell? _ _ hw124_2; first | rwa [add_block] at this | exact this) GW125.out)) | (show (Addr.add _ _).block ≠ _; rw [add_block]; exact Nat.ne_of_lt (Nat.lt_of_lt_of_le (by have := World.block_lt_of_cell? _ _ hw124_2; first | rwa [add_block] at this | exact this) GW125.out)) | (dsimp only; exact Nat.ne_of_lt (Nat.lt_of_lt_of_le (by have := World.block_lt_of_cell? _ _ hw124_2; first | rwa [add_block] at this | exact this) GW125.out))) _).trans (((cell_far (p := ⟨gb125, _, none⟩) (by first | exact Nat.ne_of_lt (Nat.lt_of_lt_of_le (by have := World.block_lt_of_cell? _ _ hw124_2; first | rwa [add_block] at this | exact this) GW125.out) | (rw [add_block]; exact Nat.ne_of_lt (Nat.lt_of_lt_of_le (by have := World.block_lt_of_cell? _ _ hw124_2; first | rwa [add_block] at this | exact this) GW125.out)) | (show (Addr.add _ _).block ≠ _; rw [add_block]; exact Nat.ne_of_lt (Nat.lt_of_lt_of_le (by have := World.block_lt_of_cell? _ _ hw124_2; first | rwa [add_block] at this | exact this) GW125.out)) | (dsimp only; exact Nat.ne_of_lt (Nat.lt_of_lt_of_le (by have := World.block_lt_of_cell? _ _ hw124_2; first | rwa [add_block] at this | exact this) GW125.out))) _).trans (((cell_far (p := ⟨gb125, _, none⟩) (by first | exact Nat.ne_of_lt (Nat.lt_of_lt_of_le (by have := World.block_lt_of_cell? _ _ hw124_2; first | rwa [add_block] at this | exact this) GW125.out) | (rw [add_block]; exact Nat.ne_of_lt (Nat.lt_of_lt_of_le (by have := World.block_lt_of_cell? _ _ hw124_2; first | rwa [add_block] at this | exact this) GW125.out)) | (show (Addr.add _ _).block ≠ _; rw [add_block]; exact Nat.ne_of_lt (Nat.lt_of_lt_of_le (by have := World.block_lt_of_cell? _ _ hw124_2; first | rwa [add_block] at this | exact this) GW125.out)) | (dsimp only; exact Nat.ne_of_lt (Nat.lt_of_lt_of_le (by have := World.block_lt_of_cell? _ _ hw124_2; first | rwa [add_block] at this | exact this) GW125.out))) _).trans (hHeld.2.2.2.2.2.2.1)))))))), ((cell_far (p := ⟨gb125, _, none⟩) (by first | exact Nat.ne_of_lt (Nat.lt_of_lt_of_le (by have := World.block_lt_of_cell? _ _ hw124_3; first | rwa [add_block] at this | exact this) GW125.out) | (rw [add_block]; exact Nat.ne_of_lt (Nat.lt_of_lt_of_le (by have := World.block_lt_of_cell? _ _ hw124_3; first | rwa [add_block] at this | exact this) GW125.out)) | (show (Addr.add _ _).block ≠ _; rw [add_block]; exact Nat.ne_of_lt (Nat.lt_of_lt_of_le (by have := World.block_lt_of_cell? _ _ hw124_3; first | rwa [add_block] at this | exact this) GW125.out)) | (dsimp only; exact Nat.ne_of_lt (Nat.lt_of_lt_of_le (by have := World.block_lt_of_cell? _ _ hw124_3; first | rwa [add_block] at this | exact this) GW125.out))) _).trans (((cell_far (p := ⟨gb125, _, none⟩) (by first | exact Nat.ne_of_lt (Nat.lt_of_lt_of_le (by have := World.block_lt_of_cell? _ _ hw124_3; first | rwa [add_block] at this | exact this) GW125.out) | (rw [add_block]; exact Nat.ne_of_lt (Nat.lt_of_lt_of_le (by have := World.block_lt_of_cell? _ _ hw124_3; first | rwa [add_block] at this | exact this) GW125.out)) | (show (Addr.add _ _).block ≠ _; rw [add_block]; exact Nat.ne_of_lt (Nat.lt_of_lt_of_le (by have := World.block_lt_of_cell? _ _ hw124_3; first | rwa [add_block] at this | exact this) GW125.out)) | (dsimp only; exact Nat.ne_of_lt (Nat.lt_of_lt_of_le (by have := World.block_lt_of_cell? _ _ hw124_3; first | rwa [add_block] at this | exact this) GW125.out))) _).trans (((cell_far (p := ⟨gb125, _, none⟩) (by first | exact Nat.ne_of_lt (Nat.lt_of_lt_of_le (by have := World.block_lt_of_cell? _ _ hw124_3; first | rwa [add_block] at this | exact this) GW125.out) | (rw [add_block]; exact Nat.ne_of_lt (Nat.lt_of_lt_of_le (by have := World.block_lt_of_cell? _ _ hw124_3; first | rwa [add_block] at this | exact this) GW125.out)) | (show (Addr.add _ _).block ≠ _; rw [add_block]; exact Nat.ne_of_lt (Nat.lt_of_lt_of_le (by have := World.block_lt_of_cell? _ _ hw124_3; first | rwa [add_block] at this | exact this) GW125.out)) | (dsimp only; exact Nat.ne_of_lt (Nat.lt_of_lt_of_le (by have := World.block_lt_of_cell? _ _ hw124_3; first | rwa [add_block] at this | exact this) GW125.out))) _).trans (((cell_far (p := ⟨gb125, _, none⟩) (by first | exact Nat.ne_of_lt (Nat.lt_of_lt_of_le (by have := World.block_lt_of_cell? _ _ hw124_3; first | rwa [add_block] at this | exact this) GW125.out) | (rw [add_block]; exact Nat.ne_of_lt (Nat.lt_of_lt_of_le (by have := World.block_lt_of_cell? _ _ hw124_3; first | rwa [add_block] at this | exact this) GW125.out)) | (show (Addr.add _ _).block ≠ _; rw [add_block]; exact Nat.ne_of_lt (Nat.lt_of_lt_of_le (by have := World.block_lt_of_cell? _ _ hw124_3; first | rwa [add_block] at this | exact this) GW125.out)) | (dsimp only; exact Nat.ne_of_lt (Nat.lt_of_lt_of_le (by have := World.block_lt_of_cell? _ _ hw124_3; first | rwa [add_block] at this | exact this) GW125.out))) _).trans (hHeld.2.2.2.2.2.2.2))))))))⟩ (fun hHeld => ?_)
           clear hK K
           refine one_ (i := 19) (N := none) (bm 20 1048575) rfl rfl (one_of HT_.out (by kernel_rfl)) (by decide) (fun K hK => ?_)
           have hs75 : w70.cell? ⟨gb126, 0, none⟩ = some (.int .i64 0) := (blk_cell BK126.out 0).trans rfl
           have hfs75 := blk_frozen BK126.out 0
           have hns75_0 := NB125_126.out
           have hms75_0 := NB126_125.out
           have hs76 : w70.cell? ⟨gb126, 1, none⟩ = some (.int .i64 0) := (blk_cell BK126.out 1).trans rfl
           have hfs76 := blk_frozen BK126.out 1
           have hns76_0 := NB125_126.out
           have hms76_0 := NB126_125.out
           have hs77 : w70.cell? ⟨gb126, 2, none⟩ = some (.int .i64 0) := (blk_cell BK126.out 2).trans rfl
           have hfs77 := blk_frozen BK126.out 2
           have hns77_0 := NB125_126.out
           have hms77_0 := NB126_125.out
           have hs78 : w70.cell? ⟨gb126, 3, none⟩ = some (.slice none 0 0) := (blk_cell BK126.out 3).trans rfl
           have hfs78 := blk_frozen BK126.out 3
           have hns78_0 := NB125_126.out
           have hms78_0 := NB126_125.out
           refine skip_ (w1 := ?_) (by rfl) rfl ?_ ?_
           rotate_left
           ·go_simp
            rfl
           refine hK.out _ _ ⟨((cell_far (p := ⟨gb126, _, none⟩) (by first | exact Nat.ne_of_lt (Nat.lt_of_lt_of_le (by have := World.block_lt_of_cell? _ _ hw123_0; first | rwa [add_block] at this | exact this) GW126.out) | (rw [add_block]; exact Nat.ne_of_lt (Nat.lt_of_lt_of_le (by have := World.block_lt_of_cell? _ _ hw123_0; first | rwa [add_block] at this | exact this) GW126.out)) | (show (Addr.add _ _).block ≠ _; rw [add_block]; exact Nat.ne_of_lt (Nat.lt_of_lt_of_le (by have := World.block_lt_of_cell? _ _ hw123_0; first | rwa [add_block] at this | exact this) GW126.out)) | (dsimp only; exact Nat.ne_of_lt (Nat.lt_of_lt_of_le (by have := World.block_lt_of_cell? _ _ hw123_0; first | rwa [add_block] at this | exact this) GW126.out))) _).trans (((cell_far (p := ⟨gb126, _, none⟩) (by first | exact Nat.ne_of_lt (Nat.lt_of_lt_of_le (by have := World.block_lt_of_cell? _ _ hw123_0; first | rwa [add_block] at this | exact this) GW126.out) | (rw [add_block]; exact Nat.ne_of_lt (Nat.lt_of_lt_of_le (by have := World.block_lt_of_cell? _ _ hw123_0; first | rwa [add_block] at this | exact this) GW126.out)) | (show (Addr.add _ _).block ≠ _; rw [add_block]; exact Nat.ne_of_lt (Nat.lt_of_lt_of_le (by have := World.block_lt_of_cell? _ _ hw123_0; first | rwa [add_block] at this | exact this) GW126.out)) | (dsimp only; exact Nat.ne_of_lt (Nat.lt_of_lt_of_le (by have := World.block_lt_of_cell? _ _ hw123_0; first | rwa [add_block] at this | exact this) GW126.out))) _).trans (((cell_far (p := ⟨gb126, _, none⟩) (by first | exact Nat.ne_of_lt (Nat.lt_of_lt_of_le (by have := World.block_lt_of_cell? _ _ hw123_0; first | rwa [add_block] at this | exact this) GW126.out) | (rw [add_block]; exact Nat.ne_of_lt (Nat.lt_of_lt_of_le (by have := World.block_lt_of_cell? _ _ hw123_0; first | rwa [add_block] at this | exact this) GW126.out)) | (show (Addr.add _ _).block ≠ _; rw [add_block]; exact Nat.ne_of_lt (Nat.lt_of_lt_of_le (by have := World.block_lt_of_cell? _ _ hw123_0; first | rwa [add_block] at this | exact this) GW126.out)) | (dsimp only; exact Nat.ne_of_lt (Nat.lt_of_lt_of_le (by have := World.block_lt_of_cell? _ _ hw123_0; first | rwa [add_block] at this | exact this) GW126.out))) _).trans (((cell_far (p := ⟨gb126, _, none⟩) (by first | exact Nat.ne_of_lt (Nat.lt_of_lt_of_le (by have := World.block_lt_of_cell? _ _ hw123_0; first | rwa [add_block] at this | exact this) GW126.out) | (rw [add_block]; exact Nat.ne_of_lt (Nat.lt_of_lt_of_le (by have := World.block_lt_of_cell? _ _ hw123_0; first | rwa [add_block] at this | exact this) GW126.out)) | (show (Addr.add _ _).block ≠ _; rw [add_block]; exact Nat.ne_of_lt (Nat.lt_of_lt_of_le (by have := World.block_lt_of_cell? _ _ hw123_0; first | rwa [add_block] at this | exact this) GW126.out)) | (dsimp only; exact Nat.ne_of_lt (Nat.lt_of_lt_of_le (by have := World.block_lt_of_cell? _ _ hw123_0; first | rwa [add_block] at this | exact this) GW126.out))) _).trans (hHeld.1)))))))), ((cell_far (p := ⟨gb126, _, none⟩) (by first | exact Nat.ne_of_lt (Nat.lt_of_lt_of_le (by have := World.block_lt_of_cell? _ _ hw123_1; first | rwa [add_block] at this | exact this) GW126.out) | (rw [add_block]; exact Nat.ne_of_lt (Nat.lt_of_lt_of_le (by have := World.block_lt_of_cell? _ _ hw123_1; first | rwa [add_block] at this | exact this) GW126.out)) | (show (Addr.add _ _).block ≠ _; rw [add_block]; exact Nat.ne_of_lt (Nat.lt_of_lt_of_le (by have := World.block_lt_of_cell? _ _ hw123_1; first | rwa [add_block] at this | exact this) GW126.out)) | (dsimp only; exact Nat.ne_of_lt (Nat.lt_of_lt_of_le (by have := World.block_lt_of_cell? _ _ hw123_1; first | rwa [add_block] at this | exact this) GW126.out))) _).trans (((cell_far (p := ⟨gb126, _, none⟩) (by first | exact Nat.ne_of_lt (Nat.lt_of_lt_of_le (by have := World.block_lt_of_cell? _ _ hw123_1; first | rwa [add_block] at this | exact this) GW126.out) | (rw [add_block]; exact Nat.ne_of_lt (Nat.lt_of_lt_of_le (by have := World.block_lt_of_cell? _ _ hw123_1; first | rwa [add_block] at this | exact this) GW126.out)) | (show (Addr.add _ _).block ≠ _; rw [add_block]; exact Nat.ne_of_lt (Nat.lt_of_lt_of_le (by have := World.block_lt_of_cell? _ _ hw123_1; first | rwa [add_block] at this | exact this) GW126.out)) | (dsimp only; exact Nat.ne_of_lt (Nat.lt_of_lt_of_le (by have := World.block_lt_of_cell? _ _ hw123_1; first | rwa [add_block] at this | exact this) GW126.out))) _).trans (((cell_far (p := ⟨gb126, _, none⟩) (by first | exact Nat.ne_of_lt (Nat.lt_of_lt_of_le (by have := World.block_lt_of_cell? _ _ hw123_1; first | rwa [add_block] at this | exact this) GW126.out) | (rw [add_block]; exact Nat.ne_of_lt (Nat.lt_of_lt_of_le (by have := World.block_lt_of_cell? _ _ hw123_1; first | rwa [add_block] at this | exact this) GW126.out)) | (show (Addr.add _ _).block ≠ _; rw [add_block]; exact Nat.ne_of_lt (Nat.lt_of_lt_of_le (by have := World.block_lt_of_cell? _ _ hw123_1; first | rwa [add_block] at this | exact this) GW126.out)) | (dsimp only; exact Nat.ne_of_lt (Nat.lt_of_lt_of_le (by have := World.block_lt_of_cell? _ _ hw123_1; first | rwa [add_block] at this | exact this) GW126.out))) _).trans (((cell_far (p := ⟨gb126, _, none⟩) (by first | exact Nat.ne_of_lt (Nat.lt_of_lt_of_le (by have := World.block_lt_of_cell? _ _ hw123_1; first | rwa [add_block] at this | exact this) GW126.out) | (rw [add_block]; exact Nat.ne_of_lt (Nat.lt_of_lt_of_le (by have := World.block_lt_of_cell? _ _ hw123_1; first | rwa [add_block] at this | exact this) GW126.out)) | (show (Addr.add _ _).block ≠ _; rw [add_block]; exact Nat.ne_of_lt (Nat.lt_of_lt_of_le (by have := World.block_lt_of_cell? _ _ hw123_1; first | rwa [add_block] at this | exact this) GW126.out)) | (dsimp only; exact Nat.ne_of_lt (Nat.lt_of_lt_of_le (by have := World.block_lt_of_cell? _ _ hw123_1; first | rwa [add_block] at this | exact this) GW126.out))) _).trans (hHeld.2.1)))))))), ((cell_far (p := ⟨gb126, _, none⟩) (by first | exact Nat.ne_of_lt (Nat.lt_of_lt_of_le (by have := World.block_lt_of_cell? _ _ hw123_2; first | rwa [add_block] at this | exact this) GW126.out) | (rw [add_block]; exact Nat.ne_of_lt (Nat.lt_of_lt_of_le (by have := World.block_lt_of_cell? _ _ hw123_2; first | rwa [add_block] at this | exact this) GW126.out)) | (show (Addr.add _ _).block ≠ _; rw [add_block]; exact Nat.ne_of_lt (Nat.lt_of_lt_of_le (by have := World.block_lt_of_cell? _ _ hw123_2; first | rwa [add_block] at this | exact this) GW126.out)) | (dsimp only; exact Nat.ne_of_lt (Nat.lt_of_lt_of_le (by have := World.block_lt_of_cell? _ _ hw123_2; first | rwa [add_block] at this | exact this) GW126.out))) _).trans (((cell_far (p := ⟨gb126, _, none⟩) (by first | exact Nat.ne_of_lt (Nat.lt_of_lt_of_le (by have := World.block_lt_of_cell? _ _ hw123_2; first | rwa [add_block] at this | exact this) GW126.out) | (rw [add_block]; exact Nat.ne_of_lt (Nat.lt_of_lt_of_le (by have := World.block_lt_of_cell? _ _ hw123_2; first | rwa [add_block] at this | exact this) GW126.out)) | (show (Addr.add _ _).block ≠ _; rw [add_block]; exact Nat.ne_of_lt (Nat.lt_of_lt_of_le (by have := World.block_lt_of_cell? _ _ hw123_2; first | rwa [add_block] at this | exact this) GW126.out)) | (dsimp only; exact Nat.ne_of_lt (Nat.lt_of_lt_of_le (by have := World.block_lt_of_cell? _ _ hw123_2; first | rwa [add_block] at this | exact this) GW126.out))) _).trans (((cell_far (p := ⟨gb126, _, none⟩) (by first | exact Nat.ne_of_lt (Nat.lt_of_lt_of_le (by have := World.block_lt_of_cell? _ _ hw123_2; first | rwa [add_block] at this | exact this) GW126.out) | (rw [add_block]; exact Nat.ne_of_lt (Nat.lt_of_lt_of_le (by have := World.block_lt_of_cell? _ _ hw123_2; first | rwa [add_block] at this | exact this) GW126.out)) | (show (Addr.add _ _).block ≠ _; rw [add_block]; exact Nat.ne_of_lt (Nat.lt_of_lt_of_le (by have := World.block_lt_of_cell? _ _ hw123_2; first | rwa [add_block] at this | exact this) GW126.out)) | (dsimp only; exact Nat.ne_of_lt (Nat.lt_of_lt_of_le (by have := World.block_lt_of_cell? _ _ hw123_2; first | rwa [add_block] at this | exact this) GW126.out))) _).trans (((cell_far (p := ⟨gb126, _, none⟩) (by first | exact Nat.ne_of_lt (Nat.lt_of_lt_of_le (by have := World.block_lt_of_cell? _ _ hw123_2; first | rwa [add_block] at this | exact this) GW126.out) | (rw [add_block]; exact Nat.ne_of_lt (Nat.lt_of_lt_of_le (by have := World.block_lt_of_cell? _ _ hw123_2; first | rwa [add_block] at this | exact this) GW126.out)) | (show (Addr.add _ _).block ≠ _; rw [add_block]; exact Nat.ne_of_lt (Nat.lt_of_lt_of_le (by have := World.block_lt_of_cell? _ _ hw123_2; first | rwa [add_block] at this | exact this) GW126.out)) | (dsimp only; exact Nat.ne_of_lt (Nat.lt_of_lt_of_le (by have := World.block_lt_of_cell? _ _ hw123_2; first | rwa [add_block] at this | exact this) GW126.out))) _).trans (hHeld.2.2.1)))))))), ((cell_far (p := ⟨gb126, _, none⟩) (by first | exact Nat.ne_of_lt (Nat.lt_of_lt_of_le (by have := World.block_lt_of_cell? _ _ hw123_3; first | rwa [add_block] at this | exact this) GW126.out) | (rw [add_block]; exact Nat.ne_of_lt (Nat.lt_of_lt_of_le (by have := World.block_lt_of_cell? _ _ hw123_3; first | rwa [add_block] at this | exact this) GW126.out)) | (show (Addr.add _ _).block ≠ _; rw [add_block]; exact Nat.ne_of_lt (Nat.lt_of_lt_of_le (by have := World.block_lt_of_cell? _ _ hw123_3; first | rwa [add_block] at this | exact this) GW126.out)) | (dsimp only; exact Nat.ne_of_lt (Nat.lt_of_lt_of_le (by have := World.block_lt_of_cell? _ _ hw123_3; first | rwa [add_block] at this | exact this) GW126.out))) _).trans (((cell_far (p := ⟨gb126, _, none⟩) (by first | exact Nat.ne_of_lt (Nat.lt_of_lt_of_le (by have := World.block_lt_of_cell? _ _ hw123_3; first | rwa [add_block] at this | exact this) GW126.out) | (rw [add_block]; exact Nat.ne_of_lt (Nat.lt_of_lt_of_le (by have := World.block_lt_of_cell? _ _ hw123_3; first | rwa [add_block] at this | exact this) GW126.out)) | (show (Addr.add _ _).block ≠ _; rw [add_block]; exact Nat.ne_of_lt (Nat.lt_of_lt_of_le (by have := World.block_lt_of_cell? _ _ hw123_3; first | rwa [add_block] at this | exact this) GW126.out)) | (dsimp only; exact Nat.ne_of_lt (Nat.lt_of_lt_of_le (by have := World.block_lt_of_cell? _ _ hw123_3; first | rwa [add_block] at this | exact this) GW126.out))) _).trans (((cell_far (p := ⟨gb126, _, none⟩) (by first | exact Nat.ne_of_lt (Nat.lt_of_lt_of_le (by have := World.block_lt_of_cell? _ _ hw123_3; first | rwa [add_block] at this | exact this) GW126.out) | (rw [add_block]; exact Nat.ne_of_lt (Nat.lt_of_lt_of_le (by have := World.block_lt_of_cell? _ _ hw123_3; first | rwa [add_block] at this | exact this) GW126.out)) | (show (Addr.add _ _).block ≠ _; rw [add_block]; exact Nat.ne_of_lt (Nat.lt_of_lt_of_le (by have := World.block_lt_of_cell? _ _ hw123_3; first | rwa [add_block] at this | exact this) GW126.out)) | (dsimp only; exact Nat.ne_of_lt (Nat.lt_of_lt_of_le (by have := World.block_lt_of_cell? _ _ hw123_3; first | rwa [add_block] at this | exact this) GW126.out))) _).trans (((cell_far (p := ⟨gb126, _, none⟩) (by first | exact Nat.ne_of_lt (Nat.lt_of_lt_of_le (by have := World.block_lt_of_cell? _ _ hw123_3; first | rwa [add_block] at this | exact this) GW126.out) | (rw [add_block]; exact Nat.ne_of_lt (Nat.lt_of_lt_of_le (by have := World.block_lt_of_cell? _ _ hw123_3; first | rwa [add_block] at this | exact this) GW126.out)) | (show (Addr.add _ _).block ≠ _; rw [add_block]; exact Nat.ne_of_lt (Nat.lt_of_lt_of_le (by have := World.block_lt_of_cell? _ _ hw123_3; first | rwa [add_block] at this | exact this) GW126.out)) | (dsimp only; exact Nat.ne_of_lt (Nat.lt_of_lt_of_le (by have := World.block_lt_of_cell? _ _ hw123_3; first | rwa [add_block] at this | exact this) GW126.out))) _).trans (hHeld.2.2.2.1)))))))), ((cell_far (p := ⟨gb126, _, none⟩) (by first | exact Nat.ne_of_lt (Nat.lt_of_lt_of_le (by have := World.block_lt_of_cell? _ _ hw124_0; first | rwa [add_block] at this | exact this) GW126.out) | (rw [add_block]; exact Nat.ne_of_lt (Nat.lt_of_lt_of_le (by have := World.block_lt_of_cell? _ _ hw124_0; first | rwa [add_block] at this | exact this) GW126.out)) | (show (Addr.add _ _).block ≠ _; rw [add_block]; exact Nat.ne_of_lt (Nat.lt_of_lt_of_le (by have := World.block_lt_of_cell? _ _ hw124_0; first | rwa [add_block] at this | exact this) GW126.out)) | (dsimp only; exact Nat.ne_of_lt (Nat.lt_of_lt_of_le (by have := World.block_lt_of_cell? _ _ hw124_0; first | rwa [add_block] at this | exact this) GW126.out))) _).trans (((cell_far (p := ⟨gb126, _, none⟩) (by first | exact Nat.ne_of_lt (Nat.lt_of_lt_of_le (by have := World.block_lt_of_cell? _ _ hw124_0; first | rwa [add_block] at this | exact this) GW126.out) | (rw [add_block]; exact Nat.ne_of_lt (Nat.lt_of_lt_of_le (by have := World.block_lt_of_cell? _ _ hw124_0; first | rwa [add_block] at this | exact this) GW126.out)) | (show (Addr.add _ _).block ≠ _; rw [add_block]; exact Nat.ne_of_lt (Nat.lt_of_lt_of_le (by have := World.block_lt_of_cell? _ _ hw124_0; first | rwa [add_block] at this | exact this) GW126.out)) | (dsimp only; exact Nat.ne_of_lt (Nat.lt_of_lt_of_le (by have := World.block_lt_of_cell? _ _ hw124_0; first | rwa [add_block] at this | exact this) GW126.out))) _).trans (((cell_far (p := ⟨gb126, _, none⟩) (by first | exact Nat.ne_of_lt (Nat.lt_of_lt_of_le (by have := World.block_lt_of_cell? _ _ hw124_0; first | rwa [add_block] at this | exact this) GW126.out) | (rw [add_block]; exact Nat.ne_of_lt (Nat.lt_of_lt_of_le (by have := World.block_lt_of_cell? _ _ hw124_0; first | rwa [add_block] at this | exact this) GW126.out)) | (show (Addr.add _ _).block ≠ _; rw [add_block]; exact Nat.ne_of_lt (Nat.lt_of_lt_of_le (by have := World.block_lt_of_cell? _ _ hw124_0; first | rwa [add_block] at this | exact this) GW126.out)) | (dsimp only; exact Nat.ne_of_lt (Nat.lt_of_lt_of_le (by have := World.block_lt_of_cell? _ _ hw124_0; first | rwa [add_block] at this | exact this) GW126.out))) _).trans (((cell_far (p := ⟨gb126, _, none⟩) (by first | exact Nat.ne_of_lt (Nat.lt_of_lt_of_le (by have := World.block_lt_of_cell? _ _ hw124_0; first | rwa [add_block] at this | exact this) GW126.out) | (rw [add_block]; exact Nat.ne_of_lt (Nat.lt_of_lt_of_le (by have := World.block_lt_of_cell? _ _ hw124_0; first | rwa [add_block] at this | exact this) GW126.out)) | (show (Addr.add _ _).block ≠ _; rw [add_block]; exact Nat.ne_of_lt (Nat.lt_of_lt_of_le (by have := World.block_lt_of_cell? _ _ hw124_0; first | rwa [add_block] at this | exact this) GW126.out)) | (dsimp only; exact Nat.ne_of_lt (Nat.lt_of_lt_of_le (by have := World.block_lt_of_cell? _ _ hw124_0; first | rwa [add_block] at this | exact this) GW126.out))) _).trans (hHeld.2.2.2.2.1)))))))), ((cell_far (p := ⟨gb126, _, none⟩) (by first | exact Nat.ne_of_lt (Nat.lt_of_lt_of_le (by have := World.block_lt_of_cell? _ _ hw124_1; first | rwa [add_block] at this | exact this) GW126.out) | (rw [add_block]; exact Nat.ne_of_lt (Nat.lt_of_lt_of_le (by have := World.block_lt_of_cell? _ _ hw124_1; first | rwa [add_block] at this | exact this) GW126.out)) | (show (Addr.add _ _).block ≠ _; rw [add_block]; exact Nat.ne_of_lt (Nat.lt_of_lt_of_le (by have := World.block_lt_of_cell? _ _ hw124_1; first | rwa [add_block] at this | exact this) GW126.out)) | (dsimp only; exact Nat.ne_of_lt (Nat.lt_of_lt_of_le (by have := World.block_lt_of_cell? _ _ hw124_1; first | rwa [add_block] at this | exact this) GW126.out))) _).trans (((cell_far (p := ⟨gb126, _, none⟩) (by first | exact Nat.ne_of_lt (Nat.lt_of_lt_of_le (by have := World.block_lt_of_cell? _ _ hw124_1; first | rwa [add_block] at this | exact this) GW126.out) | (rw [add_block]; exact Nat.ne_of_lt (Nat.lt_of_lt_of_le (by have := World.block_lt_of_cell? _ _ hw124_1; first | rwa [add_block] at this | exact this) GW126.out)) | (show (Addr.add _ _).block ≠ _; rw [add_block]; exact Nat.ne_of_lt (Nat.lt_of_lt_of_le (by have := World.block_lt_of_cell? _ _ hw124_1; first | rwa [add_block] at this | exact this) GW126.out)) | (dsimp only; exact Nat.ne_of_lt (Nat.lt_of_lt_of_le (by have := World.block_lt_of_cell? _ _ hw124_1; first | rwa [add_block] at this | exact this) GW126.out))) _).trans (((cell_far (p := ⟨gb126, _, none⟩) (by first | exact Nat.ne_of_lt (Nat.lt_of_lt_of_le (by have := World.block_lt_of_cell? _ _ hw124_1; first | rwa [add_block] at this | exact this) GW126.out) | (rw [add_block]; exact Nat.ne_of_lt (Nat.lt_of_lt_of_le (by have := World.block_lt_of_cell? _ _ hw124_1; first | rwa [add_block] at this | exact this) GW126.out)) | (show (Addr.add _ _).block ≠ _; rw [add_block]; exact Nat.ne_of_lt (Nat.lt_of_lt_of_le (by have := World.block_lt_of_cell? _ _ hw124_1; first | rwa [add_block] at this | exact this) GW126.out)) | (dsimp only; exact Nat.ne_of_lt (Nat.lt_of_lt_of_le (by have := World.block_lt_of_cell? _ _ hw124_1; first | rwa [add_block] at this | exact this) GW126.out))) _).trans (((cell_far (p := ⟨gb126, _, none⟩) (by first | exact Nat.ne_of_lt (Nat.lt_of_lt_of_le (by have := World.block_lt_of_cell? _ _ hw124_1; first | rwa [add_block] at this | exact this) GW126.out) | (rw [add_block]; exact Nat.ne_of_lt (Nat.lt_of_lt_of_le (by have := World.block_lt_of_cell? _ _ hw124_1; first | rwa [add_block] at this | exact this) GW126.out)) | (show (Addr.add _ _).block ≠ _; rw [add_block]; exact Nat.ne_of_lt (Nat.lt_of_lt_of_le (by have := World.block_lt_of_cell? _ _ hw124_1; first | rwa [add_block] at this | exact this) GW126.out)) | (dsimp only; exact Nat.ne_of_lt (Nat.lt_of_lt_of_le (by have := World.block_lt_of_cell? _ _ hw124_1; first | rwa [add_block] at this | exact this) GW126.out))) _).trans (hHeld.2.2.2.2.2.1)))))))), ((cell_far (p := ⟨gb126, _, none⟩) (by first | exact Nat.ne_of_lt (Nat.lt_of_lt_of_le (by have := World.block_lt_of_cell? _ _ hw124_2; first | rwa [add_block] at this | exact this) GW126.out) | (rw [add_block]; exact Nat.ne_of_lt (Nat.lt_of_lt_of_le (by have := World.block_lt_of_cell? _ _ hw124_2; first | rwa [add_block] at this | exact this) GW126.out)) | (show (Addr.add _ _).block ≠ _; rw [add_block]; exact Nat.ne_of_lt (Nat.lt_of_lt_of_le (by have := World.block_lt_of_cell? _ _ hw124_2; first | rwa [add_block] at this | exact this) GW126.out)) | (dsimp only; exact Nat.ne_of_lt (Nat.lt_of_lt_of_le (by have := World.block_lt_of_cell? _ _ hw124_2; first | rwa [add_block] at this | exact this) GW126.out))) _).trans (((cell_far (p := ⟨gb126, _, none⟩) (by first | exact Nat.ne_of_lt (Nat.lt_of_lt_of_le (by have := World.block_lt_of_cell? _ _ hw124_2; first | rwa [add_block] at this | exact this) GW126.out) | (rw [add_block]; exact Nat.ne_of_lt (Nat.lt_of_lt_of_le (by have := World.block_lt_of_cell? _ _ hw124_2; first | rwa [add_block] at this | exact this) GW126.out)) | (show (Addr.add _ _).block ≠ _; rw [add_block]; exact Nat.ne_of_lt (Nat.lt_of_lt_of_le (by have := World.block_lt_of_cell? _ _ hw124_2; first | rwa [add_block] at this | exact this) GW126.out)) | (dsimp only; exact Nat.ne_of_lt (Nat.lt_of_lt_of_le (by have := World.block_lt_of_cell? _ _ hw124_2; first | rwa [add_block] at this | exact this) GW126.out))) _).trans (((cell_far (p := ⟨gb126, _, none⟩) (by first | exact Nat.ne_of_lt (Nat.lt_of_lt_of_le (by have := World.block_lt_of_cell? _ _ hw124_2; first | rwa [add_block] at this | exact this) GW126.out) | (rw [add_block]; exact Nat.ne_of_lt (Nat.lt_of_lt_of_le (by have := World.block_lt_of_cell? _ _ hw124_2; first | rwa [add_block] at this | exact this) GW126.out)) | (show (Addr.add _ _).block ≠ _; rw [add_block]; exact Nat.ne_of_lt (Nat.lt_of_lt_of_le (by have := World.block_lt_of_cell? _ _ hw124_2; first | rwa [add_block] at this | exact this) GW126.out)) | (dsimp only; exact Nat.ne_of_lt (Nat.lt_of_lt_of_le (by have := World.block_lt_of_cell? _ _ hw124_2; first | rwa [add_block] at this | exact this) GW126.out))) _).trans (((cell_far (p := ⟨gb126, _, none⟩) (by first | exact Nat.ne_of_lt (Nat.lt_of_lt_of_le (by have := World.block_lt_of_cell? _ _ hw124_2; first | rwa [add_block] at this | exact this) GW126.out) | (rw [add_block]; exact Nat.ne_of_lt (Nat.lt_of_lt_of_le (by have := World.block_lt_of_cell? _ _ hw124_2; first | rwa [add_block] at this | exact this) GW126.out)) | (show (Addr.add _ _).block ≠ _; rw [add_block]; exact Nat.ne_of_lt (Nat.lt_of_lt_of_le (by have := World.block_lt_of_cell? _ _ hw124_2; first | rwa [add_block] at this | exact this) GW126.out)) | (dsimp only; exact Nat.ne_of_lt (Nat.lt_of_lt_of_le (by have := World.block_lt_of_cell? _ _ hw124_2; first | rwa [add_block] at this | exact this) GW126.out))) _).trans (hHeld.2.2.2.2.2.2.1)))))))), ((cell_far (p := ⟨gb126, _, none⟩) (by first | exact Nat.ne_of_lt (Nat.lt_of_lt_of_le (by have := World.block_lt_of_cell? _ _ hw124_3; first | rwa [add_block] at this | exact this) GW126.out) | (rw [add_block]; exact Nat.ne_of_lt (Nat.lt_of_lt_of_le (by have := World.block_lt_of_cell? _ _ hw124_3; first | rwa [add_block] at this | exact this) GW126.out)) | (show (Addr.add _ _).block ≠ _; rw [add_block]; exact Nat.ne_of_lt (Nat.lt_of_lt_of_le (by have := World.block_lt_of_cell? _ _ hw124_3; first | rwa [add_block] at this | exact this) GW126.out)) | (dsimp only; exact Nat.ne_of_lt (Nat.lt_of_lt_of_le (by have := World.block_lt_of_cell? _ _ hw124_3; first | rwa [add_block] at this | exact this) GW126.out))) _).trans (((cell_far (p := ⟨gb126, _, none⟩) (by first | exact Nat.ne_of_lt (Nat.lt_of_lt_of_le (by have := World.block_lt_of_cell? _ _ hw124_3; first | rwa [add_block] at this | exact this) GW126.out) | (rw [add_block]; exact Nat.ne_of_lt (Nat.lt_of_lt_of_le (by have := World.block_lt_of_cell? _ _ hw124_3; first | rwa [add_block] at this | exact this) GW126.out)) | (show (Addr.add _ _).block ≠ _; rw [add_block]; exact Nat.ne_of_lt (Nat.lt_of_lt_of_le (by have := World.block_lt_of_cell? _ _ hw124_3; first | rwa [add_block] at this | exact this) GW126.out)) | (dsimp only; exact Nat.ne_of_lt (Nat.lt_of_lt_of_le (by have := World.block_lt_of_cell? _ _ hw124_3; first | rwa [add_block] at this | exact this) GW126.out))) _).trans (((cell_far (p := ⟨gb126, _, none⟩) (by first | exact Nat.ne_of_lt (Nat.lt_of_lt_of_le (by have := World.block_lt_of_cell? _ _ hw124_3; first | rwa [add_block] at this | exact this) GW126.out) | (rw [add_block]; exact Nat.ne_of_lt (Nat.lt_of_lt_of_le (by have := World.block_lt_of_cell? _ _ hw124_3; first | rwa [add_block] at this | exact this) GW126.out)) | (show (Addr.add _ _).block ≠ _; rw [add_block]; exact Nat.ne_of_lt (Nat.lt_of_lt_of_le (by have := World.block_lt_of_cell? _ _ hw124_3; first | rwa [add_block] at this | exact this) GW126.out)) | (dsimp only; exact Nat.ne_of_lt (Nat.lt_of_lt_of_le (by have := World.block_lt_of_cell? _ _ hw124_3; first | rwa [add_block] at this | exact this) GW126.out))) _).trans (((cell_far (p := ⟨gb126, _, none⟩) (by first | exact Nat.ne_of_lt (Nat.lt_of_lt_of_le (by have := World.block_lt_of_cell? _ _ hw124_3; first | rwa [add_block] at this | exact this) GW126.out) | (rw [add_block]; exact Nat.ne_of_lt (Nat.lt_of_lt_of_le (by have := World.block_lt_of_cell? _ _ hw124_3; first | rwa [add_block] at this | exact this) GW126.out)) | (show (Addr.add _ _).block ≠ _; rw [add_block]; exact Nat.ne_of_lt (Nat.lt_of_lt_of_le (by have := World.block_lt_of_cell? _ _ hw124_3; first | rwa [add_block] at this | exact this) GW126.out)) | (dsimp only; exact Nat.ne_of_lt (Nat.lt_of_lt_of_le (by have := World.block_lt_of_cell? _ _ hw124_3; first | rwa [add_block] at this | exact this) GW126.out))) _).trans (hHeld.2.2.2.2.2.2.2))))))))⟩ (fun hHeld => ?_)
           clear hK K
           refine done_ (done_of HT_.out (by kernel_rfl)) ?_
           have hnb79 := NB125_126.out
           have hnc79 := NB126_125.out
           obtain ⟨hcz80_0, hcz80_1, hcz80_2, hcz80_3, hfz80_0, hfz80_1, hfz80_2, hfz80_3⟩ := blk4 BK125.out
           obtain ⟨hcz81_0, hcz81_1, hcz81_2, hcz81_3, hfz81_0, hfz81_1, hfz81_2, hfz81_3⟩ := blk4 BK126.out
           try go_wp2_with (first | ((with_reducible refine gate_dst (N := 74) rfl ?_); refine gLK (args1 := #[.agg #[.int .i64 ((rd_T36 l2 (ji22)).f0), .int .i64 ((rd_T36 l2 (ji22)).f1), .int .i64 ((rd_T36 l2 (ji22)).f2), .slice A123_3 ((rd_T36 l2 (ji22)).f3).length c123_3], .agg #[.int .i64 ((rd_T36 l3 (ji25)).f0), .int .i64 ((rd_T36 l3 (ji25)).f1), .int .i64 ((rd_T36 l3 (ji25)).f2), .slice A124_3 ((rd_T36 l3 (ji25)).f3).length c124_3]]) (some 74) #[.pointer (some ⟨gx4, 0, none⟩), .pointer (some ⟨gx5, 0, none⟩)] Tryd.func12 #[.agg #[.int .i64 ((rd_T36 l2 (ji22)).f0), .int .i64 ((rd_T36 l2 (ji22)).f1), .int .i64 ((rd_T36 l2 (ji22)).f2), .slice A123_3 ((rd_T36 l2 (ji22)).f3).length c123_3], .agg #[.int .i64 ((rd_T36 l3 (ji25)).f0), .int .i64 ((rd_T36 l3 (ji25)).f1), .int .i64 ((rd_T36 l3 (ji25)).f2), .slice A124_3 ((rd_T36 l3 (ji25)).f3).length c124_3], .pointer (some ⟨gx4, 0, none⟩), .pointer (some ⟨gx5, 0, none⟩)] rfl rfl (by (try simp only [List.map_toArray, List.map_cons, List.map_nil]); first | done | (simp only [hji22, hji25]; rfl) | rfl | (simp only [List.length_drop, List.length_take]; rfl)) rfl ?_; (with_reducible refine (match_Keep_1.calls gx4 gx5 ((rd_T36 l2 (ji22)).f0) ((rd_T36 l2 (ji22)).f1) ((rd_T36 l2 (ji22)).f2) _ _ ((rd_T36 l2 (ji22)).f3) ((rd_T36 l3 (ji25)).f0) ((rd_T36 l3 (ji25)).f1) ((rd_T36 l3 (ji25)).f2) _ _ ((rd_T36 l3 (ji25)).f3) _ _ l0 _ _ l1 false _ ?side1 ?side2 ?side3 ?side4 ?side5 ?side6 ?side7 ?side8 (pw_cell_below (bAt HB.out) HX4.out) (pw_cell_below (bAt HB.out) HX5.out) A28.out).mono ?_); (case side1 => exact Kd.C_below HR123_3.out (bAt HB.out)); (case side2 => exact HC123_3.out); (case side3 => exact Kd.C_below HR124_3.out (bAt HB.out)); (case side4 => exact HC124_3.out); (case side5 => exact Kd.C_below HR0.out (bAt HB.out)); (case side6 => exact HC0.out); (case side7 => exact Kd.C_below HR1.out (bAt HB.out)); (case side8 => exact HC1.out); rintro e w82 ⟨rfl, hb⟩; refine ⟨_, rfl, ?_⟩; replace BK125 := Aside0.mk (blk_below (g := gb125) (o := .cells #[.int .i64 ((rd_T36 l2 (ji22)).f0), .int .i64 ((rd_T36 l2 (ji22)).f1), .int .i64 ((rd_T36 l2 (ji22)).f2), .slice A123_3 ((rd_T36 l2 (ji22)).f3).length c123_3] 36 (0, 0)) (by (with_reducible repeat (first | refine blk_drewN ?_ _ | refine blk_drew ?_ | refine blk_alloc ?_ _)); refine blk_far ?_ NB125_126.out _; (with_reducible repeat (first | refine blk_drewN ?_ _ | refine blk_drew ?_ | refine blk_alloc ?_ _)); refine blk_far ?_ NB125_126.out _; (with_reducible repeat (first | refine blk_drewN ?_ _ | refine blk_drew ?_ | refine blk_alloc ?_ _)); refine blk_far ?_ NB125_126.out _; (with_reducible repeat (first | refine blk_drewN ?_ _ | refine blk_drew ?_ | refine blk_alloc ?_ _)); refine blk_far ?_ NB125_126.out _; refine bP #[.int .i64 ((rd_T36 l2 (ji22)).f0), .int .i64 ((rd_T36 l2 (ji22)).f1), .int .i64 ((rd_T36 l2 (ji22)).f2), .slice none 0 0] 3 ?_; refine bP #[.int .i64 ((rd_T36 l2 (ji22)).f0), .int .i64 ((rd_T36 l2 (ji22)).f1), .int .i64 0, .slice none 0 0] 2 ?_; refine bP #[.int .i64 ((rd_T36 l2 (ji22)).f0), .int .i64 0, .int .i64 0, .slice none 0 0] 1 ?_; refine bP #[.int .i64 0, .int .i64 0, .int .i64 0, .slice none 0 0] 0 ?_; (with_reducible repeat (first | refine blk_drewN ?_ _ | refine blk_drew ?_ | refine blk_alloc ?_ _)); exact BK125.out) hb); replace BK126 := Aside0.mk (blk_below (g := gb126) (o := .cells #[.int .i64 ((rd_T36 l3 (ji25)).f0), .int .i64 ((rd_T36 l3 (ji25)).f1), .int .i64 ((rd_T36 l3 (ji25)).f2), .slice A124_3 ((rd_T36 l3 (ji25)).f3).length c124_3] 36 (0, 0)) (by refine bP #[.int .i64 ((rd_T36 l3 (ji25)).f0), .int .i64 ((rd_T36 l3 (ji25)).f1), .int .i64 ((rd_T36 l3 (ji25)).f2), .slice none 0 0] 3 ?_; refine bP #[.int .i64 ((rd_T36 l3 (ji25)).f0), .int .i64 ((rd_T36 l3 (ji25)).f1), .int .i64 0, .slice none 0 0] 2 ?_; refine bP #[.int .i64 ((rd_T36 l3 (ji25)).f0), .int .i64 0, .int .i64 0, .slice none 0 0] 1 ?_; refine bP #[.int .i64 0, .int .i64 0, .int .i64 0, .slice none 0 0] 0 ?_; (with_reducible repeat (first | refine blk_drewN ?_ _ | refine blk_drew ?_ | refine blk_alloc ?_ _)); refine blk_far ?_ NB126_125.out _; (with_reducible repeat (first | refine blk_drewN ?_ _ | refine blk_drew ?_ | refine blk_alloc ?_ _)); refine blk_far ?_ NB126_125.out _; (with_reducible repeat (first | refine blk_drewN ?_ _ | refine blk_drew ?_ | refine blk_alloc ?_ _)); refine blk_far ?_ NB126_125.out _; (with_reducible repeat (first | refine blk_drewN ?_ _ | refine blk_drew ?_ | refine blk_alloc ?_ _)); refine blk_far ?_ NB126_125.out _; (with_reducible repeat (first | refine blk_drewN ?_ _ | refine blk_drew ?_ | refine blk_alloc ?_ _)); exact BK126.out) hb); replace HB := Aside0.mk (below_step (bAt HB.out) hb); (try clear hb); have hxw4_ := pw_cell_below HB.out HX4.out; have hxw5_ := pw_cell_below HB.out HX5.out; (try clear hb2); (try clear hk); (try clear hi)))
           go_ret2
           exact ⟨by first | rfl | (simp [errW_none, errW_some] <;> rfl) | (simp only [← hji5, ← hji22, ← hji25]; first | rfl | (simp [errW_none, errW_some] <;> rfl)) | (simp [*, errW_none, errW_some] <;> rfl), below_step HB0.out (bAt HB.out)⟩
         ·exact nB H c27
        ·exact nB H c26
       ·exact nB H c24
      ·exact nB H c23
     ·rw [if_neg c21] at H
      have c21b0 := decide_eq_false c21
      clear c21
      simp only [Option.some.injEq, Prod.mk.injEq] at H
      obtain ⟨rfl, rfl⟩ := H
      go_wp2
      go_ret2
      exact ⟨by first | rfl | (simp [errW_none, errW_some] <;> rfl) | (simp only [← hji5]; first | rfl | (simp [errW_none, errW_some] <;> rfl)) | (simp [*, errW_none, errW_some] <;> rfl), below_step HB0.out (bAt HB.out)⟩
end Go.Proofs.YtklpephnbkoinaaDoor.P
