/- Part of the proof: what the theorem needs of this text. -/
import Derived.Test.YtklpephnbkoinaaDoorKPx0
import Derived.Test.YtklpephnbkoinaaDoorKPx9
namespace Go.Proofs.YtklpephnbkoinaaDoor.P
open Go.RowKit Go.Proofs.YtklpephnbkoinaaDoorW.PrintWords Go.Proofs.YtklpephnbkoinaaDoorW.PrintLast Go.Proofs.YtklpephnbkoinaaDoorW.PrintMore
attribute [local go_sem] max2_int min2_int max_two min_two max_three min_three max_four min_four   -- for this text's walks alone
set_option linter.unusedVariables false
set_option linter.unusedSimpArgs false
mutual
def tmesisref24_Keep.j1 : Nat → List Int → List Int → List (S36) → List (S36) → Int → Int → Option (Int × Int)
 | 0, _, _, _, _, _, _ => none
 | k + 1, x0, x1, x2, x3, x10, x11 => tmesisref24_Keep.l1 k x0 x1 x2 x3 x10 x11 0
def tmesisref24_Keep.l1 : Nat → List Int → List Int → List (S36) → List (S36) → Int → Int → Int → Option (Int × Int)
 | 0, _, _, _, _, _, _, _ => none
 | k + 1, x0, x1, x2, x3, x10, x11, x12 => if (wrap64 (x11 + x12)) < x10 then (if 0 ≤ (wrap64 ((wrap64 ((x2.length : Int) - 1)) - x12)) then (if (wrap64 ((wrap64 ((x2.length : Int) - 1)) - x12)) < (x2.length : Int) then (if 0 ≤ (wrap64 ((wrap64 ((x3.length : Int) - 1)) - x12)) then (if (wrap64 ((wrap64 ((x3.length : Int) - 1)) - x12)) < (x3.length : Int) then ((tmesisref24_same.f x0 x1 ((rd_T36 x2 (wrap64 ((wrap64 ((x2.length : Int) - 1)) - x12))).f0) ((rd_T36 x2 (wrap64 ((wrap64 ((x2.length : Int) - 1)) - x12))).f1) ((rd_T36 x2 (wrap64 ((wrap64 ((x2.length : Int) - 1)) - x12))).f2) ((rd_T36 x2 (wrap64 ((wrap64 ((x2.length : Int) - 1)) - x12))).f3) ((rd_T36 x3 (wrap64 ((wrap64 ((x3.length : Int) - 1)) - x12))).f0) ((rd_T36 x3 (wrap64 ((wrap64 ((x3.length : Int) - 1)) - x12))).f1) ((rd_T36 x3 (wrap64 ((wrap64 ((x3.length : Int) - 1)) - x12))).f2) ((rd_T36 x3 (wrap64 ((wrap64 ((x3.length : Int) - 1)) - x12))).f3)).bind fun t284 => (if t284 = true then (if (wrap64 ((x0.length : Int) - ((rd_T36 x2 (wrap64 ((wrap64 ((x2.length : Int) - 1)) - x12))).f1))) = (wrap64 ((x1.length : Int) - ((rd_T36 x3 (wrap64 ((wrap64 ((x3.length : Int) - 1)) - x12))).f1))) then (tmesisref24_Keep.l1 k x0 x1 x2 x3 x10 x11 (wrap64 (x12 + 1))) else (some (x11, x12))) else (some (x11, x12)))) else (none)) else (none)) else (none)) else (none)) else (some (x11, x12))
def tmesisref24_Keep.l0 : Nat → List Int → List Int → List (S36) → List (S36) → Int → Int → Option (Int × Int)
 | 0, _, _, _, _, _, _ => none
 | k + 1, x0, x1, x2, x3, x10, x11 => if x11 < x10 then (if 0 ≤ x11 then (if x11 < (x2.length : Int) then (if x11 < (x3.length : Int) then ((tmesisref24_same.f x0 x1 ((rd_T36 x2 x11).f0) ((rd_T36 x2 x11).f1) ((rd_T36 x2 x11).f2) ((rd_T36 x2 x11).f3) ((rd_T36 x3 x11).f0) ((rd_T36 x3 x11).f1) ((rd_T36 x3 x11).f2) ((rd_T36 x3 x11).f3)).bind fun t277 => (if t277 = true then (if ((rd_T36 x2 x11).f0) = ((rd_T36 x3 x11).f0) then (tmesisref24_Keep.l0 k x0 x1 x2 x3 x10 (wrap64 (x11 + 1))) else (tmesisref24_Keep.j1 k x0 x1 x2 x3 x10 x11)) else (tmesisref24_Keep.j1 k x0 x1 x2 x3 x10 x11))) else (none)) else (none)) else (none)) else (tmesisref24_Keep.j1 k x0 x1 x2 x3 x10 x11)
end
def tmesisref24_Keep.f (k : Nat) (l0 : List Int) (l1 : List Int) (l2 : List (S36)) (l3 : List (S36)) : Option (Int × Int) := tmesisref24_Keep.l0 k l0 l1 l2 l3 (mn (l2.length : Int) (l3.length : Int)) 0
theorem tmesisref24_Keep.mono_l : ∀ k, (∀ y0 y1 y2 y3 y4 y5, LeO (tmesisref24_Keep.j1 k y0 y1 y2 y3 y4 y5) (tmesisref24_Keep.j1 (k + 1) y0 y1 y2 y3 y4 y5)) ∧ (∀ y0 y1 y2 y3 y4 y5 y6, LeO (tmesisref24_Keep.l1 k y0 y1 y2 y3 y4 y5 y6) (tmesisref24_Keep.l1 (k + 1) y0 y1 y2 y3 y4 y5 y6)) ∧ (∀ y0 y1 y2 y3 y4 y5, LeO (tmesisref24_Keep.l0 k y0 y1 y2 y3 y4 y5) (tmesisref24_Keep.l0 (k + 1) y0 y1 y2 y3 y4 y5))
 | 0 => ⟨fun _ _ _ _ _ _ r h => by simp [tmesisref24_Keep.j1] at h, fun _ _ _ _ _ _ _ r h => by simp [tmesisref24_Keep.l1] at h, fun _ _ _ _ _ _ r h => by simp [tmesisref24_Keep.l0] at h⟩
 | k + 1 => by
  obtain ⟨ih0, ih1, ih2⟩ := tmesisref24_Keep.mono_l k
  refine ⟨?_, ?_, ?_⟩
  ·intro y0 y1 y2 y3 y4 y5
   unfold tmesisref24_Keep.j1
   repeat' with_reducible first | exact ih0 _ _ _ _ _ _ | exact ih1 _ _ _ _ _ _ _ | exact ih2 _ _ _ _ _ _ | exact LeO.refl _ | exact LeO.none _ | refine LeO.ite ?_ ?_ | refine LeO.bind ?_ (fun _ => ?_)
  ·intro y0 y1 y2 y3 y4 y5 y6
   unfold tmesisref24_Keep.l1
   repeat' with_reducible first | exact ih0 _ _ _ _ _ _ | exact ih1 _ _ _ _ _ _ _ | exact ih2 _ _ _ _ _ _ | exact LeO.refl _ | exact LeO.none _ | refine LeO.ite ?_ ?_ | refine LeO.bind ?_ (fun _ => ?_)
  ·intro y0 y1 y2 y3 y4 y5
   unfold tmesisref24_Keep.l0
   repeat' with_reducible first | exact ih0 _ _ _ _ _ _ | exact ih1 _ _ _ _ _ _ _ | exact ih2 _ _ _ _ _ _ | exact LeO.refl _ | exact LeO.none _ | refine LeO.ite ?_ ?_ | refine LeO.bind ?_ (fun _ => ?_)
theorem tmesisref24_Keep.mono : ∀ a0 a1 a2 a3 k, LeO (tmesisref24_Keep.f k a0 a1 a2 a3) (tmesisref24_Keep.f (k + 1) a0 a1 a2 a3) := by
 intro a0 a1 a2 a3 k
 obtain ⟨ih0, ih1, ih2⟩ := tmesisref24_Keep.mono_l k
 unfold tmesisref24_Keep.f
 repeat' with_reducible first | exact ih0 _ _ _ _ _ _ | exact ih1 _ _ _ _ _ _ _ | exact ih2 _ _ _ _ _ _ | exact LeO.refl _ | exact LeO.none _ | refine LeO.ite ?_ ?_ | refine LeO.bind ?_ (fun _ => ?_)
def tmesisref24_Keep.T3 : Bool × List (List Nat × List Nat) := (true, [([], []), ([], []), ([0, 1], [0, 1]), ([2], [2]), ([3], [3]), ([3], [3]), ([3], [3]), ([3], [3]), ([6, 7, 3], [3, 6, 7]), ([8, 3], [3, 8]), ([3], [3]), ([3], [3]), ([10, 11, 3], [3, 10, 11]), ([12, 3], [3, 12]), ([4, 5, 9, 13, 3, 3], [3, 4, 5, 9, 13]), ([3, 14], [3, 14]), ([15, 14], [15]), ([16], [16]), ([16], [16]), ([17, 18, 16], [16, 17, 18]), ([19, 16], [16, 19]), ([20, 16], [16, 20]), ([16], [16]), ([16], [16]), ([22, 23, 16], [16, 22, 23]), ([24, 16], [16, 24]), ([25, 16], [16, 25]), ([21, 26, 16], [16, 21, 26]), ([16, 27], [16, 27])])
def tmesisref24_Keep.B3 : List Nat := [0, 0, 3, 7, 15, 15, 15, 15, 207, 463, 15, 15, 3087, 7183, 16383, 32767, 65535, 131071, 131071, 524287, 1048575, 2097151, 131071, 131071, 12713983, 29491199, 63045631, 134217727, 268435455]
theorem tmesisref24_Keep.tab3 : rtab .any (opsOf Tryd.f10 3) = tmesisref24_Keep.T3 := by kernel_rfl
theorem tmesisref24_Keep.bits3 : waitsOk tmesisref24_Keep.T3.2 tmesisref24_Keep.B3 = true := by kernel_rfl
set_option maxHeartbeats 8000000 in
set_option maxRecDepth 100000 in
theorem tmesisref24_Keep.calls (k : Nat) (A0 : Option Addr) (c0 : Nat) (l0 : List Int) (A1 : Option Addr) (c1 : Nat) (l1 : List Int) (A2 : Option Addr) (c2 : Nat) (l2 : List (S36)) (A3 : Option Addr) (c3 : Nat) (l3 : List (S36)) (r1 : Int) (r2 : Int) (w : World) (hr0 : Kd.C (Kd.int .u8) w A0 l0.length l0) (hc0 : l0.length ≤ c0) (hr1 : Kd.C (Kd.int .u8) w A1 l1.length l1) (hc1 : l1.length ≤ c1) (hr2 : Kd.C k36 w A2 l2.length l2) (hc2 : l2.length ≤ c2) (hr3 : Kd.C k36 w A3 l3.length l3) (hc3 : l3.length ≤ c3) (h : tmesisref24_Keep.f k l0 l1 l2 l3 = some (r1, r2)) :
  Calls Tryd.prog 10 #[.slice A0 l0.length c0, .slice A1 l1.length c1, .slice A2 l2.length c2, .slice A3 l3.length c3] w fun e w' => e = .returned (.tuple #[.int .i64 r1, .int .i64 r2]) ∧ Below w.heap.size w w' := by
 have hu36 := Tryd.underlying36
 have HR0 := Aside0.mk hr0
 have HC0 := Aside0.mk hc0
 clear hr0 hc0
 have HR1 := Aside0.mk hr1
 have HC1 := Aside0.mk hc1
 clear hr1 hc1
 have HR2 := Aside0.mk hr2
 have HC2 := Aside0.mk hc2
 clear hr2 hc2
 have HR3 := Aside0.mk hr3
 have HC3 := Aside0.mk hc3
 clear hr3 hc3
 have HB := Aside0.mk (Below.refl w.heap.size w)
 have H : (tmesisref24_Keep.l0 k l0 l1 l2 l3 (mn (l2.length : Int) (l3.length : Int)) 0) = some (r1, r2) := h
 clear h
 obtain ⟨ji5, hji5⟩ : ∃ j_ : Int, (mn (l2.length : Int) (l3.length : Int)) = j_ := ⟨_, rfl⟩
 replace H : (tmesisref24_Keep.l0 k l0 l1 l2 l3 ji5 0) = some (r1, r2) := by first | (rw [hji5] at H; exact H) | (simp only [hji5] at H ⊢; exact H)
 (try (have hji5l : 0 ≤ ji5 := by (rw [← hji5]; unfold mn; (repeat' split) <;> omega)))
 (try (have hji5m : 0 ≤ ji5 := by omega))
 have hji5_ : (if (l3.length : Int) < (l2.length : Int) then (l3.length : Int) else (l2.length : Int)) = ji5 := hji5
 have hji5n_ : (if l3.length < l2.length then (l3.length : Int) else (l2.length : Int)) = ji5 := by rw [← hji5_]; simp only [Int.ofNat_lt]
 have HC6 := Aside0.mk H
 clear H
 go_enter Tryd.func10, Tryd.ntmps10
 go_upto_block 0 with (fail)
 go_cut [11] (fun v11 wc => ∃ (kq : Nat) (x11_5 : Int), v11 = .int .i64 x11_5 ∧ Aside0 (tmesisref24_Keep.j1 kq l0 l1 l2 l3 ji5 x11_5 = some (r1, r2)) ∧ Aside0 (kq ≤ k) ∧ Aside0 (Below w.heap.size w wc))
 case first =>
  have H := HC6.out
  clear HC6
  have H' := Aside0.mk H
  clear H
  go_wp2
  go_loopg [11] k (fun kq v11 w' => ∃ (x11_1 : Int), v11 = .int .i64 x11_1 ∧ Aside0 (tmesisref24_Keep.l0 kq l0 l1 l2 l3 ji5 x11_1 = some (r1, r2)) ∧ Aside0 (kq ≤ k) ∧ Aside0 (Below w.heap.size w w'))
  case atStart => exact ⟨(0), sR, H', ⟨Nat.le_refl _⟩, ⟨bAt HB.out⟩⟩
  case round =>
   clear H'
   try clear c1
   try clear c2
   try clear p2
   try clear c3
   obtain ⟨x11_1, rfl, HA, HK1, HB⟩ := hrel
   cases gk with
   | zero => exact absurd HA.out (by simp [tmesisref24_Keep.l0])
   | succ k1 =>
    have H := HA.out
    clear HA
    simp only [tmesisref24_Keep.l0] at H
    by_cases c7 : x11_1 < ji5
    ·rw [if_pos c7] at H
     have c7b0 := decide_eq_true c7
     clear c7
     (first | rw [c7b0] | (simp only [i64_w, i32_w]; rw [c7b0]) | skip)
     by_cases c8 : 0 ≤ x11_1
     ·rw [if_pos c8] at H
      have c8b0 := decide_eq_true c8
      clear c8
      by_cases c9 : x11_1 < (l2.length : Int)
      ·rw [if_pos c9] at H
       have c9b0 := decide_eq_true c9
       clear c9
       by_cases c10 : x11_1 < (l3.length : Int)
       ·rw [if_pos c10] at H
        have c10b0 := decide_eq_true c10
        clear c10
        obtain ⟨t277, A11, H⟩ := bE H
        by_cases c12 : t277 = true
        ·subst c12
         replace H := tP H
         by_cases c13 : ((rd_T36 l2 x11_1).f0) = ((rd_T36 l3 x11_1).f0)
         ·rw [if_pos c13] at H
          obtain ⟨c13b0, c13b1⟩ := eqB c13
          clear c13
          have H' := Aside0.mk H
          clear H
          try go_wp2
          replace HB := Aside0.mk (below_drew1 HB.out)
          have p275 : 0 ≤ (x11_1 : Int) := dt
          have q275 : x11_1 < (l2.length : Int) := dt
          obtain ⟨ad275, A275_3, c275_3, e275, hx275_0, hx275_1, hx275_2, hx275_3, hl275_3, hi275_3⟩ := at_T36 HR2.out x11_1 p275 q275
          have hw275_3 := hx275_3
          have hw275_2 := hx275_2
          have hw275_1 := hx275_1
          have hw275_0 := hx275_0
          cases e275
          replace hx275_0 := pw_cell_below HB.out hx275_0
          replace hx275_1 := pw_cell_below HB.out hx275_1
          replace hx275_2 := pw_cell_below HB.out hx275_2
          replace hx275_3 := pw_cell_below HB.out hx275_3
          have HR275_3 := Aside0.mk hi275_3
          have HC275_3 := Aside0.mk hl275_3
          clear hi275_3 hl275_3
          replace p275 := eq_true p275
          replace q275 := eq_true q275
          have p276 : 0 ≤ (x11_1 : Int) := dt
          have q276 : x11_1 < (l3.length : Int) := dt
          obtain ⟨ad276, A276_3, c276_3, e276, hx276_0, hx276_1, hx276_2, hx276_3, hl276_3, hi276_3⟩ := at_T36 HR3.out x11_1 p276 q276
          have hw276_3 := hx276_3
          have hw276_2 := hx276_2
          have hw276_1 := hx276_1
          have hw276_0 := hx276_0
          cases e276
          replace hx276_0 := pw_cell_below HB.out hx276_0
          replace hx276_1 := pw_cell_below HB.out hx276_1
          replace hx276_2 := pw_cell_below HB.out hx276_2
          replace hx276_3 := pw_cell_below HB.out hx276_3
          have HR276_3 := Aside0.mk hi276_3
          have HC276_3 := Aside0.mk hl276_3
          clear hi276_3 hl276_3
          replace p276 := eq_true p276
          replace q276 := eq_true q276
          have p278 : 0 ≤ (x11_1 : Int) := dt
          have q278 : x11_1 < (l2.length : Int) := dt
          obtain ⟨ad278, A278_3, c278_3, e278, hx278_0, hx278_1, hx278_2, hx278_3, hl278_3, hi278_3⟩ := at_T36 HR2.out x11_1 p278 q278
          have hw278_3 := hx278_3
          have hw278_2 := hx278_2
          have hw278_1 := hx278_1
          have hw278_0 := hx278_0
          obtain rfl : ad275 = ad278 := (by injection e278)
          replace hx278_0 := pw_cell_below HB.out hx278_0
          replace hx278_1 := pw_cell_below HB.out hx278_1
          replace hx278_2 := pw_cell_below HB.out hx278_2
          replace hx278_3 := pw_cell_below HB.out hx278_3
          have HR278_3 := Aside0.mk hi278_3
          have HC278_3 := Aside0.mk hl278_3
          clear hi278_3 hl278_3
          replace p278 := eq_true p278
          replace q278 := eq_true q278
          have p279 : 0 ≤ (x11_1 : Int) := dt
          have q279 : x11_1 < (l3.length : Int) := dt
          obtain ⟨ad279, A279_3, c279_3, e279, hx279_0, hx279_1, hx279_2, hx279_3, hl279_3, hi279_3⟩ := at_T36 HR3.out x11_1 p279 q279
          have hw279_3 := hx279_3
          have hw279_2 := hx279_2
          have hw279_1 := hx279_1
          have hw279_0 := hx279_0
          obtain rfl : ad276 = ad279 := (by injection e279)
          replace hx279_0 := pw_cell_below HB.out hx279_0
          replace hx279_1 := pw_cell_below HB.out hx279_1
          replace hx279_2 := pw_cell_below HB.out hx279_2
          replace hx279_3 := pw_cell_below HB.out hx279_3
          have HR279_3 := Aside0.mk hi279_3
          have HC279_3 := Aside0.mk hl279_3
          clear hi279_3 hl279_3
          replace p279 := eq_true p279
          replace q279 := eq_true q279
          refine start_ (n := 29) (S := fun w' => w'.cell? (ad275.add ((x11_1).toNat * 4)) = some (.int .i64 ((rd_T36 l2 x11_1).f0)) ∧ w'.cell? ⟨(ad275.add ((x11_1).toNat * 4)).block, (ad275.add ((x11_1).toNat * 4)).off + 1, none⟩ = some (.int .i64 ((rd_T36 l2 x11_1).f1)) ∧ w'.cell? ⟨(ad275.add ((x11_1).toNat * 4)).block, (ad275.add ((x11_1).toNat * 4)).off + 2, none⟩ = some (.int .i64 ((rd_T36 l2 x11_1).f2)) ∧ w'.cell? ⟨(ad275.add ((x11_1).toNat * 4)).block, (ad275.add ((x11_1).toNat * 4)).off + 3, none⟩ = some (.slice A275_3 ((rd_T36 l2 x11_1).f3).length c275_3) ∧ w'.cell? (ad276.add ((x11_1).toNat * 4)) = some (.int .i64 ((rd_T36 l3 x11_1).f0)) ∧ w'.cell? ⟨(ad276.add ((x11_1).toNat * 4)).block, (ad276.add ((x11_1).toNat * 4)).off + 1, none⟩ = some (.int .i64 ((rd_T36 l3 x11_1).f1)) ∧ w'.cell? ⟨(ad276.add ((x11_1).toNat * 4)).block, (ad276.add ((x11_1).toNat * 4)).off + 2, none⟩ = some (.int .i64 ((rd_T36 l3 x11_1).f2)) ∧ w'.cell? ⟨(ad276.add ((x11_1).toNat * 4)).block, (ad276.add ((x11_1).toNat * 4)).off + 3, none⟩ = some (.slice A276_3 ((rd_T36 l3 x11_1).f3).length c276_3) ∧ w'.cell? (ad275.add ((x11_1).toNat * 4)) = some (.int .i64 ((rd_T36 l2 x11_1).f0)) ∧ w'.cell? ⟨(ad275.add ((x11_1).toNat * 4)).block, (ad275.add ((x11_1).toNat * 4)).off + 1, none⟩ = some (.int .i64 ((rd_T36 l2 x11_1).f1)) ∧ w'.cell? ⟨(ad275.add ((x11_1).toNat * 4)).block, (ad275.add ((x11_1).toNat * 4)).off + 2, none⟩ = some (.int .i64 ((rd_T36 l2 x11_1).f2)) ∧ w'.cell? ⟨(ad275.add ((x11_1).toNat * 4)).block, (ad275.add ((x11_1).toNat * 4)).off + 3, none⟩ = some (.slice A278_3 ((rd_T36 l2 x11_1).f3).length c278_3) ∧ w'.cell? (ad276.add ((x11_1).toNat * 4)) = some (.int .i64 ((rd_T36 l3 x11_1).f0)) ∧ w'.cell? ⟨(ad276.add ((x11_1).toNat * 4)).block, (ad276.add ((x11_1).toNat * 4)).off + 1, none⟩ = some (.int .i64 ((rd_T36 l3 x11_1).f1)) ∧ w'.cell? ⟨(ad276.add ((x11_1).toNat * 4)).block, (ad276.add ((x11_1).toNat * 4)).off + 2, none⟩ = some (.int .i64 ((rd_T36 l3 x11_1).f2)) ∧ w'.cell? ⟨(ad276.add ((x11_1).toNat * 4)).block, (ad276.add ((x11_1).toNat * 4)).off + 3, none⟩ = some (.slice A279_3 ((rd_T36 l3 x11_1).f3).length c279_3)) (ds := []) (bm 29 0) (by kernel_rfl) rfl rfl ⟨((HB.out.cell (World.block_lt_of_cell? w _ hw275_0)).trans hw275_0), ((HB.out.cell (World.block_lt_of_cell? w _ hw275_1)).trans hw275_1), ((HB.out.cell (World.block_lt_of_cell? w _ hw275_2)).trans hw275_2), ((HB.out.cell (World.block_lt_of_cell? w _ hw275_3)).trans hw275_3), ((HB.out.cell (World.block_lt_of_cell? w _ hw276_0)).trans hw276_0), ((HB.out.cell (World.block_lt_of_cell? w _ hw276_1)).trans hw276_1), ((HB.out.cell (World.block_lt_of_cell? w _ hw276_2)).trans hw276_2), ((HB.out.cell (World.block_lt_of_cell? w _ hw276_3)).trans hw276_3), ((HB.out.cell (World.block_lt_of_cell? w _ hw278_0)).trans hw278_0), ((HB.out.cell (World.block_lt_of_cell? w _ hw278_1)).trans hw278_1), ((HB.out.cell (World.block_lt_of_cell? w _ hw278_2)).trans hw278_2), ((HB.out.cell (World.block_lt_of_cell? w _ hw278_3)).trans hw278_3), ((HB.out.cell (World.block_lt_of_cell? w _ hw279_0)).trans hw279_0), ((HB.out.cell (World.block_lt_of_cell? w _ hw279_1)).trans hw279_1), ((HB.out.cell (World.block_lt_of_cell? w _ hw279_2)).trans hw279_2), ((HB.out.cell (World.block_lt_of_cell? w _ hw279_3)).trans hw279_3)⟩ (fun hHeld => ?_); refine with_tabW tmesisref24_Keep.tab3 tmesisref24_Keep.bits3 (fun HT_ HW_ => ?_)
          generalize wr.drew = w14 at HB HR275_3 HR276_3 HR278_3 HR279_3 hx275_0 hx275_1 hx275_2 hx275_3 hx276_0 hx276_1 hx276_2 hx276_3 hx278_0 hx278_1 hx278_2 hx278_3 hx279_0 hx279_1 hx279_2 hx279_3 hHeld ⊢
          refine pv_ 0 (some 20) (bm 29 1) HT_.out ?_
          refine pv_ 1 (some 21) (bm 29 3) HT_.out ?_
          refine pv_ 2 (some 22) (bm 29 7) HT_.out ?_
          refine pv_ 3 (some 23) (bm 29 15) HT_.out ?_
          refine pv_ 4 (some 24) (bm 29 31) HT_.out ?_
          refine pv_ 5 (some 25) (bm 29 63) HT_.out ?_
          refine pv_ 6 (some 26) (bm 29 127) HT_.out ?_
          refine pv_ 7 (some 27) (bm 29 255) HT_.out ?_
          refine pv_ 8 (some 28) (bm 29 511) HT_.out ?_
          refine pv_ 10 (some 30) (bm 29 1535) HT_.out ?_
          refine pv_ 11 (some 31) (bm 29 3583) HT_.out ?_
          refine pv_ 12 (some 32) (bm 29 7679) HT_.out ?_
          refine tk_ 9 (some 29) (bm 29 8191) HT_.out HW_.out hHeld ?_
          refine tk_ 13 (some 33) (bm 29 16383) HT_.out HW_.out hHeld ?_
          refine one_ (i := 14) (N := some 34) (bm 29 32767) rfl rfl (one_of HT_.out (by kernel_rfl)) (by decide) (fun K hK => ?_)
          refine goes_ Tryd.func15 (by kernel_rfl) rfl #[.slice A0 l0.length c0, .slice A1 l1.length c1, .agg #[.int .i64 ((rd_T36 l2 x11_1).f0), .int .i64 ((rd_T36 l2 x11_1).f1), .int .i64 ((rd_T36 l2 x11_1).f2), .slice A275_3 ((rd_T36 l2 x11_1).f3).length c275_3], .agg #[.int .i64 ((rd_T36 l3 x11_1).f0), .int .i64 ((rd_T36 l3 x11_1).f1), .int .i64 ((rd_T36 l3 x11_1).f2), .slice A276_3 ((rd_T36 l3 x11_1).f3).length c276_3]] (by rfl) rfl rfl gA ?_
          with_reducible refine (tmesisref24_same.calls _ _ l0 _ _ l1 ((rd_T36 l2 x11_1).f0) ((rd_T36 l2 x11_1).f1) ((rd_T36 l2 x11_1).f2) _ _ ((rd_T36 l2 x11_1).f3) ((rd_T36 l3 x11_1).f0) ((rd_T36 l3 x11_1).f1) ((rd_T36 l3 x11_1).f2) _ _ ((rd_T36 l3 x11_1).f3) true _ ?side1 ?side2 ?side3 ?side4 ?side5 ?side6 ?side7 ?side8 A11.out).mono ?_
          (case side1 => exact CAt (Kd.C_below HR0.out HB.out))
          (case side2 => exact HC0.out)
          (case side3 => exact CAt (Kd.C_below HR1.out HB.out))
          (case side4 => exact HC1.out)
          (case side5 => exact CAt (Kd.C_below HR275_3.out HB.out))
          (case side6 => exact HC275_3.out)
          (case side7 => exact CAt (Kd.C_below HR276_3.out HB.out))
          (case side8 => exact HC276_3.out)
          rintro e w15 ⟨rfl, hb⟩
          refine ⟨_, rfl, ?_⟩
          replace HB := Aside0.mk (below_step (bAt HB.out) hb)
          (try clear hb)
          (try clear hb2)
          (try clear hk)
          (try clear hi)
          refine hK.out _ _ ⟨((HB.out.cell (World.block_lt_of_cell? w _ hw275_0)).trans hw275_0), ((HB.out.cell (World.block_lt_of_cell? w _ hw275_1)).trans hw275_1), ((HB.out.cell (World.block_lt_of_cell? w _ hw275_2)).trans hw275_2), ((HB.out.cell (World.block_lt_of_cell? w _ hw275_3)).trans hw275_3), ((HB.out.cell (World.block_lt_of_cell? w _ hw276_0)).trans hw276_0), ((HB.out.cell (World.block_lt_of_cell? w _ hw276_1)).trans hw276_1), ((HB.out.cell (World.block_lt_of_cell? w _ hw276_2)).trans hw276_2), ((HB.out.cell (World.block_lt_of_cell? w _ hw276_3)).trans hw276_3), ((HB.out.cell (World.block_lt_of_cell? w _ hw278_0)).trans hw278_0), ((HB.out.cell (World.block_lt_of_cell? w _ hw278_1)).trans hw278_1), ((HB.out.cell (World.block_lt_of_cell? w _ hw278_2)).trans hw278_2), ((HB.out.cell (World.block_lt_of_cell? w _ hw278_3)).trans hw278_3), ((HB.out.cell (World.block_lt_of_cell? w _ hw279_0)).trans hw279_0), ((HB.out.cell (World.block_lt_of_cell? w _ hw279_1)).trans hw279_1), ((HB.out.cell (World.block_lt_of_cell? w _ hw279_2)).trans hw279_2), ((HB.out.cell (World.block_lt_of_cell? w _ hw279_3)).trans hw279_3)⟩ (fun hHeld => ?_)
          clear hK K
          refine norm_ (a' := ?_) ?_ ?_
          rotate_left
          ·show Act.put _ (some 34) _ = _
           simp only [Act.put, List.setIfInBounds_toArray, List.set_cons_zero, List.set_cons_succ, i64_w, i32_w]
           rfl
          refine pv_ 15 (some 35) (bm 29 65535) HT_.out ?_
          refine pv_ 16 (some 36) (bm 29 131071) HT_.out ?_
          refine pv_ 17 (some 37) (bm 29 262143) HT_.out ?_
          refine pv_ 18 (some 38) (bm 29 524287) HT_.out ?_
          refine pv_ 19 (some 39) (bm 29 1048575) HT_.out ?_
          refine pv_ 20 (some 40) (bm 29 2097151) HT_.out ?_
          refine pv_ 22 (some 42) (bm 29 6291455) HT_.out ?_
          refine pv_ 23 (some 43) (bm 29 14680063) HT_.out ?_
          refine pv_ 24 (some 44) (bm 29 31457279) HT_.out ?_
          refine pv_ 25 (some 45) (bm 29 65011711) HT_.out ?_
          refine tk_ 21 (some 41) (bm 29 67108863) HT_.out HW_.out hHeld ?_
          refine tk_ 26 (some 46) (bm 29 134217727) HT_.out HW_.out hHeld ?_
          refine pv_ 27 (some 47) (bm 29 268435455) HT_.out ?_
          refine pv_ 28 (some 48) (bm 29 536870911) HT_.out ?_
          refine done_ (done_of HT_.out (by kernel_rfl)) ?_
          try go_wp2
          go_roundg k1
          case measure => have := HK1.out; omega
          case rel => exact ⟨(wrap64 (x11_1 + 1)), sR, H', ⟨by have := HK1.out; omega⟩, ⟨bAt HB.out⟩⟩
         ·rw [if_neg c13] at H
          obtain ⟨c13b0, c13b1⟩ := neB c13
          have H' := Aside0.mk H
          clear H
          try go_wp2
          replace HB := Aside0.mk (below_drew1 HB.out)
          have p275 : 0 ≤ (x11_1 : Int) := dt
          have q275 : x11_1 < (l2.length : Int) := dt
          obtain ⟨ad275, A275_3, c275_3, e275, hx275_0, hx275_1, hx275_2, hx275_3, hl275_3, hi275_3⟩ := at_T36 HR2.out x11_1 p275 q275
          have hw275_3 := hx275_3
          have hw275_2 := hx275_2
          have hw275_1 := hx275_1
          have hw275_0 := hx275_0
          cases e275
          replace hx275_0 := pw_cell_below HB.out hx275_0
          replace hx275_1 := pw_cell_below HB.out hx275_1
          replace hx275_2 := pw_cell_below HB.out hx275_2
          replace hx275_3 := pw_cell_below HB.out hx275_3
          have HR275_3 := Aside0.mk hi275_3
          have HC275_3 := Aside0.mk hl275_3
          clear hi275_3 hl275_3
          replace p275 := eq_true p275
          replace q275 := eq_true q275
          have p276 : 0 ≤ (x11_1 : Int) := dt
          have q276 : x11_1 < (l3.length : Int) := dt
          obtain ⟨ad276, A276_3, c276_3, e276, hx276_0, hx276_1, hx276_2, hx276_3, hl276_3, hi276_3⟩ := at_T36 HR3.out x11_1 p276 q276
          have hw276_3 := hx276_3
          have hw276_2 := hx276_2
          have hw276_1 := hx276_1
          have hw276_0 := hx276_0
          cases e276
          replace hx276_0 := pw_cell_below HB.out hx276_0
          replace hx276_1 := pw_cell_below HB.out hx276_1
          replace hx276_2 := pw_cell_below HB.out hx276_2
          replace hx276_3 := pw_cell_below HB.out hx276_3
          have HR276_3 := Aside0.mk hi276_3
          have HC276_3 := Aside0.mk hl276_3
          clear hi276_3 hl276_3
          replace p276 := eq_true p276
          replace q276 := eq_true q276
          have p278 : 0 ≤ (x11_1 : Int) := dt
          have q278 : x11_1 < (l2.length : Int) := dt
          obtain ⟨ad278, A278_3, c278_3, e278, hx278_0, hx278_1, hx278_2, hx278_3, hl278_3, hi278_3⟩ := at_T36 HR2.out x11_1 p278 q278
          have hw278_3 := hx278_3
          have hw278_2 := hx278_2
          have hw278_1 := hx278_1
          have hw278_0 := hx278_0
          obtain rfl : ad275 = ad278 := (by injection e278)
          replace hx278_0 := pw_cell_below HB.out hx278_0
          replace hx278_1 := pw_cell_below HB.out hx278_1
          replace hx278_2 := pw_cell_below HB.out hx278_2
          replace hx278_3 := pw_cell_below HB.out hx278_3
          have HR278_3 := Aside0.mk hi278_3
          have HC278_3 := Aside0.mk hl278_3
          clear hi278_3 hl278_3
          replace p278 := eq_true p278
          replace q278 := eq_true q278
          have p279 : 0 ≤ (x11_1 : Int) := dt
          have q279 : x11_1 < (l3.length : Int) := dt
          obtain ⟨ad279, A279_3, c279_3, e279, hx279_0, hx279_1, hx279_2, hx279_3, hl279_3, hi279_3⟩ := at_T36 HR3.out x11_1 p279 q279
          have hw279_3 := hx279_3
          have hw279_2 := hx279_2
          have hw279_1 := hx279_1
          have hw279_0 := hx279_0
          obtain rfl : ad276 = ad279 := (by injection e279)
          replace hx279_0 := pw_cell_below HB.out hx279_0
          replace hx279_1 := pw_cell_below HB.out hx279_1
          replace hx279_2 := pw_cell_below HB.out hx279_2
          replace hx279_3 := pw_cell_below HB.out hx279_3
          have HR279_3 := Aside0.mk hi279_3
          have HC279_3 := Aside0.mk hl279_3
          clear hi279_3 hl279_3
          replace p279 := eq_true p279
          replace q279 := eq_true q279
          refine start_ (n := 29) (S := fun w' => w'.cell? (ad275.add ((x11_1).toNat * 4)) = some (.int .i64 ((rd_T36 l2 x11_1).f0)) ∧ w'.cell? ⟨(ad275.add ((x11_1).toNat * 4)).block, (ad275.add ((x11_1).toNat * 4)).off + 1, none⟩ = some (.int .i64 ((rd_T36 l2 x11_1).f1)) ∧ w'.cell? ⟨(ad275.add ((x11_1).toNat * 4)).block, (ad275.add ((x11_1).toNat * 4)).off + 2, none⟩ = some (.int .i64 ((rd_T36 l2 x11_1).f2)) ∧ w'.cell? ⟨(ad275.add ((x11_1).toNat * 4)).block, (ad275.add ((x11_1).toNat * 4)).off + 3, none⟩ = some (.slice A275_3 ((rd_T36 l2 x11_1).f3).length c275_3) ∧ w'.cell? (ad276.add ((x11_1).toNat * 4)) = some (.int .i64 ((rd_T36 l3 x11_1).f0)) ∧ w'.cell? ⟨(ad276.add ((x11_1).toNat * 4)).block, (ad276.add ((x11_1).toNat * 4)).off + 1, none⟩ = some (.int .i64 ((rd_T36 l3 x11_1).f1)) ∧ w'.cell? ⟨(ad276.add ((x11_1).toNat * 4)).block, (ad276.add ((x11_1).toNat * 4)).off + 2, none⟩ = some (.int .i64 ((rd_T36 l3 x11_1).f2)) ∧ w'.cell? ⟨(ad276.add ((x11_1).toNat * 4)).block, (ad276.add ((x11_1).toNat * 4)).off + 3, none⟩ = some (.slice A276_3 ((rd_T36 l3 x11_1).f3).length c276_3) ∧ w'.cell? (ad275.add ((x11_1).toNat * 4)) = some (.int .i64 ((rd_T36 l2 x11_1).f0)) ∧ w'.cell? ⟨(ad275.add ((x11_1).toNat * 4)).block, (ad275.add ((x11_1).toNat * 4)).off + 1, none⟩ = some (.int .i64 ((rd_T36 l2 x11_1).f1)) ∧ w'.cell? ⟨(ad275.add ((x11_1).toNat * 4)).block, (ad275.add ((x11_1).toNat * 4)).off + 2, none⟩ = some (.int .i64 ((rd_T36 l2 x11_1).f2)) ∧ w'.cell? ⟨(ad275.add ((x11_1).toNat * 4)).block, (ad275.add ((x11_1).toNat * 4)).off + 3, none⟩ = some (.slice A278_3 ((rd_T36 l2 x11_1).f3).length c278_3) ∧ w'.cell? (ad276.add ((x11_1).toNat * 4)) = some (.int .i64 ((rd_T36 l3 x11_1).f0)) ∧ w'.cell? ⟨(ad276.add ((x11_1).toNat * 4)).block, (ad276.add ((x11_1).toNat * 4)).off + 1, none⟩ = some (.int .i64 ((rd_T36 l3 x11_1).f1)) ∧ w'.cell? ⟨(ad276.add ((x11_1).toNat * 4)).block, (ad276.add ((x11_1).toNat * 4)).off + 2, none⟩ = some (.int .i64 ((rd_T36 l3 x11_1).f2)) ∧ w'.cell? ⟨(ad276.add ((x11_1).toNat * 4)).block, (ad276.add ((x11_1).toNat * 4)).off + 3, none⟩ = some (.slice A279_3 ((rd_T36 l3 x11_1).f3).length c279_3)) (ds := []) (bm 29 0) (by kernel_rfl) rfl rfl ⟨((HB.out.cell (World.block_lt_of_cell? w _ hw275_0)).trans hw275_0), ((HB.out.cell (World.block_lt_of_cell? w _ hw275_1)).trans hw275_1), ((HB.out.cell (World.block_lt_of_cell? w _ hw275_2)).trans hw275_2), ((HB.out.cell (World.block_lt_of_cell? w _ hw275_3)).trans hw275_3), ((HB.out.cell (World.block_lt_of_cell? w _ hw276_0)).trans hw276_0), ((HB.out.cell (World.block_lt_of_cell? w _ hw276_1)).trans hw276_1), ((HB.out.cell (World.block_lt_of_cell? w _ hw276_2)).trans hw276_2), ((HB.out.cell (World.block_lt_of_cell? w _ hw276_3)).trans hw276_3), ((HB.out.cell (World.block_lt_of_cell? w _ hw278_0)).trans hw278_0), ((HB.out.cell (World.block_lt_of_cell? w _ hw278_1)).trans hw278_1), ((HB.out.cell (World.block_lt_of_cell? w _ hw278_2)).trans hw278_2), ((HB.out.cell (World.block_lt_of_cell? w _ hw278_3)).trans hw278_3), ((HB.out.cell (World.block_lt_of_cell? w _ hw279_0)).trans hw279_0), ((HB.out.cell (World.block_lt_of_cell? w _ hw279_1)).trans hw279_1), ((HB.out.cell (World.block_lt_of_cell? w _ hw279_2)).trans hw279_2), ((HB.out.cell (World.block_lt_of_cell? w _ hw279_3)).trans hw279_3)⟩ (fun hHeld => ?_); refine with_tabW tmesisref24_Keep.tab3 tmesisref24_Keep.bits3 (fun HT_ HW_ => ?_)
          generalize wr.drew = w16 at HB HR275_3 HR276_3 HR278_3 HR279_3 hx275_0 hx275_1 hx275_2 hx275_3 hx276_0 hx276_1 hx276_2 hx276_3 hx278_0 hx278_1 hx278_2 hx278_3 hx279_0 hx279_1 hx279_2 hx279_3 hHeld ⊢
          refine pv_ 0 (some 20) (bm 29 1) HT_.out ?_
          refine pv_ 1 (some 21) (bm 29 3) HT_.out ?_
          refine pv_ 2 (some 22) (bm 29 7) HT_.out ?_
          refine pv_ 3 (some 23) (bm 29 15) HT_.out ?_
          refine pv_ 4 (some 24) (bm 29 31) HT_.out ?_
          refine pv_ 5 (some 25) (bm 29 63) HT_.out ?_
          refine pv_ 6 (some 26) (bm 29 127) HT_.out ?_
          refine pv_ 7 (some 27) (bm 29 255) HT_.out ?_
          refine pv_ 8 (some 28) (bm 29 511) HT_.out ?_
          refine pv_ 10 (some 30) (bm 29 1535) HT_.out ?_
          refine pv_ 11 (some 31) (bm 29 3583) HT_.out ?_
          refine pv_ 12 (some 32) (bm 29 7679) HT_.out ?_
          refine tk_ 9 (some 29) (bm 29 8191) HT_.out HW_.out hHeld ?_
          refine tk_ 13 (some 33) (bm 29 16383) HT_.out HW_.out hHeld ?_
          refine one_ (i := 14) (N := some 34) (bm 29 32767) rfl rfl (one_of HT_.out (by kernel_rfl)) (by decide) (fun K hK => ?_)
          refine goes_ Tryd.func15 (by kernel_rfl) rfl #[.slice A0 l0.length c0, .slice A1 l1.length c1, .agg #[.int .i64 ((rd_T36 l2 x11_1).f0), .int .i64 ((rd_T36 l2 x11_1).f1), .int .i64 ((rd_T36 l2 x11_1).f2), .slice A275_3 ((rd_T36 l2 x11_1).f3).length c275_3], .agg #[.int .i64 ((rd_T36 l3 x11_1).f0), .int .i64 ((rd_T36 l3 x11_1).f1), .int .i64 ((rd_T36 l3 x11_1).f2), .slice A276_3 ((rd_T36 l3 x11_1).f3).length c276_3]] (by rfl) rfl rfl gA ?_
          with_reducible refine (tmesisref24_same.calls _ _ l0 _ _ l1 ((rd_T36 l2 x11_1).f0) ((rd_T36 l2 x11_1).f1) ((rd_T36 l2 x11_1).f2) _ _ ((rd_T36 l2 x11_1).f3) ((rd_T36 l3 x11_1).f0) ((rd_T36 l3 x11_1).f1) ((rd_T36 l3 x11_1).f2) _ _ ((rd_T36 l3 x11_1).f3) true _ ?side1 ?side2 ?side3 ?side4 ?side5 ?side6 ?side7 ?side8 A11.out).mono ?_
          (case side1 => exact CAt (Kd.C_below HR0.out HB.out))
          (case side2 => exact HC0.out)
          (case side3 => exact CAt (Kd.C_below HR1.out HB.out))
          (case side4 => exact HC1.out)
          (case side5 => exact CAt (Kd.C_below HR275_3.out HB.out))
          (case side6 => exact HC275_3.out)
          (case side7 => exact CAt (Kd.C_below HR276_3.out HB.out))
          (case side8 => exact HC276_3.out)
          rintro e w17 ⟨rfl, hb⟩
          refine ⟨_, rfl, ?_⟩
          replace HB := Aside0.mk (below_step (bAt HB.out) hb)
          (try clear hb)
          (try clear hb2)
          (try clear hk)
          (try clear hi)
          refine hK.out _ _ ⟨((HB.out.cell (World.block_lt_of_cell? w _ hw275_0)).trans hw275_0), ((HB.out.cell (World.block_lt_of_cell? w _ hw275_1)).trans hw275_1), ((HB.out.cell (World.block_lt_of_cell? w _ hw275_2)).trans hw275_2), ((HB.out.cell (World.block_lt_of_cell? w _ hw275_3)).trans hw275_3), ((HB.out.cell (World.block_lt_of_cell? w _ hw276_0)).trans hw276_0), ((HB.out.cell (World.block_lt_of_cell? w _ hw276_1)).trans hw276_1), ((HB.out.cell (World.block_lt_of_cell? w _ hw276_2)).trans hw276_2), ((HB.out.cell (World.block_lt_of_cell? w _ hw276_3)).trans hw276_3), ((HB.out.cell (World.block_lt_of_cell? w _ hw278_0)).trans hw278_0), ((HB.out.cell (World.block_lt_of_cell? w _ hw278_1)).trans hw278_1), ((HB.out.cell (World.block_lt_of_cell? w _ hw278_2)).trans hw278_2), ((HB.out.cell (World.block_lt_of_cell? w _ hw278_3)).trans hw278_3), ((HB.out.cell (World.block_lt_of_cell? w _ hw279_0)).trans hw279_0), ((HB.out.cell (World.block_lt_of_cell? w _ hw279_1)).trans hw279_1), ((HB.out.cell (World.block_lt_of_cell? w _ hw279_2)).trans hw279_2), ((HB.out.cell (World.block_lt_of_cell? w _ hw279_3)).trans hw279_3)⟩ (fun hHeld => ?_)
          clear hK K
          refine norm_ (a' := ?_) ?_ ?_
          rotate_left
          ·show Act.put _ (some 34) _ = _
           simp only [Act.put, List.setIfInBounds_toArray, List.set_cons_zero, List.set_cons_succ, i64_w, i32_w]
           rfl
          refine pv_ 15 (some 35) (bm 29 65535) HT_.out ?_
          refine pv_ 16 (some 36) (bm 29 131071) HT_.out ?_
          refine pv_ 17 (some 37) (bm 29 262143) HT_.out ?_
          refine pv_ 18 (some 38) (bm 29 524287) HT_.out ?_
          refine pv_ 19 (some 39) (bm 29 1048575) HT_.out ?_
          refine pv_ 20 (some 40) (bm 29 2097151) HT_.out ?_
          refine pv_ 22 (some 42) (bm 29 6291455) HT_.out ?_
          refine pv_ 23 (some 43) (bm 29 14680063) HT_.out ?_
          refine pv_ 24 (some 44) (bm 29 31457279) HT_.out ?_
          refine pv_ 25 (some 45) (bm 29 65011711) HT_.out ?_
          refine tk_ 21 (some 41) (bm 29 67108863) HT_.out HW_.out hHeld ?_
          refine tk_ 26 (some 46) (bm 29 134217727) HT_.out HW_.out hHeld ?_
          refine pv_ 27 (some 47) (bm 29 268435455) HT_.out ?_
          refine pv_ 28 (some 48) (bm 29 536870911) HT_.out ?_
          refine done_ (done_of HT_.out (by kernel_rfl)) ?_
          try go_wp2
          go_meet
          case rel => exact ⟨_, (x11_1), sR, H', ⟨by have := HK1.out; first | omega | exact Nat.le_refl _⟩, ⟨bAt HB.out⟩⟩
        ·replace c12 := Bool.eq_false_iff.mpr c12
         subst c12
         replace H := fP H
         have H' := Aside0.mk H
         clear H
         try go_wp2
         replace HB := Aside0.mk (below_drew1 HB.out)
         have p275 : 0 ≤ (x11_1 : Int) := dt
         have q275 : x11_1 < (l2.length : Int) := dt
         obtain ⟨ad275, A275_3, c275_3, e275, hx275_0, hx275_1, hx275_2, hx275_3, hl275_3, hi275_3⟩ := at_T36 HR2.out x11_1 p275 q275
         have hw275_3 := hx275_3
         have hw275_2 := hx275_2
         have hw275_1 := hx275_1
         have hw275_0 := hx275_0
         cases e275
         replace hx275_0 := pw_cell_below HB.out hx275_0
         replace hx275_1 := pw_cell_below HB.out hx275_1
         replace hx275_2 := pw_cell_below HB.out hx275_2
         replace hx275_3 := pw_cell_below HB.out hx275_3
         have HR275_3 := Aside0.mk hi275_3
         have HC275_3 := Aside0.mk hl275_3
         clear hi275_3 hl275_3
         replace p275 := eq_true p275
         replace q275 := eq_true q275
         have p276 : 0 ≤ (x11_1 : Int) := dt
         have q276 : x11_1 < (l3.length : Int) := dt
         obtain ⟨ad276, A276_3, c276_3, e276, hx276_0, hx276_1, hx276_2, hx276_3, hl276_3, hi276_3⟩ := at_T36 HR3.out x11_1 p276 q276
         have hw276_3 := hx276_3
         have hw276_2 := hx276_2
         have hw276_1 := hx276_1
         have hw276_0 := hx276_0
         cases e276
         replace hx276_0 := pw_cell_below HB.out hx276_0
         replace hx276_1 := pw_cell_below HB.out hx276_1
         replace hx276_2 := pw_cell_below HB.out hx276_2
         replace hx276_3 := pw_cell_below HB.out hx276_3
         have HR276_3 := Aside0.mk hi276_3
         have HC276_3 := Aside0.mk hl276_3
         clear hi276_3 hl276_3
         replace p276 := eq_true p276
         replace q276 := eq_true q276
         refine start_ (n := 29) (S := fun w' => w'.cell? (ad275.add ((x11_1).toNat * 4)) = some (.int .i64 ((rd_T36 l2 x11_1).f0)) ∧ w'.cell? ⟨(ad275.add ((x11_1).toNat * 4)).block, (ad275.add ((x11_1).toNat * 4)).off + 1, none⟩ = some (.int .i64 ((rd_T36 l2 x11_1).f1)) ∧ w'.cell? ⟨(ad275.add ((x11_1).toNat * 4)).block, (ad275.add ((x11_1).toNat * 4)).off + 2, none⟩ = some (.int .i64 ((rd_T36 l2 x11_1).f2)) ∧ w'.cell? ⟨(ad275.add ((x11_1).toNat * 4)).block, (ad275.add ((x11_1).toNat * 4)).off + 3, none⟩ = some (.slice A275_3 ((rd_T36 l2 x11_1).f3).length c275_3) ∧ w'.cell? (ad276.add ((x11_1).toNat * 4)) = some (.int .i64 ((rd_T36 l3 x11_1).f0)) ∧ w'.cell? ⟨(ad276.add ((x11_1).toNat * 4)).block, (ad276.add ((x11_1).toNat * 4)).off + 1, none⟩ = some (.int .i64 ((rd_T36 l3 x11_1).f1)) ∧ w'.cell? ⟨(ad276.add ((x11_1).toNat * 4)).block, (ad276.add ((x11_1).toNat * 4)).off + 2, none⟩ = some (.int .i64 ((rd_T36 l3 x11_1).f2)) ∧ w'.cell? ⟨(ad276.add ((x11_1).toNat * 4)).block, (ad276.add ((x11_1).toNat * 4)).off + 3, none⟩ = some (.slice A276_3 ((rd_T36 l3 x11_1).f3).length c276_3)) (ds := []) (bm 29 0) (by kernel_rfl) rfl rfl ⟨((HB.out.cell (World.block_lt_of_cell? w _ hw275_0)).trans hw275_0), ((HB.out.cell (World.block_lt_of_cell? w _ hw275_1)).trans hw275_1), ((HB.out.cell (World.block_lt_of_cell? w _ hw275_2)).trans hw275_2), ((HB.out.cell (World.block_lt_of_cell? w _ hw275_3)).trans hw275_3), ((HB.out.cell (World.block_lt_of_cell? w _ hw276_0)).trans hw276_0), ((HB.out.cell (World.block_lt_of_cell? w _ hw276_1)).trans hw276_1), ((HB.out.cell (World.block_lt_of_cell? w _ hw276_2)).trans hw276_2), ((HB.out.cell (World.block_lt_of_cell? w _ hw276_3)).trans hw276_3)⟩ (fun hHeld => ?_); refine with_tabW tmesisref24_Keep.tab3 tmesisref24_Keep.bits3 (fun HT_ HW_ => ?_)
         generalize wr.drew = w18 at HB HR275_3 HR276_3 hx275_0 hx275_1 hx275_2 hx275_3 hx276_0 hx276_1 hx276_2 hx276_3 hHeld ⊢
         refine pv_ 0 (some 20) (bm 29 1) HT_.out ?_
         refine pv_ 1 (some 21) (bm 29 3) HT_.out ?_
         refine pv_ 2 (some 22) (bm 29 7) HT_.out ?_
         refine pv_ 3 (some 23) (bm 29 15) HT_.out ?_
         refine pv_ 4 (some 24) (bm 29 31) HT_.out ?_
         refine pv_ 5 (some 25) (bm 29 63) HT_.out ?_
         refine pv_ 6 (some 26) (bm 29 127) HT_.out ?_
         refine pv_ 7 (some 27) (bm 29 255) HT_.out ?_
         refine pv_ 8 (some 28) (bm 29 511) HT_.out ?_
         refine pv_ 10 (some 30) (bm 29 1535) HT_.out ?_
         refine pv_ 11 (some 31) (bm 29 3583) HT_.out ?_
         refine pv_ 12 (some 32) (bm 29 7679) HT_.out ?_
         refine tk_ 9 (some 29) (bm 29 8191) HT_.out HW_.out hHeld ?_
         refine tk_ 13 (some 33) (bm 29 16383) HT_.out HW_.out hHeld ?_
         refine one_ (i := 14) (N := some 34) (bm 29 32767) rfl rfl (one_of HT_.out (by kernel_rfl)) (by decide) (fun K hK => ?_)
         refine goes_ Tryd.func15 (by kernel_rfl) rfl #[.slice A0 l0.length c0, .slice A1 l1.length c1, .agg #[.int .i64 ((rd_T36 l2 x11_1).f0), .int .i64 ((rd_T36 l2 x11_1).f1), .int .i64 ((rd_T36 l2 x11_1).f2), .slice A275_3 ((rd_T36 l2 x11_1).f3).length c275_3], .agg #[.int .i64 ((rd_T36 l3 x11_1).f0), .int .i64 ((rd_T36 l3 x11_1).f1), .int .i64 ((rd_T36 l3 x11_1).f2), .slice A276_3 ((rd_T36 l3 x11_1).f3).length c276_3]] (by rfl) rfl rfl gA ?_
         with_reducible refine (tmesisref24_same.calls _ _ l0 _ _ l1 ((rd_T36 l2 x11_1).f0) ((rd_T36 l2 x11_1).f1) ((rd_T36 l2 x11_1).f2) _ _ ((rd_T36 l2 x11_1).f3) ((rd_T36 l3 x11_1).f0) ((rd_T36 l3 x11_1).f1) ((rd_T36 l3 x11_1).f2) _ _ ((rd_T36 l3 x11_1).f3) false _ ?side1 ?side2 ?side3 ?side4 ?side5 ?side6 ?side7 ?side8 A11.out).mono ?_
         (case side1 => exact CAt (Kd.C_below HR0.out HB.out))
         (case side2 => exact HC0.out)
         (case side3 => exact CAt (Kd.C_below HR1.out HB.out))
         (case side4 => exact HC1.out)
         (case side5 => exact CAt (Kd.C_below HR275_3.out HB.out))
         (case side6 => exact HC275_3.out)
         (case side7 => exact CAt (Kd.C_below HR276_3.out HB.out))
         (case side8 => exact HC276_3.out)
         rintro e w19 ⟨rfl, hb⟩
         refine ⟨_, rfl, ?_⟩
         replace HB := Aside0.mk (below_step (bAt HB.out) hb)
         (try clear hb)
         (try clear hb2)
         (try clear hk)
         (try clear hi)
         refine hK.out _ _ ⟨((HB.out.cell (World.block_lt_of_cell? w _ hw275_0)).trans hw275_0), ((HB.out.cell (World.block_lt_of_cell? w _ hw275_1)).trans hw275_1), ((HB.out.cell (World.block_lt_of_cell? w _ hw275_2)).trans hw275_2), ((HB.out.cell (World.block_lt_of_cell? w _ hw275_3)).trans hw275_3), ((HB.out.cell (World.block_lt_of_cell? w _ hw276_0)).trans hw276_0), ((HB.out.cell (World.block_lt_of_cell? w _ hw276_1)).trans hw276_1), ((HB.out.cell (World.block_lt_of_cell? w _ hw276_2)).trans hw276_2), ((HB.out.cell (World.block_lt_of_cell? w _ hw276_3)).trans hw276_3)⟩ (fun hHeld => ?_)
         clear hK K
         refine norm_ (a' := ?_) ?_ ?_
         rotate_left
         ·show Act.put _ (some 34) _ = _
          simp only [Act.put, List.setIfInBounds_toArray, List.set_cons_zero, List.set_cons_succ, i64_w, i32_w]
          rfl
         refine pv_ 15 (some 35) (bm 29 65535) HT_.out ?_
         refine pv_ 16 (some 36) (bm 29 131071) HT_.out ?_
         refine pu_ 17 (some 37) (bm 29 262143) HT_.out ?_
         refine pu_ 18 (some 38) (bm 29 524287) HT_.out ?_
         refine pu_ 19 (some 39) (bm 29 1048575) HT_.out ?_
         refine pu_ 20 (some 40) (bm 29 2097151) HT_.out ?_
         refine pu_ 21 (some 41) (bm 29 4194303) HT_.out ?_
         refine pu_ 22 (some 42) (bm 29 8388607) HT_.out ?_
         refine pu_ 23 (some 43) (bm 29 16777215) HT_.out ?_
         refine pu_ 24 (some 44) (bm 29 33554431) HT_.out ?_
         refine pu_ 25 (some 45) (bm 29 67108863) HT_.out ?_
         refine pu_ 26 (some 46) (bm 29 134217727) HT_.out ?_
         refine pu_ 27 (some 47) (bm 29 268435455) HT_.out ?_
         refine pv_ 28 (some 48) (bm 29 536870911) HT_.out ?_
         refine done_ (done_of HT_.out (by kernel_rfl)) ?_
         try go_wp2
         go_meet
         case rel => exact ⟨_, (x11_1), sR, H', ⟨by have := HK1.out; first | omega | exact Nat.le_refl _⟩, ⟨bAt HB.out⟩⟩
       ·exact nB H c10
      ·exact nB H c9
     ·exact nB H c8
    ·rw [if_neg c7] at H
     have c7b0 := decide_eq_false c7
     clear c7
     (first | rw [c7b0] | (simp only [i64_w, i32_w]; rw [c7b0]) | skip)
     have H' := Aside0.mk H
     clear H
     try go_wp2
     replace HB := Aside0.mk (below_drew1 HB.out)
     refine start_ (n := 29) (S := fun w' => True) (ds := []) (bm 29 0) (by kernel_rfl) rfl rfl trivial (fun hHeld => ?_); refine with_tabW tmesisref24_Keep.tab3 tmesisref24_Keep.bits3 (fun HT_ HW_ => ?_)
     generalize wr.drew = w20 at HB hHeld ⊢
     refine pv_ 0 (some 20) (bm 29 1) HT_.out ?_
     refine pv_ 1 (some 21) (bm 29 3) HT_.out ?_
     refine pv_ 2 (some 22) (bm 29 7) HT_.out ?_
     refine pv_ 3 (some 23) (bm 29 15) HT_.out ?_
     refine pu_ 4 (some 24) (bm 29 31) HT_.out ?_
     refine pu_ 5 (some 25) (bm 29 63) HT_.out ?_
     refine pu_ 6 (some 26) (bm 29 127) HT_.out ?_
     refine pu_ 7 (some 27) (bm 29 255) HT_.out ?_
     refine pu_ 8 (some 28) (bm 29 511) HT_.out ?_
     refine pu_ 9 (some 29) (bm 29 1023) HT_.out ?_
     refine pu_ 10 (some 30) (bm 29 2047) HT_.out ?_
     refine pu_ 11 (some 31) (bm 29 4095) HT_.out ?_
     refine pu_ 12 (some 32) (bm 29 8191) HT_.out ?_
     refine pu_ 13 (some 33) (bm 29 16383) HT_.out ?_
     refine pu_ 14 (some 34) (bm 29 32767) HT_.out ?_
     refine pv_ 15 (some 35) (bm 29 65535) HT_.out ?_
     refine pv_ 16 (some 36) (bm 29 131071) HT_.out ?_
     refine pu_ 17 (some 37) (bm 29 262143) HT_.out ?_
     refine pu_ 18 (some 38) (bm 29 524287) HT_.out ?_
     refine pu_ 19 (some 39) (bm 29 1048575) HT_.out ?_
     refine pu_ 20 (some 40) (bm 29 2097151) HT_.out ?_
     refine pu_ 21 (some 41) (bm 29 4194303) HT_.out ?_
     refine pu_ 22 (some 42) (bm 29 8388607) HT_.out ?_
     refine pu_ 23 (some 43) (bm 29 16777215) HT_.out ?_
     refine pu_ 24 (some 44) (bm 29 33554431) HT_.out ?_
     refine pu_ 25 (some 45) (bm 29 67108863) HT_.out ?_
     refine pu_ 26 (some 46) (bm 29 134217727) HT_.out ?_
     refine pu_ 27 (some 47) (bm 29 268435455) HT_.out ?_
     refine pv_ 28 (some 48) (bm 29 536870911) HT_.out ?_
     refine done_ (done_of HT_.out (by kernel_rfl)) ?_
     try go_wp2
     go_meet
     case rel => exact ⟨_, (x11_1), sR, H', ⟨by have := HK1.out; first | omega | exact Nat.le_refl _⟩, ⟨bAt HB.out⟩⟩
 case rest =>
  clear HC6
  try clear c1
  try clear c2
  try clear p2
  try clear q2
  try clear hx2
  try clear c7
  try clear c7b0
  try clear c8
  try clear c9
  try clear c10
  try clear c12
  try clear c15
  try clear hx275_0
  try clear hx275_1
  try clear hx275_2
  try clear hx275_3
  try clear hx276_0
  try clear hx276_1
  try clear hx276_2
  try clear hx276_3
  try clear p275
  try clear p276
  try clear q275
  try clear q276
  obtain ⟨kq, x11_5, rfl, HA, HJ5, HB⟩ := hcut
  cases kq with
  | zero => exact absurd HA.out (by simp [tmesisref24_Keep.j1])
  | succ kj5 =>
   have H := HA.out
   clear HA
   simp only [tmesisref24_Keep.j1] at H
   have H' := Aside0.mk H
   clear H
   go_wp2
   go_loopg [12] kj5 (fun kq v12 w' => ∃ (x12_2 : Int), v12 = .int .i64 x12_2 ∧ Aside0 (tmesisref24_Keep.l1 kq l0 l1 l2 l3 ji5 x11_5 x12_2 = some (r1, r2)) ∧ Aside0 (kq ≤ kj5) ∧ Aside0 (Below w.heap.size w w'))
   case atStart => exact ⟨(0), sR, H', ⟨Nat.le_refl _⟩, ⟨bAt HB.out⟩⟩
   case round =>
    clear H'
    try clear c1
    try clear c2
    try clear p2
    try clear q2
    try clear hx2
    try clear c7
    try clear c7b0
    try clear c8
    try clear c9
    try clear c10
    try clear c12
    try clear c15
    try clear hx275_0
    try clear hx275_1
    try clear hx275_2
    try clear hx275_3
    try clear hx276_0
    try clear hx276_1
    try clear hx276_2
    try clear hx276_3
    try clear p2
    try clear p275
    try clear p276
    try clear q2
    try clear q275
    try clear q276
    obtain ⟨x12_2, rfl, HA, HK2, HB⟩ := hrel
    cases gk with
    | zero => exact absurd HA.out (by simp [tmesisref24_Keep.l1])
    | succ k2 =>
     have H := HA.out
     clear HA
     simp only [tmesisref24_Keep.l1] at H
     by_cases c21 : (wrap64 (x11_5 + x12_2)) < ji5
     ·rw [if_pos c21] at H
      have c21b0 := decide_eq_true c21
      clear c21
      obtain ⟨ji22, hji22⟩ : ∃ j_ : Int, (wrap64 ((wrap64 ((l2.length : Int) - 1)) - x12_2)) = j_ := ⟨_, rfl⟩
      replace H : (if 0 ≤ (ji22) then (if (ji22) < (l2.length : Int) then (if 0 ≤ (wrap64 ((wrap64 ((l3.length : Int) - 1)) - x12_2)) then (if (wrap64 ((wrap64 ((l3.length : Int) - 1)) - x12_2)) < (l3.length : Int) then ((tmesisref24_same.f l0 l1 ((rd_T36 l2 (ji22)).f0) ((rd_T36 l2 (ji22)).f1) ((rd_T36 l2 (ji22)).f2) ((rd_T36 l2 (ji22)).f3) ((rd_T36 l3 (wrap64 ((wrap64 ((l3.length : Int) - 1)) - x12_2))).f0) ((rd_T36 l3 (wrap64 ((wrap64 ((l3.length : Int) - 1)) - x12_2))).f1) ((rd_T36 l3 (wrap64 ((wrap64 ((l3.length : Int) - 1)) - x12_2))).f2) ((rd_T36 l3 (wrap64 ((wrap64 ((l3.length : Int) - 1)) - x12_2))).f3)).bind fun t284 => (if t284 = true then (if (wrap64 ((l0.length : Int) - ((rd_T36 l2 (ji22)).f1))) = (wrap64 ((l1.length : Int) - ((rd_T36 l3 (wrap64 ((wrap64 ((l3.length : Int) - 1)) - x12_2))).f1))) then (tmesisref24_Keep.l1 k2 l0 l1 l2 l3 ji5 x11_5 (wrap64 (x12_2 + 1))) else (some (x11_5, x12_2))) else (some (x11_5, x12_2)))) else (none)) else (none)) else (none)) else (none)) = some (r1, r2) := by first | (rw [hji22] at H; exact H) | (simp only [hji22] at H ⊢; exact H)
      have hji22w : (IntKind.i64.wrap ((wrap64 ((l2.length : Int) - 1)) - x12_2)) = ji22 := (i64_w _).trans hji22
      by_cases c23 : 0 ≤ (ji22)
      ·rw [if_pos c23] at H
       have c23b0 := decide_eq_true c23
       clear c23
       by_cases c24 : (ji22) < (l2.length : Int)
       ·rw [if_pos c24] at H
        have c24b0 := decide_eq_true c24
        clear c24
        obtain ⟨ji25, hji25⟩ : ∃ j_ : Int, (wrap64 ((wrap64 ((l3.length : Int) - 1)) - x12_2)) = j_ := ⟨_, rfl⟩
        replace H : (if 0 ≤ (ji25) then (if (ji25) < (l3.length : Int) then ((tmesisref24_same.f l0 l1 ((rd_T36 l2 (ji22)).f0) ((rd_T36 l2 (ji22)).f1) ((rd_T36 l2 (ji22)).f2) ((rd_T36 l2 (ji22)).f3) ((rd_T36 l3 (ji25)).f0) ((rd_T36 l3 (ji25)).f1) ((rd_T36 l3 (ji25)).f2) ((rd_T36 l3 (ji25)).f3)).bind fun t284 => (if t284 = true then (if (wrap64 ((l0.length : Int) - ((rd_T36 l2 (ji22)).f1))) = (wrap64 ((l1.length : Int) - ((rd_T36 l3 (ji25)).f1))) then (tmesisref24_Keep.l1 k2 l0 l1 l2 l3 ji5 x11_5 (wrap64 (x12_2 + 1))) else (some (x11_5, x12_2))) else (some (x11_5, x12_2)))) else (none)) else (none)) = some (r1, r2) := by first | (rw [hji25] at H; exact H) | (simp only [hji25] at H ⊢; exact H)
        have hji25w : (IntKind.i64.wrap ((wrap64 ((l3.length : Int) - 1)) - x12_2)) = ji25 := (i64_w _).trans hji25
        by_cases c26 : 0 ≤ (ji25)
        ·rw [if_pos c26] at H
         have c26b0 := decide_eq_true c26
         clear c26
         by_cases c27 : (ji25) < (l3.length : Int)
         ·rw [if_pos c27] at H
          have c27b0 := decide_eq_true c27
          clear c27
          obtain ⟨t284, A28, H⟩ := bE H
          by_cases c29 : t284 = true
          ·subst c29
           replace H := tP H
           by_cases c30 : (wrap64 ((l0.length : Int) - ((rd_T36 l2 (ji22)).f1))) = (wrap64 ((l1.length : Int) - ((rd_T36 l3 (ji25)).f1)))
           ·rw [if_pos c30] at H
            obtain ⟨c30b0, c30b1⟩ := eqB c30
            clear c30
            have H' := Aside0.mk H
            clear H
            have p280 : 0 ≤ ((ji22) : Int) := dt
            have q280 : (ji22) < (l2.length : Int) := dt
            obtain ⟨ad280, A280_3, c280_3, e280, hx280_0, hx280_1, hx280_2, hx280_3, hl280_3, hi280_3⟩ := at_T36 HR2.out (ji22) p280 q280
            cases e280
            replace hx280_0 := pw_cell_below HB.out hx280_0
            replace hx280_1 := pw_cell_below HB.out hx280_1
            replace hx280_2 := pw_cell_below HB.out hx280_2
            replace hx280_3 := pw_cell_below HB.out hx280_3
            have HR280_3 := Aside0.mk hi280_3
            have HC280_3 := Aside0.mk hl280_3
            clear hi280_3 hl280_3
            replace p280 := eq_true p280
            replace q280 := eq_true q280
            go_wp2_with (first | ((with_reducible refine gate_dst (N := 13) rfl ?_); (try (refine gate_guard (by rfl) ?_; dsimp only)); refine box_event ?hg (N := 13) ?hd (cs := #[.int .i64 0, .int .i64 0, .int .i64 0, .slice none 0 0]) (t := 36) ?hr ?_; (case hd => rfl); (case hg => rfl); (case hr => first | (go_simp; done) | (go_simp; rfl)); intro gb281 hg w31 hbox hb; have BK281 := Aside0.mk (hbox); have GW281 := Aside0.mk (gE (g := gb281) hg HB.out); have GE281 := Aside0.mk (gE (g := gb281) hg HB.out); replace HB := Aside0.mk (below_step (bAt HB.out) hb); clear hb hbox hg; obtain ⟨hcz32_0, hcz32_1, hcz32_2, hcz32_3, hfz32_0, hfz32_1, hfz32_2, hfz32_3⟩ := blk4 BK281.out; have p282 : 0 ≤ ((ji25) : Int) := dt; have q282 : (ji25) < (l3.length : Int) := dt; obtain ⟨ad282, A282_3, c282_3, e282, hx282_0, hx282_1, hx282_2, hx282_3, hl282_3, hi282_3⟩ := at_T36 HR3.out (ji25) p282 q282; cases e282; have hn282_0 : ad282.block ≠ gb281 := Nat.ne_of_lt (Nat.lt_of_lt_of_le (by have := World.block_lt_of_cell? _ _ hx282_0; first | rwa [add_block] at this | exact this) GW281.out); have hn282_1 : ad282.block ≠ gb281 := Nat.ne_of_lt (Nat.lt_of_lt_of_le (by have := World.block_lt_of_cell? _ _ hx282_0; first | rwa [add_block] at this | exact this) GW281.out); have hn282_2 : ad282.block ≠ gb281 := Nat.ne_of_lt (Nat.lt_of_lt_of_le (by have := World.block_lt_of_cell? _ _ hx282_0; first | rwa [add_block] at this | exact this) GW281.out); have hn282_3 : ad282.block ≠ gb281 := Nat.ne_of_lt (Nat.lt_of_lt_of_le (by have := World.block_lt_of_cell? _ _ hx282_0; first | rwa [add_block] at this | exact this) GW281.out); replace hx282_0 := pw_cell_below HB.out hx282_0; replace hx282_1 := pw_cell_below HB.out hx282_1; replace hx282_2 := pw_cell_below HB.out hx282_2; replace hx282_3 := pw_cell_below HB.out hx282_3; have HR282_3 := Aside0.mk hi282_3; have HC282_3 := Aside0.mk hl282_3; clear hi282_3 hl282_3; replace hx282_0 := (cell_far (p := ⟨gb281, 0, none⟩) (by first | (rw [add_block]; exact hn282_0) | (show (Addr.add _ _).block ≠ _; rw [add_block]; exact hn282_0) | exact hn282_0) (.int .i64 ((rd_T36 l2 (ji22)).f0))).trans hx282_0; replace hx282_1 := (cell_far (p := ⟨gb281, 0, none⟩) (by first | (rw [add_block]; exact hn282_0) | (show (Addr.add _ _).block ≠ _; rw [add_block]; exact hn282_0) | exact hn282_0) (.int .i64 ((rd_T36 l2 (ji22)).f0))).trans hx282_1; replace hx282_2 := (cell_far (p := ⟨gb281, 0, none⟩) (by first | (rw [add_block]; exact hn282_0) | (show (Addr.add _ _).block ≠ _; rw [add_block]; exact hn282_0) | exact hn282_0) (.int .i64 ((rd_T36 l2 (ji22)).f0))).trans hx282_2; replace hx282_3 := (cell_far (p := ⟨gb281, 0, none⟩) (by first | (rw [add_block]; exact hn282_0) | (show (Addr.add _ _).block ≠ _; rw [add_block]; exact hn282_0) | exact hn282_0) (.int .i64 ((rd_T36 l2 (ji22)).f0))).trans hx282_3; replace hx282_0 := (cell_far (p := ⟨gb281, 1, none⟩) (by first | (rw [add_block]; exact hn282_1) | (show (Addr.add _ _).block ≠ _; rw [add_block]; exact hn282_1) | exact hn282_1) (.int .i64 ((rd_T36 l2 (ji22)).f1))).trans hx282_0; replace hx282_1 := (cell_far (p := ⟨gb281, 1, none⟩) (by first | (rw [add_block]; exact hn282_1) | (show (Addr.add _ _).block ≠ _; rw [add_block]; exact hn282_1) | exact hn282_1) (.int .i64 ((rd_T36 l2 (ji22)).f1))).trans hx282_1; replace hx282_2 := (cell_far (p := ⟨gb281, 1, none⟩) (by first | (rw [add_block]; exact hn282_1) | (show (Addr.add _ _).block ≠ _; rw [add_block]; exact hn282_1) | exact hn282_1) (.int .i64 ((rd_T36 l2 (ji22)).f1))).trans hx282_2; replace hx282_3 := (cell_far (p := ⟨gb281, 1, none⟩) (by first | (rw [add_block]; exact hn282_1) | (show (Addr.add _ _).block ≠ _; rw [add_block]; exact hn282_1) | exact hn282_1) (.int .i64 ((rd_T36 l2 (ji22)).f1))).trans hx282_3; replace hx282_0 := (cell_far (p := ⟨gb281, 2, none⟩) (by first | (rw [add_block]; exact hn282_2) | (show (Addr.add _ _).block ≠ _; rw [add_block]; exact hn282_2) | exact hn282_2) (.int .i64 ((rd_T36 l2 (ji22)).f2))).trans hx282_0; replace hx282_1 := (cell_far (p := ⟨gb281, 2, none⟩) (by first | (rw [add_block]; exact hn282_2) | (show (Addr.add _ _).block ≠ _; rw [add_block]; exact hn282_2) | exact hn282_2) (.int .i64 ((rd_T36 l2 (ji22)).f2))).trans hx282_1; replace hx282_2 := (cell_far (p := ⟨gb281, 2, none⟩) (by first | (rw [add_block]; exact hn282_2) | (show (Addr.add _ _).block ≠ _; rw [add_block]; exact hn282_2) | exact hn282_2) (.int .i64 ((rd_T36 l2 (ji22)).f2))).trans hx282_2; replace hx282_3 := (cell_far (p := ⟨gb281, 2, none⟩) (by first | (rw [add_block]; exact hn282_2) | (show (Addr.add _ _).block ≠ _; rw [add_block]; exact hn282_2) | exact hn282_2) (.int .i64 ((rd_T36 l2 (ji22)).f2))).trans hx282_3; replace hx282_0 := (cell_far (p := ⟨gb281, 3, none⟩) (by first | (rw [add_block]; exact hn282_3) | (show (Addr.add _ _).block ≠ _; rw [add_block]; exact hn282_3) | exact hn282_3) (.slice A280_3 ((rd_T36 l2 (ji22)).f3).length c280_3)).trans hx282_0; replace hx282_1 := (cell_far (p := ⟨gb281, 3, none⟩) (by first | (rw [add_block]; exact hn282_3) | (show (Addr.add _ _).block ≠ _; rw [add_block]; exact hn282_3) | exact hn282_3) (.slice A280_3 ((rd_T36 l2 (ji22)).f3).length c280_3)).trans hx282_1; replace hx282_2 := (cell_far (p := ⟨gb281, 3, none⟩) (by first | (rw [add_block]; exact hn282_3) | (show (Addr.add _ _).block ≠ _; rw [add_block]; exact hn282_3) | exact hn282_3) (.slice A280_3 ((rd_T36 l2 (ji22)).f3).length c280_3)).trans hx282_2; replace hx282_3 := (cell_far (p := ⟨gb281, 3, none⟩) (by first | (rw [add_block]; exact hn282_3) | (show (Addr.add _ _).block ≠ _; rw [add_block]; exact hn282_3) | exact hn282_3) (.slice A280_3 ((rd_T36 l2 (ji22)).f3).length c280_3)).trans hx282_3; clear hn282_0 hn282_1 hn282_2 hn282_3; replace p282 := eq_true p282; replace q282 := eq_true q282) | ((with_reducible refine gate_dst (N := 14) rfl ?_); (try (refine gate_guard (by rfl) ?_; dsimp only)); refine box_event ?hg (N := 14) ?hd (cs := #[.int .i64 0, .int .i64 0, .int .i64 0, .slice none 0 0]) (t := 36) ?hr ?_; (case hd => rfl); (case hg => rfl); (case hr => first | (go_simp; done) | (go_simp; rfl)); intro gb283 hg w33 hbox hb; have BK283 := Aside0.mk (hbox); have GW283 := Aside0.mk (gE (g := gb283) hg HB.out); have GE283 := Aside0.mk (gE (g := gb283) hg HB.out); replace HB := Aside0.mk (below_step (bAt HB.out) hb); have NB281_283 := Aside0.mk ((by rw [hg]; exact Nat.ne_of_lt (blk_lt (g := gb281) (o := .cells #[.int .i64 ((rd_T36 l2 (ji22)).f0), .int .i64 ((rd_T36 l2 (ji22)).f1), .int .i64 ((rd_T36 l2 (ji22)).f2), .slice A280_3 ((rd_T36 l2 (ji22)).f3).length c280_3] 36 (0, 0)) (by refine bP #[.int .i64 ((rd_T36 l2 (ji22)).f0), .int .i64 ((rd_T36 l2 (ji22)).f1), .int .i64 ((rd_T36 l2 (ji22)).f2), .slice none 0 0] 3 ?_; refine bP #[.int .i64 ((rd_T36 l2 (ji22)).f0), .int .i64 ((rd_T36 l2 (ji22)).f1), .int .i64 0, .slice none 0 0] 2 ?_; refine bP #[.int .i64 ((rd_T36 l2 (ji22)).f0), .int .i64 0, .int .i64 0, .slice none 0 0] 1 ?_; refine bP #[.int .i64 0, .int .i64 0, .int .i64 0, .slice none 0 0] 0 ?_; (with_reducible repeat (first | refine blk_drewN ?_ _ | refine blk_drew ?_ | refine blk_alloc ?_ _)); exact BK281.out)) : gb281 ≠ gb283)); have NB283_281 := Aside0.mk ((by rw [hg]; exact Nat.ne_of_gt (blk_lt (g := gb281) (o := .cells #[.int .i64 ((rd_T36 l2 (ji22)).f0), .int .i64 ((rd_T36 l2 (ji22)).f1), .int .i64 ((rd_T36 l2 (ji22)).f2), .slice A280_3 ((rd_T36 l2 (ji22)).f3).length c280_3] 36 (0, 0)) (by refine bP #[.int .i64 ((rd_T36 l2 (ji22)).f0), .int .i64 ((rd_T36 l2 (ji22)).f1), .int .i64 ((rd_T36 l2 (ji22)).f2), .slice none 0 0] 3 ?_; refine bP #[.int .i64 ((rd_T36 l2 (ji22)).f0), .int .i64 ((rd_T36 l2 (ji22)).f1), .int .i64 0, .slice none 0 0] 2 ?_; refine bP #[.int .i64 ((rd_T36 l2 (ji22)).f0), .int .i64 0, .int .i64 0, .slice none 0 0] 1 ?_; refine bP #[.int .i64 0, .int .i64 0, .int .i64 0, .slice none 0 0] 0 ?_; (with_reducible repeat (first | refine blk_drewN ?_ _ | refine blk_drew ?_ | refine blk_alloc ?_ _)); exact BK281.out)) : gb283 ≠ gb281)); replace BK281 := Aside0.mk (blk_below (g := gb281) (o := .cells #[.int .i64 ((rd_T36 l2 (ji22)).f0), .int .i64 ((rd_T36 l2 (ji22)).f1), .int .i64 ((rd_T36 l2 (ji22)).f2), .slice A280_3 ((rd_T36 l2 (ji22)).f3).length c280_3] 36 (0, 0)) (by refine bP #[.int .i64 ((rd_T36 l2 (ji22)).f0), .int .i64 ((rd_T36 l2 (ji22)).f1), .int .i64 ((rd_T36 l2 (ji22)).f2), .slice none 0 0] 3 ?_; refine bP #[.int .i64 ((rd_T36 l2 (ji22)).f0), .int .i64 ((rd_T36 l2 (ji22)).f1), .int .i64 0, .slice none 0 0] 2 ?_; refine bP #[.int .i64 ((rd_T36 l2 (ji22)).f0), .int .i64 0, .int .i64 0, .slice none 0 0] 1 ?_; refine bP #[.int .i64 0, .int .i64 0, .int .i64 0, .slice none 0 0] 0 ?_; (with_reducible repeat (first | refine blk_drewN ?_ _ | refine blk_drew ?_ | refine blk_alloc ?_ _)); exact BK281.out) hb); clear hb hbox hg; have hnb34 := NB283_281.out; have hnc34 := NB281_283.out; obtain ⟨hcz35_0, hcz35_1, hcz35_2, hcz35_3, hfz35_0, hfz35_1, hfz35_2, hfz35_3⟩ := blk4 BK283.out; obtain ⟨hcz36_0, hcz36_1, hcz36_2, hcz36_3, hfz36_0, hfz36_1, hfz36_2, hfz36_3⟩ := blk4 BK281.out) | ((with_reducible refine gate_callee (f := 15) rfl ?_); refine gL (some 76) Tryd.func15 #[.slice A0 l0.length c0, .slice A1 l1.length c1, .agg #[.int .i64 ((rd_T36 l2 (ji22)).f0), .int .i64 ((rd_T36 l2 (ji22)).f1), .int .i64 ((rd_T36 l2 (ji22)).f2), .slice A280_3 ((rd_T36 l2 (ji22)).f3).length c280_3], .agg #[.int .i64 ((rd_T36 l3 (ji25)).f0), .int .i64 ((rd_T36 l3 (ji25)).f1), .int .i64 ((rd_T36 l3 (ji25)).f2), .slice A282_3 ((rd_T36 l3 (ji25)).f3).length c282_3]] rfl (by (try simp only [List.map_toArray, List.map_cons, List.map_nil]); first | done | (simp only [hji22, hji25]; rfl) | rfl | (simp only [List.length_drop, List.length_take]; rfl)) ?_; (with_reducible refine (tmesisref24_same.calls _ _ l0 _ _ l1 ((rd_T36 l2 (ji22)).f0) ((rd_T36 l2 (ji22)).f1) ((rd_T36 l2 (ji22)).f2) _ _ ((rd_T36 l2 (ji22)).f3) ((rd_T36 l3 (ji25)).f0) ((rd_T36 l3 (ji25)).f1) ((rd_T36 l3 (ji25)).f2) _ _ ((rd_T36 l3 (ji25)).f3) true _ ?side1 ?side2 ?side3 ?side4 ?side5 ?side6 ?side7 ?side8 A28.out).mono ?_); (case side1 => exact Kd.C_below HR0.out (bAt HB.out)); (case side2 => exact HC0.out); (case side3 => exact Kd.C_below HR1.out (bAt HB.out)); (case side4 => exact HC1.out); (case side5 => exact Kd.C_below HR280_3.out (bAt HB.out)); (case side6 => exact HC280_3.out); (case side7 => exact Kd.C_below HR282_3.out (bAt HB.out)); (case side8 => exact HC282_3.out); rintro e w37 ⟨rfl, hb⟩; refine ⟨_, rfl, ?_⟩; replace BK281 := Aside0.mk (blk_below (g := gb281) (o := .cells #[.int .i64 ((rd_T36 l2 (ji22)).f0), .int .i64 ((rd_T36 l2 (ji22)).f1), .int .i64 ((rd_T36 l2 (ji22)).f2), .slice A280_3 ((rd_T36 l2 (ji22)).f3).length c280_3] 36 (0, 0)) (by (with_reducible repeat (first | refine blk_drewN ?_ _ | refine blk_drew ?_ | refine blk_alloc ?_ _)); refine blk_far ?_ NB281_283.out _; (with_reducible repeat (first | refine blk_drewN ?_ _ | refine blk_drew ?_ | refine blk_alloc ?_ _)); refine blk_far ?_ NB281_283.out _; (with_reducible repeat (first | refine blk_drewN ?_ _ | refine blk_drew ?_ | refine blk_alloc ?_ _)); refine blk_far ?_ NB281_283.out _; (with_reducible repeat (first | refine blk_drewN ?_ _ | refine blk_drew ?_ | refine blk_alloc ?_ _)); refine blk_far ?_ NB281_283.out _; (with_reducible repeat (first | refine blk_drewN ?_ _ | refine blk_drew ?_ | refine blk_alloc ?_ _)); exact BK281.out) hb); replace BK283 := Aside0.mk (blk_below (g := gb283) (o := .cells #[.int .i64 ((rd_T36 l3 (ji25)).f0), .int .i64 ((rd_T36 l3 (ji25)).f1), .int .i64 ((rd_T36 l3 (ji25)).f2), .slice A282_3 ((rd_T36 l3 (ji25)).f3).length c282_3] 36 (0, 0)) (by refine bP #[.int .i64 ((rd_T36 l3 (ji25)).f0), .int .i64 ((rd_T36 l3 (ji25)).f1), .int .i64 ((rd_T36 l3 (ji25)).f2), .slice none 0 0] 3 ?_; refine bP #[.int .i64 ((rd_T36 l3 (ji25)).f0), .int .i64 ((rd_T36 l3 (ji25)).f1), .int .i64 0, .slice none 0 0] 2 ?_; refine bP #[.int .i64 ((rd_T36 l3 (ji25)).f0), .int .i64 0, .int .i64 0, .slice none 0 0] 1 ?_; refine bP #[.int .i64 0, .int .i64 0, .int .i64 0, .slice none 0 0] 0 ?_; (with_reducible repeat (first | refine blk_drewN ?_ _ | refine blk_drew ?_ | refine blk_alloc ?_ _)); exact BK283.out) hb); replace HB := Aside0.mk (below_step (bAt HB.out) hb); (try clear hb); (try clear hb2); (try clear hk); (try clear hi); obtain ⟨hcz38_0, hcz38_1, hcz38_2, hcz38_3, hfz38_0, hfz38_1, hfz38_2, hfz38_3⟩ := blk4 BK281.out; obtain ⟨hcz39_0, hcz39_1, hcz39_2, hcz39_3, hfz39_0, hfz39_1, hfz39_2, hfz39_3⟩ := blk4 BK283.out))
            go_roundg k2
            case measure => have := HJ5.out; have := HK2.out; omega
            case rel => exact ⟨(wrap64 (x12_2 + 1)), sR, H', ⟨by have := HJ5.out; have := HK2.out; omega⟩, ⟨bAt HB.out⟩⟩
           ·rw [if_neg c30] at H
            obtain ⟨c30b0, c30b1⟩ := neB c30
            simp only [Option.some.injEq, Prod.mk.injEq] at H
            obtain ⟨rfl, rfl⟩ := H
            have p280 : 0 ≤ ((ji22) : Int) := dt
            have q280 : (ji22) < (l2.length : Int) := dt
            obtain ⟨ad280, A280_3, c280_3, e280, hx280_0, hx280_1, hx280_2, hx280_3, hl280_3, hi280_3⟩ := at_T36 HR2.out (ji22) p280 q280
            cases e280
            replace hx280_0 := pw_cell_below HB.out hx280_0
            replace hx280_1 := pw_cell_below HB.out hx280_1
            replace hx280_2 := pw_cell_below HB.out hx280_2
            replace hx280_3 := pw_cell_below HB.out hx280_3
            have HR280_3 := Aside0.mk hi280_3
            have HC280_3 := Aside0.mk hl280_3
            clear hi280_3 hl280_3
            replace p280 := eq_true p280
            replace q280 := eq_true q280
            go_wp2_with (first | ((with_reducible refine gate_dst (N := 13) rfl ?_); (try (refine gate_guard (by rfl) ?_; dsimp only)); refine box_event ?hg (N := 13) ?hd (cs := #[.int .i64 0, .int .i64 0, .int .i64 0, .slice none 0 0]) (t := 36) ?hr ?_; (case hd => rfl); (case hg => rfl); (case hr => first | (go_simp; done) | (go_simp; rfl)); intro gb281 hg w40 hbox hb; have BK281 := Aside0.mk (hbox); have GW281 := Aside0.mk (gE (g := gb281) hg HB.out); have GE281 := Aside0.mk (gE (g := gb281) hg HB.out); replace HB := Aside0.mk (below_step (bAt HB.out) hb); clear hb hbox hg; obtain ⟨hcz41_0, hcz41_1, hcz41_2, hcz41_3, hfz41_0, hfz41_1, hfz41_2, hfz41_3⟩ := blk4 BK281.out; have p282 : 0 ≤ ((ji25) : Int) := dt; have q282 : (ji25) < (l3.length : Int) := dt; obtain ⟨ad282, A282_3, c282_3, e282, hx282_0, hx282_1, hx282_2, hx282_3, hl282_3, hi282_3⟩ := at_T36 HR3.out (ji25) p282 q282; cases e282; have hn282_0 : ad282.block ≠ gb281 := Nat.ne_of_lt (Nat.lt_of_lt_of_le (by have := World.block_lt_of_cell? _ _ hx282_0; first | rwa [add_block] at this | exact this) GW281.out); have hn282_1 : ad282.block ≠ gb281 := Nat.ne_of_lt (Nat.lt_of_lt_of_le (by have := World.block_lt_of_cell? _ _ hx282_0; first | rwa [add_block] at this | exact this) GW281.out); have hn282_2 : ad282.block ≠ gb281 := Nat.ne_of_lt (Nat.lt_of_lt_of_le (by have := World.block_lt_of_cell? _ _ hx282_0; first | rwa [add_block] at this | exact this) GW281.out); have hn282_3 : ad282.block ≠ gb281 := Nat.ne_of_lt (Nat.lt_of_lt_of_le (by have := World.block_lt_of_cell? _ _ hx282_0; first | rwa [add_block] at this | exact this) GW281.out); replace hx282_0 := pw_cell_below HB.out hx282_0; replace hx282_1 := pw_cell_below HB.out hx282_1; replace hx282_2 := pw_cell_below HB.out hx282_2; replace hx282_3 := pw_cell_below HB.out hx282_3; have HR282_3 := Aside0.mk hi282_3; have HC282_3 := Aside0.mk hl282_3; clear hi282_3 hl282_3; replace hx282_0 := (cell_far (p := ⟨gb281, 0, none⟩) (by first | (rw [add_block]; exact hn282_0) | (show (Addr.add _ _).block ≠ _; rw [add_block]; exact hn282_0) | exact hn282_0) (.int .i64 ((rd_T36 l2 (ji22)).f0))).trans hx282_0; replace hx282_1 := (cell_far (p := ⟨gb281, 0, none⟩) (by first | (rw [add_block]; exact hn282_0) | (show (Addr.add _ _).block ≠ _; rw [add_block]; exact hn282_0) | exact hn282_0) (.int .i64 ((rd_T36 l2 (ji22)).f0))).trans hx282_1; replace hx282_2 := (cell_far (p := ⟨gb281, 0, none⟩) (by first | (rw [add_block]; exact hn282_0) | (show (Addr.add _ _).block ≠ _; rw [add_block]; exact hn282_0) | exact hn282_0) (.int .i64 ((rd_T36 l2 (ji22)).f0))).trans hx282_2; replace hx282_3 := (cell_far (p := ⟨gb281, 0, none⟩) (by first | (rw [add_block]; exact hn282_0) | (show (Addr.add _ _).block ≠ _; rw [add_block]; exact hn282_0) | exact hn282_0) (.int .i64 ((rd_T36 l2 (ji22)).f0))).trans hx282_3; replace hx282_0 := (cell_far (p := ⟨gb281, 1, none⟩) (by first | (rw [add_block]; exact hn282_1) | (show (Addr.add _ _).block ≠ _; rw [add_block]; exact hn282_1) | exact hn282_1) (.int .i64 ((rd_T36 l2 (ji22)).f1))).trans hx282_0; replace hx282_1 := (cell_far (p := ⟨gb281, 1, none⟩) (by first | (rw [add_block]; exact hn282_1) | (show (Addr.add _ _).block ≠ _; rw [add_block]; exact hn282_1) | exact hn282_1) (.int .i64 ((rd_T36 l2 (ji22)).f1))).trans hx282_1; replace hx282_2 := (cell_far (p := ⟨gb281, 1, none⟩) (by first | (rw [add_block]; exact hn282_1) | (show (Addr.add _ _).block ≠ _; rw [add_block]; exact hn282_1) | exact hn282_1) (.int .i64 ((rd_T36 l2 (ji22)).f1))).trans hx282_2; replace hx282_3 := (cell_far (p := ⟨gb281, 1, none⟩) (by first | (rw [add_block]; exact hn282_1) | (show (Addr.add _ _).block ≠ _; rw [add_block]; exact hn282_1) | exact hn282_1) (.int .i64 ((rd_T36 l2 (ji22)).f1))).trans hx282_3; replace hx282_0 := (cell_far (p := ⟨gb281, 2, none⟩) (by first | (rw [add_block]; exact hn282_2) | (show (Addr.add _ _).block ≠ _; rw [add_block]; exact hn282_2) | exact hn282_2) (.int .i64 ((rd_T36 l2 (ji22)).f2))).trans hx282_0; replace hx282_1 := (cell_far (p := ⟨gb281, 2, none⟩) (by first | (rw [add_block]; exact hn282_2) | (show (Addr.add _ _).block ≠ _; rw [add_block]; exact hn282_2) | exact hn282_2) (.int .i64 ((rd_T36 l2 (ji22)).f2))).trans hx282_1; replace hx282_2 := (cell_far (p := ⟨gb281, 2, none⟩) (by first | (rw [add_block]; exact hn282_2) | (show (Addr.add _ _).block ≠ _; rw [add_block]; exact hn282_2) | exact hn282_2) (.int .i64 ((rd_T36 l2 (ji22)).f2))).trans hx282_2; replace hx282_3 := (cell_far (p := ⟨gb281, 2, none⟩) (by first | (rw [add_block]; exact hn282_2) | (show (Addr.add _ _).block ≠ _; rw [add_block]; exact hn282_2) | exact hn282_2) (.int .i64 ((rd_T36 l2 (ji22)).f2))).trans hx282_3; replace hx282_0 := (cell_far (p := ⟨gb281, 3, none⟩) (by first | (rw [add_block]; exact hn282_3) | (show (Addr.add _ _).block ≠ _; rw [add_block]; exact hn282_3) | exact hn282_3) (.slice A280_3 ((rd_T36 l2 (ji22)).f3).length c280_3)).trans hx282_0; replace hx282_1 := (cell_far (p := ⟨gb281, 3, none⟩) (by first | (rw [add_block]; exact hn282_3) | (show (Addr.add _ _).block ≠ _; rw [add_block]; exact hn282_3) | exact hn282_3) (.slice A280_3 ((rd_T36 l2 (ji22)).f3).length c280_3)).trans hx282_1; replace hx282_2 := (cell_far (p := ⟨gb281, 3, none⟩) (by first | (rw [add_block]; exact hn282_3) | (show (Addr.add _ _).block ≠ _; rw [add_block]; exact hn282_3) | exact hn282_3) (.slice A280_3 ((rd_T36 l2 (ji22)).f3).length c280_3)).trans hx282_2; replace hx282_3 := (cell_far (p := ⟨gb281, 3, none⟩) (by first | (rw [add_block]; exact hn282_3) | (show (Addr.add _ _).block ≠ _; rw [add_block]; exact hn282_3) | exact hn282_3) (.slice A280_3 ((rd_T36 l2 (ji22)).f3).length c280_3)).trans hx282_3; clear hn282_0 hn282_1 hn282_2 hn282_3; replace p282 := eq_true p282; replace q282 := eq_true q282) | ((with_reducible refine gate_dst (N := 14) rfl ?_); (try (refine gate_guard (by rfl) ?_; dsimp only)); refine box_event ?hg (N := 14) ?hd (cs := #[.int .i64 0, .int .i64 0, .int .i64 0, .slice none 0 0]) (t := 36) ?hr ?_; (case hd => rfl); (case hg => rfl); (case hr => first | (go_simp; done) | (go_simp; rfl)); intro gb283 hg w42 hbox hb; have BK283 := Aside0.mk (hbox); have GW283 := Aside0.mk (gE (g := gb283) hg HB.out); have GE283 := Aside0.mk (gE (g := gb283) hg HB.out); replace HB := Aside0.mk (below_step (bAt HB.out) hb); have NB281_283 := Aside0.mk ((by rw [hg]; exact Nat.ne_of_lt (blk_lt (g := gb281) (o := .cells #[.int .i64 ((rd_T36 l2 (ji22)).f0), .int .i64 ((rd_T36 l2 (ji22)).f1), .int .i64 ((rd_T36 l2 (ji22)).f2), .slice A280_3 ((rd_T36 l2 (ji22)).f3).length c280_3] 36 (0, 0)) (by refine bP #[.int .i64 ((rd_T36 l2 (ji22)).f0), .int .i64 ((rd_T36 l2 (ji22)).f1), .int .i64 ((rd_T36 l2 (ji22)).f2), .slice none 0 0] 3 ?_; refine bP #[.int .i64 ((rd_T36 l2 (ji22)).f0), .int .i64 ((rd_T36 l2 (ji22)).f1), .int .i64 0, .slice none 0 0] 2 ?_; refine bP #[.int .i64 ((rd_T36 l2 (ji22)).f0), .int .i64 0, .int .i64 0, .slice none 0 0] 1 ?_; refine bP #[.int .i64 0, .int .i64 0, .int .i64 0, .slice none 0 0] 0 ?_; (with_reducible repeat (first | refine blk_drewN ?_ _ | refine blk_drew ?_ | refine blk_alloc ?_ _)); exact BK281.out)) : gb281 ≠ gb283)); have NB283_281 := Aside0.mk ((by rw [hg]; exact Nat.ne_of_gt (blk_lt (g := gb281) (o := .cells #[.int .i64 ((rd_T36 l2 (ji22)).f0), .int .i64 ((rd_T36 l2 (ji22)).f1), .int .i64 ((rd_T36 l2 (ji22)).f2), .slice A280_3 ((rd_T36 l2 (ji22)).f3).length c280_3] 36 (0, 0)) (by refine bP #[.int .i64 ((rd_T36 l2 (ji22)).f0), .int .i64 ((rd_T36 l2 (ji22)).f1), .int .i64 ((rd_T36 l2 (ji22)).f2), .slice none 0 0] 3 ?_; refine bP #[.int .i64 ((rd_T36 l2 (ji22)).f0), .int .i64 ((rd_T36 l2 (ji22)).f1), .int .i64 0, .slice none 0 0] 2 ?_; refine bP #[.int .i64 ((rd_T36 l2 (ji22)).f0), .int .i64 0, .int .i64 0, .slice none 0 0] 1 ?_; refine bP #[.int .i64 0, .int .i64 0, .int .i64 0, .slice none 0 0] 0 ?_; (with_reducible repeat (first | refine blk_drewN ?_ _ | refine blk_drew ?_ | refine blk_alloc ?_ _)); exact BK281.out)) : gb283 ≠ gb281)); replace BK281 := Aside0.mk (blk_below (g := gb281) (o := .cells #[.int .i64 ((rd_T36 l2 (ji22)).f0), .int .i64 ((rd_T36 l2 (ji22)).f1), .int .i64 ((rd_T36 l2 (ji22)).f2), .slice A280_3 ((rd_T36 l2 (ji22)).f3).length c280_3] 36 (0, 0)) (by refine bP #[.int .i64 ((rd_T36 l2 (ji22)).f0), .int .i64 ((rd_T36 l2 (ji22)).f1), .int .i64 ((rd_T36 l2 (ji22)).f2), .slice none 0 0] 3 ?_; refine bP #[.int .i64 ((rd_T36 l2 (ji22)).f0), .int .i64 ((rd_T36 l2 (ji22)).f1), .int .i64 0, .slice none 0 0] 2 ?_; refine bP #[.int .i64 ((rd_T36 l2 (ji22)).f0), .int .i64 0, .int .i64 0, .slice none 0 0] 1 ?_; refine bP #[.int .i64 0, .int .i64 0, .int .i64 0, .slice none 0 0] 0 ?_; (with_reducible repeat (first | refine blk_drewN ?_ _ | refine blk_drew ?_ | refine blk_alloc ?_ _)); exact BK281.out) hb); clear hb hbox hg; have hnb43 := NB283_281.out; have hnc43 := NB281_283.out; obtain ⟨hcz44_0, hcz44_1, hcz44_2, hcz44_3, hfz44_0, hfz44_1, hfz44_2, hfz44_3⟩ := blk4 BK283.out; obtain ⟨hcz45_0, hcz45_1, hcz45_2, hcz45_3, hfz45_0, hfz45_1, hfz45_2, hfz45_3⟩ := blk4 BK281.out) | ((with_reducible refine gate_callee (f := 15) rfl ?_); refine gL (some 76) Tryd.func15 #[.slice A0 l0.length c0, .slice A1 l1.length c1, .agg #[.int .i64 ((rd_T36 l2 (ji22)).f0), .int .i64 ((rd_T36 l2 (ji22)).f1), .int .i64 ((rd_T36 l2 (ji22)).f2), .slice A280_3 ((rd_T36 l2 (ji22)).f3).length c280_3], .agg #[.int .i64 ((rd_T36 l3 (ji25)).f0), .int .i64 ((rd_T36 l3 (ji25)).f1), .int .i64 ((rd_T36 l3 (ji25)).f2), .slice A282_3 ((rd_T36 l3 (ji25)).f3).length c282_3]] rfl (by (try simp only [List.map_toArray, List.map_cons, List.map_nil]); first | done | (simp only [hji22, hji25]; rfl) | rfl | (simp only [List.length_drop, List.length_take]; rfl)) ?_; (with_reducible refine (tmesisref24_same.calls _ _ l0 _ _ l1 ((rd_T36 l2 (ji22)).f0) ((rd_T36 l2 (ji22)).f1) ((rd_T36 l2 (ji22)).f2) _ _ ((rd_T36 l2 (ji22)).f3) ((rd_T36 l3 (ji25)).f0) ((rd_T36 l3 (ji25)).f1) ((rd_T36 l3 (ji25)).f2) _ _ ((rd_T36 l3 (ji25)).f3) true _ ?side1 ?side2 ?side3 ?side4 ?side5 ?side6 ?side7 ?side8 A28.out).mono ?_); (case side1 => exact Kd.C_below HR0.out (bAt HB.out)); (case side2 => exact HC0.out); (case side3 => exact Kd.C_below HR1.out (bAt HB.out)); (case side4 => exact HC1.out); (case side5 => exact Kd.C_below HR280_3.out (bAt HB.out)); (case side6 => exact HC280_3.out); (case side7 => exact Kd.C_below HR282_3.out (bAt HB.out)); (case side8 => exact HC282_3.out); rintro e w46 ⟨rfl, hb⟩; refine ⟨_, rfl, ?_⟩; replace BK281 := Aside0.mk (blk_below (g := gb281) (o := .cells #[.int .i64 ((rd_T36 l2 (ji22)).f0), .int .i64 ((rd_T36 l2 (ji22)).f1), .int .i64 ((rd_T36 l2 (ji22)).f2), .slice A280_3 ((rd_T36 l2 (ji22)).f3).length c280_3] 36 (0, 0)) (by (with_reducible repeat (first | refine blk_drewN ?_ _ | refine blk_drew ?_ | refine blk_alloc ?_ _)); refine blk_far ?_ NB281_283.out _; (with_reducible repeat (first | refine blk_drewN ?_ _ | refine blk_drew ?_ | refine blk_alloc ?_ _)); refine blk_far ?_ NB281_283.out _; (with_reducible repeat (first | refine blk_drewN ?_ _ | refine blk_drew ?_ | refine blk_alloc ?_ _)); refine blk_far ?_ NB281_283.out _; (with_reducible repeat (first | refine blk_drewN ?_ _ | refine blk_drew ?_ | refine blk_alloc ?_ _)); refine blk_far ?_ NB281_283.out _; (with_reducible repeat (first | refine blk_drewN ?_ _ | refine blk_drew ?_ | refine blk_alloc ?_ _)); exact BK281.out) hb); replace BK283 := Aside0.mk (blk_below (g := gb283) (o := .cells #[.int .i64 ((rd_T36 l3 (ji25)).f0), .int .i64 ((rd_T36 l3 (ji25)).f1), .int .i64 ((rd_T36 l3 (ji25)).f2), .slice A282_3 ((rd_T36 l3 (ji25)).f3).length c282_3] 36 (0, 0)) (by refine bP #[.int .i64 ((rd_T36 l3 (ji25)).f0), .int .i64 ((rd_T36 l3 (ji25)).f1), .int .i64 ((rd_T36 l3 (ji25)).f2), .slice none 0 0] 3 ?_; refine bP #[.int .i64 ((rd_T36 l3 (ji25)).f0), .int .i64 ((rd_T36 l3 (ji25)).f1), .int .i64 0, .slice none 0 0] 2 ?_; refine bP #[.int .i64 ((rd_T36 l3 (ji25)).f0), .int .i64 0, .int .i64 0, .slice none 0 0] 1 ?_; refine bP #[.int .i64 0, .int .i64 0, .int .i64 0, .slice none 0 0] 0 ?_; (with_reducible repeat (first | refine blk_drewN ?_ _ | refine blk_drew ?_ | refine blk_alloc ?_ _)); exact BK283.out) hb); replace HB := Aside0.mk (below_step (bAt HB.out) hb); (try clear hb); (try clear hb2); (try clear hk); (try clear hi); obtain ⟨hcz47_0, hcz47_1, hcz47_2, hcz47_3, hfz47_0, hfz47_1, hfz47_2, hfz47_3⟩ := blk4 BK281.out; obtain ⟨hcz48_0, hcz48_1, hcz48_2, hcz48_3, hfz48_0, hfz48_1, hfz48_2, hfz48_3⟩ := blk4 BK283.out))
            go_ret2
            exact ⟨by first | rfl | (simp [errW_none, errW_some] <;> rfl) | (simp only [← hji5, ← hji22, ← hji25]; first | rfl | (simp [errW_none, errW_some] <;> rfl)) | (simp [*, errW_none, errW_some] <;> rfl), bAt HB.out⟩
          ·replace c29 := Bool.eq_false_iff.mpr c29
           subst c29
           replace H := fP H
           simp only [Option.some.injEq, Prod.mk.injEq] at H
           obtain ⟨rfl, rfl⟩ := H
           have p280 : 0 ≤ ((ji22) : Int) := dt
           have q280 : (ji22) < (l2.length : Int) := dt
           obtain ⟨ad280, A280_3, c280_3, e280, hx280_0, hx280_1, hx280_2, hx280_3, hl280_3, hi280_3⟩ := at_T36 HR2.out (ji22) p280 q280
           cases e280
           replace hx280_0 := pw_cell_below HB.out hx280_0
           replace hx280_1 := pw_cell_below HB.out hx280_1
           replace hx280_2 := pw_cell_below HB.out hx280_2
           replace hx280_3 := pw_cell_below HB.out hx280_3
           have HR280_3 := Aside0.mk hi280_3
           have HC280_3 := Aside0.mk hl280_3
           clear hi280_3 hl280_3
           replace p280 := eq_true p280
           replace q280 := eq_true q280
           go_wp2_with (first | ((with_reducible refine gate_dst (N := 13) rfl ?_); (try (refine gate_guard (by rfl) ?_; dsimp only)); refine box_event ?hg (N := 13) ?hd (cs := #[.int .i64 0, .int .i64 0, .int .i64 0, .slice none 0 0]) (t := 36) ?hr ?_; (case hd => rfl); (case hg => rfl); (case hr => first | (go_simp; done) | (go_simp; rfl)); intro gb281 hg w49 hbox hb; have BK281 := Aside0.mk (hbox); have GW281 := Aside0.mk (gE (g := gb281) hg HB.out); have GE281 := Aside0.mk (gE (g := gb281) hg HB.out); replace HB := Aside0.mk (below_step (bAt HB.out) hb); clear hb hbox hg; obtain ⟨hcz50_0, hcz50_1, hcz50_2, hcz50_3, hfz50_0, hfz50_1, hfz50_2, hfz50_3⟩ := blk4 BK281.out; have p282 : 0 ≤ ((ji25) : Int) := dt; have q282 : (ji25) < (l3.length : Int) := dt; obtain ⟨ad282, A282_3, c282_3, e282, hx282_0, hx282_1, hx282_2, hx282_3, hl282_3, hi282_3⟩ := at_T36 HR3.out (ji25) p282 q282; cases e282; have hn282_0 : ad282.block ≠ gb281 := Nat.ne_of_lt (Nat.lt_of_lt_of_le (by have := World.block_lt_of_cell? _ _ hx282_0; first | rwa [add_block] at this | exact this) GW281.out); have hn282_1 : ad282.block ≠ gb281 := Nat.ne_of_lt (Nat.lt_of_lt_of_le (by have := World.block_lt_of_cell? _ _ hx282_0; first | rwa [add_block] at this | exact this) GW281.out); have hn282_2 : ad282.block ≠ gb281 := Nat.ne_of_lt (Nat.lt_of_lt_of_le (by have := World.block_lt_of_cell? _ _ hx282_0; first | rwa [add_block] at this | exact this) GW281.out); have hn282_3 : ad282.block ≠ gb281 := Nat.ne_of_lt (Nat.lt_of_lt_of_le (by have := World.block_lt_of_cell? _ _ hx282_0; first | rwa [add_block] at this | exact this) GW281.out); replace hx282_0 := pw_cell_below HB.out hx282_0; replace hx282_1 := pw_cell_below HB.out hx282_1; replace hx282_2 := pw_cell_below HB.out hx282_2; replace hx282_3 := pw_cell_below HB.out hx282_3; have HR282_3 := Aside0.mk hi282_3; have HC282_3 := Aside0.mk hl282_3; clear hi282_3 hl282_3; replace hx282_0 := (cell_far (p := ⟨gb281, 0, none⟩) (by first | (rw [add_block]; exact hn282_0) | (show (Addr.add _ _).block ≠ _; rw [add_block]; exact hn282_0) | exact hn282_0) (.int .i64 ((rd_T36 l2 (ji22)).f0))).trans hx282_0; replace hx282_1 := (cell_far (p := ⟨gb281, 0, none⟩) (by first | (rw [add_block]; exact hn282_0) | (show (Addr.add _ _).block ≠ _; rw [add_block]; exact hn282_0) | exact hn282_0) (.int .i64 ((rd_T36 l2 (ji22)).f0))).trans hx282_1; replace hx282_2 := (cell_far (p := ⟨gb281, 0, none⟩) (by first | (rw [add_block]; exact hn282_0) | (show (Addr.add _ _).block ≠ _; rw [add_block]; exact hn282_0) | exact hn282_0) (.int .i64 ((rd_T36 l2 (ji22)).f0))).trans hx282_2; replace hx282_3 := (cell_far (p := ⟨gb281, 0, none⟩) (by first | (rw [add_block]; exact hn282_0) | (show (Addr.add _ _).block ≠ _; rw [add_block]; exact hn282_0) | exact hn282_0) (.int .i64 ((rd_T36 l2 (ji22)).f0))).trans hx282_3; replace hx282_0 := (cell_far (p := ⟨gb281, 1, none⟩) (by first | (rw [add_block]; exact hn282_1) | (show (Addr.add _ _).block ≠ _; rw [add_block]; exact hn282_1) | exact hn282_1) (.int .i64 ((rd_T36 l2 (ji22)).f1))).trans hx282_0; replace hx282_1 := (cell_far (p := ⟨gb281, 1, none⟩) (by first | (rw [add_block]; exact hn282_1) | (show (Addr.add _ _).block ≠ _; rw [add_block]; exact hn282_1) | exact hn282_1) (.int .i64 ((rd_T36 l2 (ji22)).f1))).trans hx282_1; replace hx282_2 := (cell_far (p := ⟨gb281, 1, none⟩) (by first | (rw [add_block]; exact hn282_1) | (show (Addr.add _ _).block ≠ _; rw [add_block]; exact hn282_1) | exact hn282_1) (.int .i64 ((rd_T36 l2 (ji22)).f1))).trans hx282_2; replace hx282_3 := (cell_far (p := ⟨gb281, 1, none⟩) (by first | (rw [add_block]; exact hn282_1) | (show (Addr.add _ _).block ≠ _; rw [add_block]; exact hn282_1) | exact hn282_1) (.int .i64 ((rd_T36 l2 (ji22)).f1))).trans hx282_3; replace hx282_0 := (cell_far (p := ⟨gb281, 2, none⟩) (by first | (rw [add_block]; exact hn282_2) | (show (Addr.add _ _).block ≠ _; rw [add_block]; exact hn282_2) | exact hn282_2) (.int .i64 ((rd_T36 l2 (ji22)).f2))).trans hx282_0; replace hx282_1 := (cell_far (p := ⟨gb281, 2, none⟩) (by first | (rw [add_block]; exact hn282_2) | (show (Addr.add _ _).block ≠ _; rw [add_block]; exact hn282_2) | exact hn282_2) (.int .i64 ((rd_T36 l2 (ji22)).f2))).trans hx282_1; replace hx282_2 := (cell_far (p := ⟨gb281, 2, none⟩) (by first | (rw [add_block]; exact hn282_2) | (show (Addr.add _ _).block ≠ _; rw [add_block]; exact hn282_2) | exact hn282_2) (.int .i64 ((rd_T36 l2 (ji22)).f2))).trans hx282_2; replace hx282_3 := (cell_far (p := ⟨gb281, 2, none⟩) (by first | (rw [add_block]; exact hn282_2) | (show (Addr.add _ _).block ≠ _; rw [add_block]; exact hn282_2) | exact hn282_2) (.int .i64 ((rd_T36 l2 (ji22)).f2))).trans hx282_3; replace hx282_0 := (cell_far (p := ⟨gb281, 3, none⟩) (by first | (rw [add_block]; exact hn282_3) | (show (Addr.add _ _).block ≠ _; rw [add_block]; exact hn282_3) | exact hn282_3) (.slice A280_3 ((rd_T36 l2 (ji22)).f3).length c280_3)).trans hx282_0; replace hx282_1 := (cell_far (p := ⟨gb281, 3, none⟩) (by first | (rw [add_block]; exact hn282_3) | (show (Addr.add _ _).block ≠ _; rw [add_block]; exact hn282_3) | exact hn282_3) (.slice A280_3 ((rd_T36 l2 (ji22)).f3).length c280_3)).trans hx282_1; replace hx282_2 := (cell_far (p := ⟨gb281, 3, none⟩) (by first | (rw [add_block]; exact hn282_3) | (show (Addr.add _ _).block ≠ _; rw [add_block]; exact hn282_3) | exact hn282_3) (.slice A280_3 ((rd_T36 l2 (ji22)).f3).length c280_3)).trans hx282_2; replace hx282_3 := (cell_far (p := ⟨gb281, 3, none⟩) (by first | (rw [add_block]; exact hn282_3) | (show (Addr.add _ _).block ≠ _; rw [add_block]; exact hn282_3) | exact hn282_3) (.slice A280_3 ((rd_T36 l2 (ji22)).f3).length c280_3)).trans hx282_3; clear hn282_0 hn282_1 hn282_2 hn282_3; replace p282 := eq_true p282; replace q282 := eq_true q282) | ((with_reducible refine gate_dst (N := 14) rfl ?_); (try (refine gate_guard (by rfl) ?_; dsimp only)); refine box_event ?hg (N := 14) ?hd (cs := #[.int .i64 0, .int .i64 0, .int .i64 0, .slice none 0 0]) (t := 36) ?hr ?_; (case hd => rfl); (case hg => rfl); (case hr => first | (go_simp; done) | (go_simp; rfl)); intro gb283 hg w51 hbox hb; have BK283 := Aside0.mk (hbox); have GW283 := Aside0.mk (gE (g := gb283) hg HB.out); have GE283 := Aside0.mk (gE (g := gb283) hg HB.out); replace HB := Aside0.mk (below_step (bAt HB.out) hb); have NB281_283 := Aside0.mk ((by rw [hg]; exact Nat.ne_of_lt (blk_lt (g := gb281) (o := .cells #[.int .i64 ((rd_T36 l2 (ji22)).f0), .int .i64 ((rd_T36 l2 (ji22)).f1), .int .i64 ((rd_T36 l2 (ji22)).f2), .slice A280_3 ((rd_T36 l2 (ji22)).f3).length c280_3] 36 (0, 0)) (by refine bP #[.int .i64 ((rd_T36 l2 (ji22)).f0), .int .i64 ((rd_T36 l2 (ji22)).f1), .int .i64 ((rd_T36 l2 (ji22)).f2), .slice none 0 0] 3 ?_; refine bP #[.int .i64 ((rd_T36 l2 (ji22)).f0), .int .i64 ((rd_T36 l2 (ji22)).f1), .int .i64 0, .slice none 0 0] 2 ?_; refine bP #[.int .i64 ((rd_T36 l2 (ji22)).f0), .int .i64 0, .int .i64 0, .slice none 0 0] 1 ?_; refine bP #[.int .i64 0, .int .i64 0, .int .i64 0, .slice none 0 0] 0 ?_; (with_reducible repeat (first | refine blk_drewN ?_ _ | refine blk_drew ?_ | refine blk_alloc ?_ _)); exact BK281.out)) : gb281 ≠ gb283)); have NB283_281 := Aside0.mk ((by rw [hg]; exact Nat.ne_of_gt (blk_lt (g := gb281) (o := .cells #[.int .i64 ((rd_T36 l2 (ji22)).f0), .int .i64 ((rd_T36 l2 (ji22)).f1), .int .i64 ((rd_T36 l2 (ji22)).f2), .slice A280_3 ((rd_T36 l2 (ji22)).f3).length c280_3] 36 (0, 0)) (by refine bP #[.int .i64 ((rd_T36 l2 (ji22)).f0), .int .i64 ((rd_T36 l2 (ji22)).f1), .int .i64 ((rd_T36 l2 (ji22)).f2), .slice none 0 0] 3 ?_; refine bP #[.int .i64 ((rd_T36 l2 (ji22)).f0), .int .i64 ((rd_T36 l2 (ji22)).f1), .int .i64 0, .slice none 0 0] 2 ?_; refine bP #[.int .i64 ((rd_T36 l2 (ji22)).f0), .int .i64 0, .int .i64 0, .slice none 0 0] 1 ?_; refine bP #[.int .i64 0, .int .i64 0, .int .i64 0, .slice none 0 0] 0 ?_; (with_reducible repeat (first | refine blk_drewN ?_ _ | refine blk_drew ?_ | refine blk_alloc ?_ _)); exact BK281.out)) : gb283 ≠ gb281)); replace BK281 := Aside0.mk (blk_below (g := gb281) (o := .cells #[.int .i64 ((rd_T36 l2 (ji22)).f0), .int .i64 ((rd_T36 l2 (ji22)).f1), .int .i64 ((rd_T36 l2 (ji22)).f2), .slice A280_3 ((rd_T36 l2 (ji22)).f3).length c280_3] 36 (0, 0)) (by refine bP #[.int .i64 ((rd_T36 l2 (ji22)).f0), .int .i64 ((rd_T36 l2 (ji22)).f1), .int .i64 ((rd_T36 l2 (ji22)).f2), .slice none 0 0] 3 ?_; refine bP #[.int .i64 ((rd_T36 l2 (ji22)).f0), .int .i64 ((rd_T36 l2 (ji22)).f1), .int .i64 0, .slice none 0 0] 2 ?_; refine bP #[.int .i64 ((rd_T36 l2 (ji22)).f0), .int .i64 0, .int .i64 0, .slice none 0 0] 1 ?_; refine bP #[.int .i64 0, .int .i64 0, .int .i64 0, .slice none 0 0] 0 ?_; (with_reducible repeat (first | refine blk_drewN ?_ _ | refine blk_drew ?_ | refine blk_alloc ?_ _)); exact BK281.out) hb); clear hb hbox hg; have hnb52 := NB283_281.out; have hnc52 := NB281_283.out; obtain ⟨hcz53_0, hcz53_1, hcz53_2, hcz53_3, hfz53_0, hfz53_1, hfz53_2, hfz53_3⟩ := blk4 BK283.out; obtain ⟨hcz54_0, hcz54_1, hcz54_2, hcz54_3, hfz54_0, hfz54_1, hfz54_2, hfz54_3⟩ := blk4 BK281.out) | ((with_reducible refine gate_callee (f := 15) rfl ?_); refine gL (some 76) Tryd.func15 #[.slice A0 l0.length c0, .slice A1 l1.length c1, .agg #[.int .i64 ((rd_T36 l2 (ji22)).f0), .int .i64 ((rd_T36 l2 (ji22)).f1), .int .i64 ((rd_T36 l2 (ji22)).f2), .slice A280_3 ((rd_T36 l2 (ji22)).f3).length c280_3], .agg #[.int .i64 ((rd_T36 l3 (ji25)).f0), .int .i64 ((rd_T36 l3 (ji25)).f1), .int .i64 ((rd_T36 l3 (ji25)).f2), .slice A282_3 ((rd_T36 l3 (ji25)).f3).length c282_3]] rfl (by (try simp only [List.map_toArray, List.map_cons, List.map_nil]); first | done | (simp only [hji22, hji25]; rfl) | rfl | (simp only [List.length_drop, List.length_take]; rfl)) ?_; (with_reducible refine (tmesisref24_same.calls _ _ l0 _ _ l1 ((rd_T36 l2 (ji22)).f0) ((rd_T36 l2 (ji22)).f1) ((rd_T36 l2 (ji22)).f2) _ _ ((rd_T36 l2 (ji22)).f3) ((rd_T36 l3 (ji25)).f0) ((rd_T36 l3 (ji25)).f1) ((rd_T36 l3 (ji25)).f2) _ _ ((rd_T36 l3 (ji25)).f3) false _ ?side1 ?side2 ?side3 ?side4 ?side5 ?side6 ?side7 ?side8 A28.out).mono ?_); (case side1 => exact Kd.C_below HR0.out (bAt HB.out)); (case side2 => exact HC0.out); (case side3 => exact Kd.C_below HR1.out (bAt HB.out)); (case side4 => exact HC1.out); (case side5 => exact Kd.C_below HR280_3.out (bAt HB.out)); (case side6 => exact HC280_3.out); (case side7 => exact Kd.C_below HR282_3.out (bAt HB.out)); (case side8 => exact HC282_3.out); rintro e w55 ⟨rfl, hb⟩; refine ⟨_, rfl, ?_⟩; replace BK281 := Aside0.mk (blk_below (g := gb281) (o := .cells #[.int .i64 ((rd_T36 l2 (ji22)).f0), .int .i64 ((rd_T36 l2 (ji22)).f1), .int .i64 ((rd_T36 l2 (ji22)).f2), .slice A280_3 ((rd_T36 l2 (ji22)).f3).length c280_3] 36 (0, 0)) (by (with_reducible repeat (first | refine blk_drewN ?_ _ | refine blk_drew ?_ | refine blk_alloc ?_ _)); refine blk_far ?_ NB281_283.out _; (with_reducible repeat (first | refine blk_drewN ?_ _ | refine blk_drew ?_ | refine blk_alloc ?_ _)); refine blk_far ?_ NB281_283.out _; (with_reducible repeat (first | refine blk_drewN ?_ _ | refine blk_drew ?_ | refine blk_alloc ?_ _)); refine blk_far ?_ NB281_283.out _; (with_reducible repeat (first | refine blk_drewN ?_ _ | refine blk_drew ?_ | refine blk_alloc ?_ _)); refine blk_far ?_ NB281_283.out _; (with_reducible repeat (first | refine blk_drewN ?_ _ | refine blk_drew ?_ | refine blk_alloc ?_ _)); exact BK281.out) hb); replace BK283 := Aside0.mk (blk_below (g := gb283) (o := .cells #[.int .i64 ((rd_T36 l3 (ji25)).f0), .int .i64 ((rd_T36 l3 (ji25)).f1), .int .i64 ((rd_T36 l3 (ji25)).f2), .slice A282_3 ((rd_T36 l3 (ji25)).f3).length c282_3] 36 (0, 0)) (by refine bP #[.int .i64 ((rd_T36 l3 (ji25)).f0), .int .i64 ((rd_T36 l3 (ji25)).f1), .int .i64 ((rd_T36 l3 (ji25)).f2), .slice none 0 0] 3 ?_; refine bP #[.int .i64 ((rd_T36 l3 (ji25)).f0), .int .i64 ((rd_T36 l3 (ji25)).f1), .int .i64 0, .slice none 0 0] 2 ?_; refine bP #[.int .i64 ((rd_T36 l3 (ji25)).f0), .int .i64 0, .int .i64 0, .slice none 0 0] 1 ?_; refine bP #[.int .i64 0, .int .i64 0, .int .i64 0, .slice none 0 0] 0 ?_; (with_reducible repeat (first | refine blk_drewN ?_ _ | refine blk_drew ?_ | refine blk_alloc ?_ _)); exact BK283.out) hb); replace HB := Aside0.mk (below_step (bAt HB.out) hb); (try clear hb); (try clear hb2); (try clear hk); (try clear hi)))
           go_ret2
           exact ⟨by first | rfl | (simp [errW_none, errW_some] <;> rfl) | (simp only [← hji5, ← hji22, ← hji25]; first | rfl | (simp [errW_none, errW_some] <;> rfl)) | (simp [*, errW_none, errW_some] <;> rfl), bAt HB.out⟩
         ·exact nB H c27
        ·exact nB H c26
       ·exact nB H c24
      ·exact nB H c23
     ·rw [if_neg c21] at H
      have c21b0 := decide_eq_false c21
      clear c21
      simp only [Option.some.injEq, Prod.mk.injEq] at H
      obtain ⟨rfl, rfl⟩ := H
      go_wp2
      go_ret2
      exact ⟨by first | rfl | (simp [errW_none, errW_some] <;> rfl) | (simp only [← hji5]; first | rfl | (simp [errW_none, errW_some] <;> rfl)) | (simp [*, errW_none, errW_some] <;> rfl), bAt HB.out⟩
end Go.Proofs.YtklpephnbkoinaaDoor.P
