/- Part of the proof: what the theorem needs of this text. -/
import Derived.Test.YtpkklbdclghcfaaDoorKPx0
import Derived.Test.YtpkklbdclghcfaaDoorKPx13
import Derived.Test.YtpkklbdclghcfaaDoorKPx14
namespace Go.Proofs.YtpkklbdclghcfaaDoor.P
open Go.RowKit Go.Proofs.YtpkklbdclghcfaaDoorW.PrintWords Go.Proofs.YtpkklbdclghcfaaDoorW.PrintLast Go.Proofs.YtpkklbdclghcfaaDoorW.PrintMore
attribute [local go_sem] max2_int min2_int max_two min_two max_three min_three max_four min_four   -- for this text's walks alone
set_option linter.unusedVariables false
set_option linter.unusedSimpArgs false
mutual
def tmesisref01_Take.j0 : Nat → List Int → Int → Bool → Option (Int × Bool)
 | 0, _, _, _ => none
 | k + 1, x0, x4, x34 => if x34 = true then (some (1, false)) else (tmesisref01_Take.l0 k x0 x4 2)
def tmesisref01_Take.l0 : Nat → List Int → Int → Int → Option (Int × Bool)
 | 0, _, _, _ => none
 | k + 1, x0, x4, x5 => if x5 < x4 then (if 0 ≤ x5 then (if x5 < (x0.length : Int) then (if (rd x0 x5) < 128 then (some (1, false)) else (if (rd x0 x5) > 191 then (some (1, false)) else (tmesisref01_Take.l0 k x0 x4 (wrap64 (x5 + 1))))) else (none)) else (none)) else (some (x4, true))
end
def tmesisref01_Take.f (k : Nat) (l0 : List Int) : Option (Int × Bool) := if (l0.length : Int) = 0 then (some (0, false)) else (if 0 < (l0.length : Int) then ((tmesisref01_long.f k (rd l0 0)).bind fun t350 => (if t350 = 0 then (tmesisref01_Take.j0 k l0 t350 true) else (if (l0.length : Int) < t350 then (tmesisref01_Take.j0 k l0 t350 true) else (if t350 > 1 then (if 1 < (l0.length : Int) then ((tmesisref01_second.f (rd l0 0) (rd l0 1)).bind fun t353 => (tmesisref01_Take.j0 k l0 t350 (!t353))) else (none)) else (tmesisref01_Take.j0 k l0 t350 false))))) else (none))
theorem tmesisref01_Take.mono_l : ∀ k, (∀ y0 y1 y2, LeO (tmesisref01_Take.j0 k y0 y1 y2) (tmesisref01_Take.j0 (k + 1) y0 y1 y2)) ∧ (∀ y0 y1 y2, LeO (tmesisref01_Take.l0 k y0 y1 y2) (tmesisref01_Take.l0 (k + 1) y0 y1 y2))
 | 0 => ⟨fun _ _ _ r h => by simp [tmesisref01_Take.j0] at h, fun _ _ _ r h => by simp [tmesisref01_Take.l0] at h⟩
 | k + 1 => by
  obtain ⟨ih0, ih1⟩ := tmesisref01_Take.mono_l k
  refine ⟨?_, ?_⟩
  ·intro y0 y1 y2
   unfold tmesisref01_Take.j0
   repeat' with_reducible first | exact ih0 _ _ _ | exact ih1 _ _ _ | exact tmesisref01_long.mono _ _ | exact LeO.refl _ | exact LeO.none _ | refine LeO.ite ?_ ?_ | refine LeO.bind ?_ (fun _ => ?_)
  ·intro y0 y1 y2
   unfold tmesisref01_Take.l0
   repeat' with_reducible first | exact ih0 _ _ _ | exact ih1 _ _ _ | exact tmesisref01_long.mono _ _ | exact LeO.refl _ | exact LeO.none _ | refine LeO.ite ?_ ?_ | refine LeO.bind ?_ (fun _ => ?_)
theorem tmesisref01_Take.mono : ∀ a0 k, LeO (tmesisref01_Take.f k a0) (tmesisref01_Take.f (k + 1) a0) := by
 intro a0 k
 obtain ⟨ih0, ih1⟩ := tmesisref01_Take.mono_l k
 unfold tmesisref01_Take.f
 repeat' with_reducible first | exact ih0 _ _ _ | exact ih1 _ _ _ | exact tmesisref01_long.mono _ _ | exact LeO.refl _ | exact LeO.none _ | refine LeO.ite ?_ ?_ | refine LeO.bind ?_ (fun _ => ?_)
set_option maxHeartbeats 8000000 in
set_option maxRecDepth 100000 in
theorem tmesisref01_Take.calls (k : Nat) (A0 : Option Addr) (c0 : Nat) (l0 : List Int) (r1 : Int) (r2 : Bool) (w : World) (hr0 : Kd.C (Kd.int .u8) w A0 l0.length l0) (hc0 : l0.length ≤ c0) (h : tmesisref01_Take.f k l0 = some (r1, r2)) :
  Calls Tryd.prog 69 #[.slice A0 l0.length c0] w fun e w' => e = .returned (.tuple #[.int .i64 r1, .bool r2]) ∧ Drawn0 w w' := by
 have HR0 := Aside0.mk hr0
 have HC0 := Aside0.mk hc0
 clear hr0 hc0
 have H : (if (l0.length : Int) = 0 then (some (0, false)) else (if 0 < (l0.length : Int) then ((tmesisref01_long.f k (rd l0 0)).bind fun t350 => (if t350 = 0 then (tmesisref01_Take.j0 k l0 t350 true) else (if (l0.length : Int) < t350 then (tmesisref01_Take.j0 k l0 t350 true) else (if t350 > 1 then (if 1 < (l0.length : Int) then ((tmesisref01_second.f (rd l0 0) (rd l0 1)).bind fun t353 => (tmesisref01_Take.j0 k l0 t350 (!t353))) else (none)) else (tmesisref01_Take.j0 k l0 t350 false))))) else (none))) = some (r1, r2) := h
 clear h
 by_cases c2 : (l0.length : Int) = 0
 ·rw [if_pos c2] at H
  obtain ⟨c2b0, c2b1⟩ := eqB c2
  clear c2
  simp only [Option.some.injEq, Prod.mk.injEq] at H
  obtain ⟨rfl, rfl⟩ := H
  go_enter Tryd.func69, Tryd.ntmps69
  go_wp2
  repeat (go_quiet (fail); try go_wp2)
  go_ret2
  exact ⟨by first | rfl | (simp; done) | (simp [*]; done), by repeat (first | exact Drawn0.refl _ | apply Drawn0.step)⟩
 ·rw [if_neg c2] at H
  obtain ⟨c2b0, c2b1⟩ := neB c2
  have c2b2 : ¬ (l0 = []) := fun h_ => c2 (by rw [h_]; rfl)
  by_cases c3 : 0 < (l0.length : Int)
  ·rw [if_pos c3] at H
   have c3b0 := decide_eq_true c3
   have c3b1 : decide (0 < l0.length) = true := decide_eq_true (by omega)
   clear c3
   obtain ⟨t350, A4, H⟩ := bE H
   have HC5 := Aside0.mk H
   clear H
   have p349 : 0 ≤ (0 : Int) := (by omega)
   have q349 : 0 < (l0.length : Int) := dt
   obtain ⟨ad349, e349, hx349_0⟩ := Kd.at_int HR0.out 0 p349 q349
   cases e349
   have qi349 : (0 < l0.length) = True := eq_true (by omega)
   (try rw [show ((0 : Int)).toNat = 0 from rfl] at hx349_0)
   (try rw [Addr.add_zero'] at hx349_0)
   replace p349 := eq_true p349
   replace q349 := eq_true q349
   go_enter Tryd.func69, Tryd.ntmps69
   go_upto_region 4 with (first | (go_at_call 84; (with_reducible refine (tmesisref01_long.calls k (rd l0 0) t350 _ A4.out).mono ?_); rintro e w' ⟨rfl, ⟨nd, rfl⟩⟩; (try first | exact ⟨rfl, _, World.drewN_drewN _ _ _⟩ | exact ⟨rfl, _, Eq.trans (World.drewN_drewN _ _ _) (congrArg (World.drewN _) (Nat.add_assoc _ _ _))⟩)))
   repeat (go_quiet (first | (go_at_call 84; (with_reducible refine (tmesisref01_long.calls k (rd l0 0) t350 _ A4.out).mono ?_); rintro e w' ⟨rfl, ⟨nd, rfl⟩⟩; (try first | exact ⟨rfl, _, World.drewN_drewN _ _ _⟩ | exact ⟨rfl, _, Eq.trans (World.drewN_drewN _ _ _) (congrArg (World.drewN _) (Nat.add_assoc _ _ _))⟩))); go_upto_region 4 with (first | (go_at_call 84; (with_reducible refine (tmesisref01_long.calls k (rd l0 0) t350 _ A4.out).mono ?_); rintro e w' ⟨rfl, ⟨nd, rfl⟩⟩; (try first | exact ⟨rfl, _, World.drewN_drewN _ _ _⟩ | exact ⟨rfl, _, Eq.trans (World.drewN_drewN _ _ _) (congrArg (World.drewN _) (Nat.add_assoc _ _ _))⟩))))
   (try simp only [Act.put, List.setIfInBounds_toArray, List.set_cons_zero, List.set_cons_succ])
   go_cut [34] (fun v34 wc => ∃ (kq : Nat) (x34_4 : Bool), v34 = .bool x34_4 ∧ Aside0 (tmesisref01_Take.j0 kq l0 t350 x34_4 = some (r1, r2)) ∧ Aside0 (kq ≤ k) ∧ Drawn0 w wc)
   case first =>
    have H := HC5.out
    clear HC5
    by_cases c6 : t350 = 0
    ·rw [if_pos c6] at H
     obtain ⟨c6b0, c6b1⟩ := eqB c6
     clear c6
     (first | rw [c6b0] | (simp only [i64_w, i32_w]; rw [c6b0]) | skip)
     have H' := Aside0.mk H
     clear H
     go_wp2
     repeat (go_quiet (fail); try go_wp2)
     go_meet
     case rel => exact ⟨_, (true), sR, H', ⟨by first | omega | exact Nat.le_refl _⟩, by repeat (first | exact Drawn0.refl _ | apply Drawn0.step)⟩
    ·rw [if_neg c6] at H
     obtain ⟨c6b0, c6b1⟩ := neB c6
     (first | rw [c6b0] | (simp only [i64_w, i32_w]; rw [c6b0]) | skip)
     by_cases c7 : (l0.length : Int) < t350
     ·rw [if_pos c7] at H
      have c7b0 := decide_eq_true c7
      clear c7
      have H' := Aside0.mk H
      clear H
      go_wp2
      repeat (go_quiet (fail); try go_wp2)
      go_meet
      case rel => exact ⟨_, (true), sR, H', ⟨by first | omega | exact Nat.le_refl _⟩, by repeat (first | exact Drawn0.refl _ | apply Drawn0.step)⟩
     ·rw [if_neg c7] at H
      have c7b0 := decide_eq_false c7
      clear c7
      by_cases c8 : t350 > 1
      ·rw [if_pos c8] at H
       have c8b0 : decide (1 < t350) = true := decide_eq_true c8
       clear c8
       by_cases c9 : 1 < (l0.length : Int)
       ·rw [if_pos c9] at H
        have c9b0 := decide_eq_true c9
        have c9b1 : decide (1 < l0.length) = true := decide_eq_true (by omega)
        clear c9
        obtain ⟨t353, A10, H⟩ := bE H
        have H' := Aside0.mk H
        clear H
        have p351 : 0 ≤ (0 : Int) := (by omega)
        have q351 : 0 < (l0.length : Int) := dt
        obtain ⟨ad351, e351, hx351_0⟩ := Kd.at_int HR0.out 0 p351 q351
        obtain rfl : ad349 = ad351 := (by injection e351)
        have qi351 : (0 < l0.length) = True := eq_true (by omega)
        (try rw [show ((0 : Int)).toNat = 0 from rfl] at hx351_0)
        (try rw [Addr.add_zero'] at hx351_0)
        replace p351 := eq_true p351
        replace q351 := eq_true q351
        have p352 : 0 ≤ (1 : Int) := (by omega)
        have q352 : 1 < (l0.length : Int) := dt
        obtain ⟨ad352, e352, hx352_0⟩ := Kd.at_int HR0.out 1 p352 q352
        obtain rfl : ad349 = ad352 := (by injection e352)
        (try simp only [show (1 : Int).toNat = 1 from rfl, Nat.reduceMul, Nat.reduceEqDiff, Go.Addr.add, ↓reduceIte] at hx352_0)
        have qi352 : (1 < l0.length) = True := eq_true (by omega)
        (try rw [show ((1 : Int)).toNat = 1 from rfl] at hx352_0)
        replace p352 := eq_true p352
        replace q352 := eq_true q352
        go_wp2_with (first | (go_at_call 85; (with_reducible refine (tmesisref01_second.calls (rd l0 0) (rd l0 1) t353 _ A10.out).mono ?_); rintro e w' ⟨rfl, ⟨nd, rfl⟩⟩; (try first | exact ⟨rfl, _, World.drewN_drewN _ _ _⟩ | exact ⟨rfl, _, Eq.trans (World.drewN_drewN _ _ _) (congrArg (World.drewN _) (Nat.add_assoc _ _ _))⟩)))
        repeat (go_quiet (first | (go_at_call 85; (with_reducible refine (tmesisref01_second.calls (rd l0 0) (rd l0 1) t353 _ A10.out).mono ?_); rintro e w' ⟨rfl, ⟨nd, rfl⟩⟩; (try first | exact ⟨rfl, _, World.drewN_drewN _ _ _⟩ | exact ⟨rfl, _, Eq.trans (World.drewN_drewN _ _ _) (congrArg (World.drewN _) (Nat.add_assoc _ _ _))⟩))); try go_wp2_with (first | (go_at_call 85; (with_reducible refine (tmesisref01_second.calls (rd l0 0) (rd l0 1) t353 _ A10.out).mono ?_); rintro e w' ⟨rfl, ⟨nd, rfl⟩⟩; (try first | exact ⟨rfl, _, World.drewN_drewN _ _ _⟩ | exact ⟨rfl, _, Eq.trans (World.drewN_drewN _ _ _) (congrArg (World.drewN _) (Nat.add_assoc _ _ _))⟩))))
        go_meet
        case rel => exact ⟨_, (!t353), sR, H', ⟨by first | omega | exact Nat.le_refl _⟩, by repeat (first | exact Drawn0.refl _ | apply Drawn0.step)⟩
       ·exact nB H c9
      ·rw [if_neg c8] at H
       have c8b0 : decide (1 < t350) = false := decide_eq_false c8
       clear c8
       have H' := Aside0.mk H
       clear H
       go_wp2
       repeat (go_quiet (fail); try go_wp2)
       go_meet
       case rel => exact ⟨_, (false), sR, H', ⟨by first | omega | exact Nat.le_refl _⟩, by repeat (first | exact Drawn0.refl _ | apply Drawn0.step)⟩
   case rest =>
    clear HC5
    try clear c2
    try clear c2b0 c2b1
    try clear c2b2
    try clear p2
    try clear c3
    try clear c3b0 c3b1
    try clear p3
    try clear q3
    try clear hx3
    try clear qi3
    try clear c6
    try clear c6b0 c6b1
    try clear c7
    try clear c7b0
    try clear c8
    try clear c8b0
    try clear c9
    try clear c9b0 c9b1
    try clear hx349_0
    try clear hx351_0
    try clear hx352_0
    try clear p349
    try clear p351
    try clear p352
    try clear q349
    try clear q351
    try clear q352
    obtain ⟨kq, x34_4, rfl, HA, HJ4, ⟨mc4, rfl⟩⟩ := hcut
    cases kq with
    | zero => exact absurd HA.out (by simp [tmesisref01_Take.j0])
    | succ kj4 =>
     have H := HA.out
     clear HA
     simp only [tmesisref01_Take.j0] at H
     by_cases c11 : x34_4 = true
     ·subst c11
      replace H := tP H
      simp only [Option.some.injEq, Prod.mk.injEq] at H
      obtain ⟨rfl, rfl⟩ := H
      go_wp2
      repeat (go_quiet (fail); try go_wp2)
      go_ret2
      exact ⟨by first | rfl | (simp; done) | (simp [*]; done), by repeat (first | exact Drawn0.refl _ | apply Drawn0.step)⟩
     ·replace c11 := Bool.eq_false_iff.mpr c11
      subst c11
      replace H := fP H
      have H' := Aside0.mk H
      clear H
      go_wp2
      repeat (go_quiet (fail); try go_wp2)
      go_loopg [5] kj4 (fun kq v5 w' => ∃ (x5_2 : Int), v5 = .int .i64 x5_2 ∧ Aside0 (tmesisref01_Take.l0 kq l0 t350 x5_2 = some (r1, r2)) ∧ Aside0 (kq ≤ kj4) ∧ Drawn0 w w')
      case atStart => exact ⟨(2), sR, H', ⟨Nat.le_refl _⟩, by repeat (first | exact Drawn0.refl _ | apply Drawn0.step)⟩
      case round =>
       clear H'
       try clear c1
       try clear c2
       try clear c2b0 c2b1
       try clear c2b2
       try clear p2
       try clear c3
       try clear c3b0 c3b1
       try clear p3
       try clear q3
       try clear hx3
       try clear qi3
       try clear c4
       try clear c6
       try clear c6b0 c6b1
       try clear c7
       try clear c7b0
       try clear c8
       try clear c8b0
       try clear c9
       try clear c9b0 c9b1
       try clear c11
       try clear hx349_0
       try clear hx351_0
       try clear hx352_0
       try clear p2
       try clear p3
       try clear p349
       try clear p351
       try clear p352
       try clear q3
       try clear q349
       try clear q351
       try clear q352
       obtain ⟨x5_2, rfl, HA, HK2, ⟨m2, rfl⟩⟩ := hrel
       cases gk with
       | zero => exact absurd HA.out (by simp [tmesisref01_Take.l0])
       | succ k2 =>
        have H := HA.out
        clear HA
        simp only [tmesisref01_Take.l0] at H
        by_cases c12 : x5_2 < t350
        ·rw [if_pos c12] at H
         have c12b0 := decide_eq_true c12
         clear c12
         by_cases c13 : 0 ≤ x5_2
         ·rw [if_pos c13] at H
          have c13b0 := decide_eq_true c13
          clear c13
          by_cases c14 : x5_2 < (l0.length : Int)
          ·rw [if_pos c14] at H
           have c14b0 := decide_eq_true c14
           clear c14
           by_cases c15 : (rd l0 x5_2) < 128
           ·rw [if_pos c15] at H
            have c15b0 := decide_eq_true c15
            clear c15
            simp only [Option.some.injEq, Prod.mk.injEq] at H
            obtain ⟨rfl, rfl⟩ := H
            have p354 : 0 ≤ (x5_2 : Int) := dt
            have q354 : x5_2 < (l0.length : Int) := dt
            obtain ⟨ad354, e354, hx354_0⟩ := Kd.at_int HR0.out x5_2 p354 q354
            obtain rfl : ad349 = ad354 := (by injection e354)
            replace p354 := eq_true p354
            replace q354 := eq_true q354
            go_wp2
            repeat (go_quiet (fail); try go_wp2)
            go_ret2
            exact ⟨by first | rfl | (simp; done) | (simp [*]; done), by repeat (first | exact Drawn0.refl _ | apply Drawn0.step)⟩
           ·rw [if_neg c15] at H
            have c15b0 := decide_eq_false c15
            clear c15
            by_cases c16 : (rd l0 x5_2) > 191
            ·rw [if_pos c16] at H
             have c16b0 : decide (191 < (rd l0 x5_2)) = true := decide_eq_true c16
             clear c16
             simp only [Option.some.injEq, Prod.mk.injEq] at H
             obtain ⟨rfl, rfl⟩ := H
             have p354 : 0 ≤ (x5_2 : Int) := dt
             have q354 : x5_2 < (l0.length : Int) := dt
             obtain ⟨ad354, e354, hx354_0⟩ := Kd.at_int HR0.out x5_2 p354 q354
             obtain rfl : ad349 = ad354 := (by injection e354)
             replace p354 := eq_true p354
             replace q354 := eq_true q354
             have p355 : 0 ≤ (x5_2 : Int) := dt
             have q355 : x5_2 < (l0.length : Int) := dt
             obtain ⟨ad355, e355, hx355_0⟩ := Kd.at_int HR0.out x5_2 p355 q355
             obtain rfl : ad349 = ad355 := (by injection e355)
             replace p355 := eq_true p355
             replace q355 := eq_true q355
             go_wp2
             repeat (go_quiet (fail); try go_wp2)
             go_ret2
             exact ⟨by first | rfl | (simp; done) | (simp [*]; done), by repeat (first | exact Drawn0.refl _ | apply Drawn0.step)⟩
            ·rw [if_neg c16] at H
             have c16b0 : decide (191 < (rd l0 x5_2)) = false := decide_eq_false c16
             clear c16
             have H' := Aside0.mk H
             clear H
             have p354 : 0 ≤ (x5_2 : Int) := dt
             have q354 : x5_2 < (l0.length : Int) := dt
             obtain ⟨ad354, e354, hx354_0⟩ := Kd.at_int HR0.out x5_2 p354 q354
             obtain rfl : ad349 = ad354 := (by injection e354)
             replace p354 := eq_true p354
             replace q354 := eq_true q354
             have p355 : 0 ≤ (x5_2 : Int) := dt
             have q355 : x5_2 < (l0.length : Int) := dt
             obtain ⟨ad355, e355, hx355_0⟩ := Kd.at_int HR0.out x5_2 p355 q355
             obtain rfl : ad349 = ad355 := (by injection e355)
             replace p355 := eq_true p355
             replace q355 := eq_true q355
             go_wp2
             repeat (go_quiet (fail); try go_wp2)
             go_roundg k2
             case measure => have := HJ4.out; have := HK2.out; omega
             case rel => exact ⟨(wrap64 (x5_2 + 1)), sR, H', ⟨by have := HJ4.out; have := HK2.out; omega⟩, by repeat (first | exact Drawn0.refl _ | apply Drawn0.step)⟩
          ·exact nB H c14
         ·exact nB H c13
        ·rw [if_neg c12] at H
         have c12b0 := decide_eq_false c12
         clear c12
         simp only [Option.some.injEq, Prod.mk.injEq] at H
         obtain ⟨rfl, rfl⟩ := H
         go_wp2
         repeat (go_quiet (fail); try go_wp2)
         go_ret2
         exact ⟨by first | rfl | (simp; done) | (simp [*]; done), by repeat (first | exact Drawn0.refl _ | apply Drawn0.step)⟩
  ·exact nB H c3
def tmesisref02_Name.f (k : Nat) (a0 : Int) : Option (Bool) := (tmesisref02_Of.f k a0).bind fun t356 => (if t356 = 2 then (some true) else ((tmesisref02_Of.f k a0).bind fun t357 => (if t357 = 3 then (some true) else ((tmesisref02_Of.f k a0).bind fun t358 => (some (t358 == 4))))))
theorem tmesisref02_Name.mono : ∀ a0 k, LeO (tmesisref02_Name.f k a0) (tmesisref02_Name.f (k + 1) a0) := by
 intro a0 k
 unfold tmesisref02_Name.f
 repeat' with_reducible first | exact tmesisref02_Of.mono _ _ | exact LeO.refl _ | exact LeO.none _ | refine LeO.ite ?_ ?_ | refine LeO.bind ?_ (fun _ => ?_)
set_option maxHeartbeats 8000000 in
set_option maxRecDepth 100000 in
theorem tmesisref02_Name.calls (k : Nat) (a0 : Int) (r : Bool) (w : World) (h : tmesisref02_Name.f k a0 = some r) :
  Calls Tryd.prog 86 #[.int .u8 a0] w fun e w' => e = .returned (.bool r) ∧ Drawn0 w w' := by
 have H : ((tmesisref02_Of.f k a0).bind fun t356 => (if t356 = 2 then (some true) else ((tmesisref02_Of.f k a0).bind fun t357 => (if t357 = 3 then (some true) else ((tmesisref02_Of.f k a0).bind fun t358 => (some (t358 == 4))))))) = some r := h
 clear h
 obtain ⟨t356, A2, H⟩ := bE H
 by_cases c3 : t356 = 2
 ·rw [if_pos c3] at H
  obtain ⟨c3b0, c3b1⟩ := eqB c3
  clear c3
  obtain rfl := Option.some.inj H
  go_enter Tryd.func86, Tryd.ntmps86
  go_wp2_with (first | ((with_reducible refine gate_callee (f := 66) rfl ?_); refine gL (some 4) Tryd.func66 #[.int .u8 a0] rfl gA ?_; (with_reducible refine (tmesisref02_Of.calls k a0 t356 _ A2.out).mono ?_); rintro e w' ⟨rfl, ⟨nd, rfl⟩⟩; refine ⟨_, rfl, ?_⟩))
  go_ret
  exact ⟨by first | rfl | (simp; done) | (simp [*]; done), by repeat (first | exact Drawn0.refl _ | apply Drawn0.step)⟩
 ·rw [if_neg c3] at H
  obtain ⟨c3b0, c3b1⟩ := neB c3
  obtain ⟨t357, A4, H⟩ := bE H
  by_cases c5 : t357 = 3
  ·rw [if_pos c5] at H
   obtain ⟨c5b0, c5b1⟩ := eqB c5
   clear c5
   obtain rfl := Option.some.inj H
   go_enter Tryd.func86, Tryd.ntmps86
   go_wp2_with (first | ((with_reducible refine gate_callee (f := 66) rfl ?_); refine gL (some 4) Tryd.func66 #[.int .u8 a0] rfl gA ?_; (with_reducible refine (tmesisref02_Of.calls k a0 t356 _ A2.out).mono ?_); rintro e w' ⟨rfl, ⟨nd, rfl⟩⟩; refine ⟨_, rfl, ?_⟩) | ((with_reducible refine gate_callee (f := 66) rfl ?_); (try (refine gate_guard (by rfl) ?_; dsimp only)); refine gL (some 8) Tryd.func66 #[.int .u8 a0] rfl gA ?_; (with_reducible refine (tmesisref02_Of.calls k a0 t357 _ A4.out).mono ?_); rintro e w' ⟨rfl, ⟨nd, rfl⟩⟩; refine ⟨_, rfl, ?_⟩))
   go_ret
   exact ⟨by first | rfl | (simp; done) | (simp [*]; done), by repeat (first | exact Drawn0.refl _ | apply Drawn0.step)⟩
  ·rw [if_neg c5] at H
   obtain ⟨c5b0, c5b1⟩ := neB c5
   obtain ⟨t358, A6, H⟩ := bE H
   obtain rfl := Option.some.inj H
   go_enter Tryd.func86, Tryd.ntmps86
   go_wp2_with (first | ((with_reducible refine gate_callee (f := 66) rfl ?_); refine gL (some 4) Tryd.func66 #[.int .u8 a0] rfl gA ?_; (with_reducible refine (tmesisref02_Of.calls k a0 t356 _ A2.out).mono ?_); rintro e w' ⟨rfl, ⟨nd, rfl⟩⟩; refine ⟨_, rfl, ?_⟩) | ((with_reducible refine gate_callee (f := 66) rfl ?_); (try (refine gate_guard (by rfl) ?_; dsimp only)); refine gL (some 8) Tryd.func66 #[.int .u8 a0] rfl gA ?_; (with_reducible refine (tmesisref02_Of.calls k a0 t357 _ A4.out).mono ?_); rintro e w' ⟨rfl, ⟨nd, rfl⟩⟩; refine ⟨_, rfl, ?_⟩) | ((with_reducible refine gate_callee (f := 66) rfl ?_); (try (refine gate_guard (by rfl) ?_; dsimp only)); refine gL (some 13) Tryd.func66 #[.int .u8 a0] rfl gA ?_; (with_reducible refine (tmesisref02_Of.calls k a0 t358 _ A6.out).mono ?_); rintro e w' ⟨rfl, ⟨nd, rfl⟩⟩; refine ⟨_, rfl, ?_⟩))
   go_ret
   exact ⟨by first | rfl | (simp; done) | (simp [*]; done), by repeat (first | exact Drawn0.refl _ | apply Drawn0.step)⟩
def tmesisref06_name.l0 : Nat → List Int → Int → Option (Int)
 | 0, _, _ => none
 | k + 1, x0, x3 => if x3 < (x0.length : Int) then (if 0 ≤ x3 then ((tmesisref02_Name.f k (rd x0 x3)).bind fun t360 => (if t360 = true then (tmesisref06_name.l0 k x0 (wrap64 (x3 + 1))) else (if x3 ≤ (x0.length : Int) then ((tmesisref01_Take.f k (x0.drop (x3 : Int).toNat)).bind fun bt362 => (if bt362.2 = true then (if bt362.1 = 1 then (some x3) else (tmesisref06_name.l0 k x0 (wrap64 (x3 + bt362.1)))) else (some x3))) else (none)))) else (none)) else (some x3)
def tmesisref06_name.f (k : Nat) (l0 : List Int) : Option (Int) := tmesisref06_name.l0 k l0 0
theorem tmesisref06_name.mono_l : ∀ k, (∀ y0 y1, LeO (tmesisref06_name.l0 k y0 y1) (tmesisref06_name.l0 (k + 1) y0 y1))
 | 0 => fun _ _ r h => by simp [tmesisref06_name.l0] at h
 | k + 1 => by
  have ih0 := tmesisref06_name.mono_l k
  ·intro y0 y1
   unfold tmesisref06_name.l0
   repeat' with_reducible first | exact ih0 _ _ | exact tmesisref01_Take.mono _ _ | exact tmesisref02_Name.mono _ _ | exact LeO.refl _ | exact LeO.none _ | refine LeO.ite ?_ ?_ | refine LeO.bind ?_ (fun _ => ?_)
theorem tmesisref06_name.mono : ∀ a0 k, LeO (tmesisref06_name.f k a0) (tmesisref06_name.f (k + 1) a0) := by
 intro a0 k
 have ih0 := tmesisref06_name.mono_l k
 unfold tmesisref06_name.f
 repeat' with_reducible first | exact ih0 _ _ | exact tmesisref01_Take.mono _ _ | exact tmesisref02_Name.mono _ _ | exact LeO.refl _ | exact LeO.none _ | refine LeO.ite ?_ ?_ | refine LeO.bind ?_ (fun _ => ?_)
set_option maxHeartbeats 8000000 in
set_option maxRecDepth 100000 in
theorem tmesisref06_name.calls (k : Nat) (A0 : Option Addr) (c0 : Nat) (l0 : List Int) (r : Int) (w : World) (hr0 : Kd.C (Kd.int .u8) w A0 l0.length l0) (hc0 : l0.length ≤ c0) (h : tmesisref06_name.f k l0 = some r) :
  Calls Tryd.prog 70 #[.slice A0 l0.length c0] w fun e w' => e = .returned (.int .i64 r) ∧ Drawn0 w w' := by
 have HR0 := Aside0.mk hr0
 have HC0 := Aside0.mk hc0
 clear hr0 hc0
 have H : (tmesisref06_name.l0 k l0 0) = some r := h
 clear h
 have H' := Aside0.mk H
 clear H
 go_enter Tryd.func70, Tryd.ntmps70
 go_wp2
 go_loopg [3] k (fun kq v3 w' => ∃ (x3_1 : Int), v3 = .int .i64 x3_1 ∧ Aside0 (tmesisref06_name.l0 kq l0 x3_1 = some r) ∧ Aside0 (kq ≤ k) ∧ Drawn0 w w')
 case atStart => exact ⟨(0), sR, H', ⟨Nat.le_refl _⟩, by repeat (first | exact Drawn0.refl _ | apply Drawn0.step)⟩
 case round =>
  clear H'
  obtain ⟨x3_1, rfl, HA, HK1, ⟨m1, rfl⟩⟩ := hrel
  cases gk with
  | zero => exact absurd HA.out (by simp [tmesisref06_name.l0])
  | succ k1 =>
   have H := HA.out
   clear HA
   simp only [tmesisref06_name.l0] at H
   by_cases c2 : x3_1 < (l0.length : Int)
   ·rw [if_pos c2] at H
    have c2b0 := decide_eq_true c2
    clear c2
    by_cases c3 : 0 ≤ x3_1
    ·rw [if_pos c3] at H
     have c3b0 := decide_eq_true c3
     clear c3
     obtain ⟨t360, A4, H⟩ := bE H
     by_cases c5 : t360 = true
     ·subst c5
      replace H := tP H
      have H' := Aside0.mk H
      clear H
      have p359 : 0 ≤ (x3_1 : Int) := dt
      have q359 : x3_1 < (l0.length : Int) := dt
      obtain ⟨ad359, e359, hx359_0⟩ := Kd.at_int HR0.out x3_1 p359 q359
      cases e359
      replace p359 := eq_true p359
      replace q359 := eq_true q359
      go_wp2_with (first | ((with_reducible refine gate_callee (f := 86) rfl ?_); refine gL (some 14) Tryd.func86 #[.int .u8 (rd l0 x3_1)] rfl gA ?_; (with_reducible refine (tmesisref02_Name.calls k1 (rd l0 x3_1) true _ A4.out).mono ?_); rintro e w' ⟨rfl, ⟨nd, rfl⟩⟩; refine ⟨_, rfl, ?_⟩))
      go_roundg k1
      case measure => have := HK1.out; omega
      case rel => exact ⟨(wrap64 (x3_1 + 1)), sR, H', ⟨by have := HK1.out; omega⟩, by repeat (first | exact Drawn0.refl _ | apply Drawn0.step)⟩
     ·replace c5 := Bool.eq_false_iff.mpr c5
      subst c5
      replace H := fP H
      have c6b0 := eq_true (dt : 0 ≤ x3_1)
      by_cases c7 : x3_1 ≤ (l0.length : Int)
      ·rw [if_pos c7] at H
       have c7b0 := eq_true c7
       have c7b1 := decide_eq_true c7
       clear c7
       obtain ⟨⟨t362, t363⟩, A8, H⟩ := bE H
       replace H : (if t363 = true then (if t362 = 1 then (some x3_1) else (tmesisref06_name.l0 k1 l0 (wrap64 (x3_1 + t362)))) else (some x3_1)) = some r := H
       by_cases c9 : t363 = true
       ·subst c9
        replace H := tP H
        by_cases c10 : t362 = 1
        ·rw [if_pos c10] at H
         obtain ⟨c10b0, c10b1⟩ := eqB c10
         clear c10
         obtain rfl := Option.some.inj H
         have p359 : 0 ≤ (x3_1 : Int) := dt
         have q359 : x3_1 < (l0.length : Int) := dt
         obtain ⟨ad359, e359, hx359_0⟩ := Kd.at_int HR0.out x3_1 p359 q359
         cases e359
         replace p359 := eq_true p359
         replace q359 := eq_true q359
         go_wp2_with (first | ((with_reducible refine gate_callee (f := 86) rfl ?_); refine gL (some 14) Tryd.func86 #[.int .u8 (rd l0 x3_1)] rfl gA ?_; (with_reducible refine (tmesisref02_Name.calls k1 (rd l0 x3_1) false _ A4.out).mono ?_); rintro e w' ⟨rfl, ⟨nd, rfl⟩⟩; refine ⟨_, rfl, ?_⟩; obtain ⟨i011, hi011, _, hsz11, _⟩ := info_parts info5; obtain ⟨A11, hcut11, hA11, hC11⟩ := print_drop_of (P := Tryd.prog) (Value.int .u8) 0 22 5 .i64 Tryd.underlying22 hi011 hsz11 (some ad359) c0 l0 x3_1 dt dt HC0.out; have HR361 := Aside0.mk (Kd.C_of_reads (h1 := fun _ => rfl) (hA11 _ (Kd.reads_of_C HR0.out))); have HC361 := Aside0.mk hC11; clear hA11 hC11 hi011 hsz11) | ((with_reducible refine gate_callee (f := 69) rfl ?_); refine gL (some 21) Tryd.func69 #[.slice A11 (l0.drop (x3_1 : Int).toNat).length (c0 - x3_1.toNat)] rfl (gD l0 (x3_1 : Int).toNat) ?_; (with_reducible refine (tmesisref01_Take.calls k1 _ _ (l0.drop (x3_1 : Int).toNat) t362 true _ ?side1 ?side2 A8.out).mono ?_); (case side1 => exact CAt HR361.out); (case side2 => exact HC361.out); rintro e w' ⟨rfl, ⟨nd, rfl⟩⟩; refine ⟨_, rfl, ?_⟩))
         go_ret
         exact ⟨by first | rfl | (simp; done) | (simp [*]; done), by repeat (first | exact Drawn0.refl _ | apply Drawn0.step)⟩
        ·rw [if_neg c10] at H
         obtain ⟨c10b0, c10b1⟩ := neB c10
         have H' := Aside0.mk H
         clear H
         have p359 : 0 ≤ (x3_1 : Int) := dt
         have q359 : x3_1 < (l0.length : Int) := dt
         obtain ⟨ad359, e359, hx359_0⟩ := Kd.at_int HR0.out x3_1 p359 q359
         cases e359
         replace p359 := eq_true p359
         replace q359 := eq_true q359
         go_wp2_with (first | ((with_reducible refine gate_callee (f := 86) rfl ?_); refine gL (some 14) Tryd.func86 #[.int .u8 (rd l0 x3_1)] rfl gA ?_; (with_reducible refine (tmesisref02_Name.calls k1 (rd l0 x3_1) false _ A4.out).mono ?_); rintro e w' ⟨rfl, ⟨nd, rfl⟩⟩; refine ⟨_, rfl, ?_⟩; obtain ⟨i012, hi012, _, hsz12, _⟩ := info_parts info5; obtain ⟨A12, hcut12, hA12, hC12⟩ := print_drop_of (P := Tryd.prog) (Value.int .u8) 0 22 5 .i64 Tryd.underlying22 hi012 hsz12 (some ad359) c0 l0 x3_1 dt dt HC0.out; have HR361 := Aside0.mk (Kd.C_of_reads (h1 := fun _ => rfl) (hA12 _ (Kd.reads_of_C HR0.out))); have HC361 := Aside0.mk hC12; clear hA12 hC12 hi012 hsz12) | ((with_reducible refine gate_callee (f := 69) rfl ?_); refine gL (some 21) Tryd.func69 #[.slice A12 (l0.drop (x3_1 : Int).toNat).length (c0 - x3_1.toNat)] rfl (gD l0 (x3_1 : Int).toNat) ?_; (with_reducible refine (tmesisref01_Take.calls k1 _ _ (l0.drop (x3_1 : Int).toNat) t362 true _ ?side1 ?side2 A8.out).mono ?_); (case side1 => exact CAt HR361.out); (case side2 => exact HC361.out); rintro e w' ⟨rfl, ⟨nd, rfl⟩⟩; refine ⟨_, rfl, ?_⟩))
         go_roundg k1
         case measure => have := HK1.out; omega
         case rel => exact ⟨(wrap64 (x3_1 + t362)), sR, H', ⟨by have := HK1.out; omega⟩, by repeat (first | exact Drawn0.refl _ | apply Drawn0.step)⟩
       ·replace c9 := Bool.eq_false_iff.mpr c9
        subst c9
        replace H := fP H
        obtain rfl := Option.some.inj H
        have p359 : 0 ≤ (x3_1 : Int) := dt
        have q359 : x3_1 < (l0.length : Int) := dt
        obtain ⟨ad359, e359, hx359_0⟩ := Kd.at_int HR0.out x3_1 p359 q359
        cases e359
        replace p359 := eq_true p359
        replace q359 := eq_true q359
        go_wp2_with (first | ((with_reducible refine gate_callee (f := 86) rfl ?_); refine gL (some 14) Tryd.func86 #[.int .u8 (rd l0 x3_1)] rfl gA ?_; (with_reducible refine (tmesisref02_Name.calls k1 (rd l0 x3_1) false _ A4.out).mono ?_); rintro e w' ⟨rfl, ⟨nd, rfl⟩⟩; refine ⟨_, rfl, ?_⟩; obtain ⟨i013, hi013, _, hsz13, _⟩ := info_parts info5; obtain ⟨A13, hcut13, hA13, hC13⟩ := print_drop_of (P := Tryd.prog) (Value.int .u8) 0 22 5 .i64 Tryd.underlying22 hi013 hsz13 (some ad359) c0 l0 x3_1 dt dt HC0.out; have HR361 := Aside0.mk (Kd.C_of_reads (h1 := fun _ => rfl) (hA13 _ (Kd.reads_of_C HR0.out))); have HC361 := Aside0.mk hC13; clear hA13 hC13 hi013 hsz13) | ((with_reducible refine gate_callee (f := 69) rfl ?_); refine gL (some 21) Tryd.func69 #[.slice A13 (l0.drop (x3_1 : Int).toNat).length (c0 - x3_1.toNat)] rfl (gD l0 (x3_1 : Int).toNat) ?_; (with_reducible refine (tmesisref01_Take.calls k1 _ _ (l0.drop (x3_1 : Int).toNat) t362 false _ ?side1 ?side2 A8.out).mono ?_); (case side1 => exact CAt HR361.out); (case side2 => exact HC361.out); rintro e w' ⟨rfl, ⟨nd, rfl⟩⟩; refine ⟨_, rfl, ?_⟩))
        go_ret
        exact ⟨by first | rfl | (simp; done) | (simp [*]; done), by repeat (first | exact Drawn0.refl _ | apply Drawn0.step)⟩
      ·exact nB H c7
    ·exact nB H c3
   ·rw [if_neg c2] at H
    have c2b0 := decide_eq_false c2
    clear c2
    obtain rfl := Option.some.inj H
    go_wp2
    go_ret
    exact ⟨by first | rfl | (simp; done) | (simp [*]; done), by repeat (first | exact Drawn0.refl _ | apply Drawn0.step)⟩
def tmesisref02_Run.l0 : Nat → List Int → Int → Int → Option (Int)
 | 0, _, _, _ => none
 | k + 1, x0, x1, x5 => if x5 < (x0.length : Int) then (if 0 ≤ x5 then ((tmesisref02_Of.f k (rd x0 x5)).bind fun t365 => (if t365 = x1 then (tmesisref02_Run.l0 k x0 x1 (wrap64 (x5 + 1))) else (some x5))) else (none)) else (some x5)
def tmesisref02_Run.f (k : Nat) (l0 : List Int) (a1 : Int) : Option (Int) := tmesisref02_Run.l0 k l0 a1 0
theorem tmesisref02_Run.mono_l : ∀ k, (∀ y0 y1 y2, LeO (tmesisref02_Run.l0 k y0 y1 y2) (tmesisref02_Run.l0 (k + 1) y0 y1 y2))
 | 0 => fun _ _ _ r h => by simp [tmesisref02_Run.l0] at h
 | k + 1 => by
  have ih0 := tmesisref02_Run.mono_l k
  ·intro y0 y1 y2
   unfold tmesisref02_Run.l0
   repeat' with_reducible first | exact ih0 _ _ _ | exact tmesisref02_Of.mono _ _ | exact LeO.refl _ | exact LeO.none _ | refine LeO.ite ?_ ?_ | refine LeO.bind ?_ (fun _ => ?_)
theorem tmesisref02_Run.mono : ∀ a0 a1 k, LeO (tmesisref02_Run.f k a0 a1) (tmesisref02_Run.f (k + 1) a0 a1) := by
 intro a0 a1 k
 have ih0 := tmesisref02_Run.mono_l k
 unfold tmesisref02_Run.f
 repeat' with_reducible first | exact ih0 _ _ _ | exact tmesisref02_Of.mono _ _ | exact LeO.refl _ | exact LeO.none _ | refine LeO.ite ?_ ?_ | refine LeO.bind ?_ (fun _ => ?_)
set_option maxHeartbeats 8000000 in
set_option maxRecDepth 100000 in
theorem tmesisref02_Run.calls (k : Nat) (A0 : Option Addr) (c0 : Nat) (l0 : List Int) (a1 : Int) (r : Int) (w : World) (hr0 : Kd.C (Kd.int .u8) w A0 l0.length l0) (hc0 : l0.length ≤ c0) (h : tmesisref02_Run.f k l0 a1 = some r) :
  Calls Tryd.prog 71 #[.slice A0 l0.length c0, .int .i64 a1] w fun e w' => e = .returned (.int .i64 r) ∧ Drawn0 w w' := by
 have HR0 := Aside0.mk hr0
 have HC0 := Aside0.mk hc0
 clear hr0 hc0
 have H : (tmesisref02_Run.l0 k l0 a1 0) = some r := h
 clear h
 have H' := Aside0.mk H
 clear H
 go_enter Tryd.func71, Tryd.ntmps71
 go_wp2
 go_loopg [5] k (fun kq v5 w' => ∃ (x5_1 : Int), v5 = .int .i64 x5_1 ∧ Aside0 (tmesisref02_Run.l0 kq l0 a1 x5_1 = some r) ∧ Aside0 (kq ≤ k) ∧ Drawn0 w w')
 case atStart => exact ⟨(0), sR, H', ⟨Nat.le_refl _⟩, by repeat (first | exact Drawn0.refl _ | apply Drawn0.step)⟩
 case round =>
  clear H'
  try clear p2
  obtain ⟨x5_1, rfl, HA, HK1, ⟨m1, rfl⟩⟩ := hrel
  cases gk with
  | zero => exact absurd HA.out (by simp [tmesisref02_Run.l0])
  | succ k1 =>
   have H := HA.out
   clear HA
   simp only [tmesisref02_Run.l0] at H
   by_cases c3 : x5_1 < (l0.length : Int)
   ·rw [if_pos c3] at H
    have c3b0 := decide_eq_true c3
    clear c3
    by_cases c4 : 0 ≤ x5_1
    ·rw [if_pos c4] at H
     have c4b0 := decide_eq_true c4
     clear c4
     obtain ⟨t365, A5, H⟩ := bE H
     by_cases c6 : t365 = a1
     ·rw [if_pos c6] at H
      obtain ⟨c6b0, c6b1⟩ := eqB c6
      clear c6
      have H' := Aside0.mk H
      clear H
      have p364 : 0 ≤ (x5_1 : Int) := dt
      have q364 : x5_1 < (l0.length : Int) := dt
      obtain ⟨ad364, e364, hx364_0⟩ := Kd.at_int HR0.out x5_1 p364 q364
      cases e364
      replace p364 := eq_true p364
      replace q364 := eq_true q364
      go_wp2_with (first | ((with_reducible refine gate_callee (f := 66) rfl ?_); (try (refine gate_guard (by rfl) ?_; dsimp only)); refine gL (some 15) Tryd.func66 #[.int .u8 (rd l0 x5_1)] rfl gA ?_; (with_reducible refine (tmesisref02_Of.calls k1 (rd l0 x5_1) t365 _ A5.out).mono ?_); rintro e w' ⟨rfl, ⟨nd, rfl⟩⟩; refine ⟨_, rfl, ?_⟩))
      go_roundg k1
      case measure => have := HK1.out; omega
      case rel => exact ⟨(wrap64 (x5_1 + 1)), sR, H', ⟨by have := HK1.out; omega⟩, by repeat (first | exact Drawn0.refl _ | apply Drawn0.step)⟩
     ·rw [if_neg c6] at H
      obtain ⟨c6b0, c6b1⟩ := neB c6
      obtain rfl := Option.some.inj H
      have p364 : 0 ≤ (x5_1 : Int) := dt
      have q364 : x5_1 < (l0.length : Int) := dt
      obtain ⟨ad364, e364, hx364_0⟩ := Kd.at_int HR0.out x5_1 p364 q364
      cases e364
      replace p364 := eq_true p364
      replace q364 := eq_true q364
      go_wp2_with (first | ((with_reducible refine gate_callee (f := 66) rfl ?_); (try (refine gate_guard (by rfl) ?_; dsimp only)); refine gL (some 15) Tryd.func66 #[.int .u8 (rd l0 x5_1)] rfl gA ?_; (with_reducible refine (tmesisref02_Of.calls k1 (rd l0 x5_1) t365 _ A5.out).mono ?_); rintro e w' ⟨rfl, ⟨nd, rfl⟩⟩; refine ⟨_, rfl, ?_⟩))
      go_ret
      exact ⟨by first | rfl | (simp; done) | (simp [*]; done), by repeat (first | exact Drawn0.refl _ | apply Drawn0.step)⟩
    ·exact nB H c4
   ·rw [if_neg c3] at H
    have c3b0 := decide_eq_false c3
    clear c3
    obtain rfl := Option.some.inj H
    go_wp2
    go_ret
    exact ⟨by first | rfl | (simp; done) | (simp [*]; done), by repeat (first | exact Drawn0.refl _ | apply Drawn0.step)⟩
def tmesisref06_ends.f (k : Nat) (l0 : List Int) : Option (Bool) := if (l0.length : Int) = 1 then (some true) else (if 1 < (l0.length : Int) then ((tmesisref02_Of.f k (rd l0 1)).bind fun t367 => (if t367 = 1 then (some true) else ((tmesisref02_Of.f k (rd l0 1)).bind fun t369 => (some (t369 == 8))))) else (none))
theorem tmesisref06_ends.mono : ∀ a0 k, LeO (tmesisref06_ends.f k a0) (tmesisref06_ends.f (k + 1) a0) := by
 intro a0 k
 unfold tmesisref06_ends.f
 repeat' with_reducible first | exact tmesisref02_Of.mono _ _ | exact LeO.refl _ | exact LeO.none _ | refine LeO.ite ?_ ?_ | refine LeO.bind ?_ (fun _ => ?_)
set_option maxHeartbeats 8000000 in
set_option maxRecDepth 100000 in
theorem tmesisref06_ends.calls (k : Nat) (A0 : Option Addr) (c0 : Nat) (l0 : List Int) (r : Bool) (w : World) (hr0 : Kd.C (Kd.int .u8) w A0 l0.length l0) (hc0 : l0.length ≤ c0) (h : tmesisref06_ends.f k l0 = some r) :
  Calls Tryd.prog 72 #[.slice A0 l0.length c0] w fun e w' => e = .returned (.bool r) ∧ Drawn0 w w' := by
 have HR0 := Aside0.mk hr0
 have HC0 := Aside0.mk hc0
 clear hr0 hc0
 have H : (if (l0.length : Int) = 1 then (some true) else (if 1 < (l0.length : Int) then ((tmesisref02_Of.f k (rd l0 1)).bind fun t367 => (if t367 = 1 then (some true) else ((tmesisref02_Of.f k (rd l0 1)).bind fun t369 => (some (t369 == 8))))) else (none))) = some r := h
 clear h
 by_cases c2 : (l0.length : Int) = 1
 ·rw [if_pos c2] at H
  obtain ⟨c2b0, c2b1⟩ := eqB c2
  clear c2
  obtain rfl := Option.some.inj H
  go_enter Tryd.func72, Tryd.ntmps72
  go_wp2
  go_ret
  exact ⟨by first | rfl | (simp; done) | (simp [*]; done), by repeat (first | exact Drawn0.refl _ | apply Drawn0.step)⟩
 ·rw [if_neg c2] at H
  obtain ⟨c2b0, c2b1⟩ := neB c2
  by_cases c3 : 1 < (l0.length : Int)
  ·rw [if_pos c3] at H
   have c3b0 := decide_eq_true c3
   have c3b1 : decide (1 < l0.length) = true := decide_eq_true (by omega)
   clear c3
   obtain ⟨t367, A4, H⟩ := bE H
   by_cases c5 : t367 = 1
   ·rw [if_pos c5] at H
    obtain ⟨c5b0, c5b1⟩ := eqB c5
    clear c5
    obtain rfl := Option.some.inj H
    have p366 : 0 ≤ (1 : Int) := (by omega)
    have q366 : 1 < (l0.length : Int) := dt
    obtain ⟨ad366, e366, hx366_0⟩ := Kd.at_int HR0.out 1 p366 q366
    cases e366
    (try simp only [show (1 : Int).toNat = 1 from rfl, Nat.reduceMul, Nat.reduceEqDiff, Go.Addr.add, ↓reduceIte] at hx366_0)
    have qi366 : (1 < l0.length) = True := eq_true (by omega)
    (try rw [show ((1 : Int)).toNat = 1 from rfl] at hx366_0)
    replace p366 := eq_true p366
    replace q366 := eq_true q366
    go_enter Tryd.func72, Tryd.ntmps72
    go_wp2_with (first | ((with_reducible refine gate_callee (f := 66) rfl ?_); (try (refine gate_guard (by rfl) ?_; dsimp only)); refine gL (some 10) Tryd.func66 #[.int .u8 (rd l0 1)] rfl gA ?_; (with_reducible refine (tmesisref02_Of.calls k (rd l0 1) t367 _ A4.out).mono ?_); rintro e w' ⟨rfl, ⟨nd, rfl⟩⟩; refine ⟨_, rfl, ?_⟩))
    go_ret
    exact ⟨by first | rfl | (simp; done) | (simp [*]; done), by repeat (first | exact Drawn0.refl _ | apply Drawn0.step)⟩
   ·rw [if_neg c5] at H
    obtain ⟨c5b0, c5b1⟩ := neB c5
    obtain ⟨t369, A6, H⟩ := bE H
    obtain rfl := Option.some.inj H
    have p366 : 0 ≤ (1 : Int) := (by omega)
    have q366 : 1 < (l0.length : Int) := dt
    obtain ⟨ad366, e366, hx366_0⟩ := Kd.at_int HR0.out 1 p366 q366
    cases e366
    (try simp only [show (1 : Int).toNat = 1 from rfl, Nat.reduceMul, Nat.reduceEqDiff, Go.Addr.add, ↓reduceIte] at hx366_0)
    have qi366 : (1 < l0.length) = True := eq_true (by omega)
    (try rw [show ((1 : Int)).toNat = 1 from rfl] at hx366_0)
    replace p366 := eq_true p366
    replace q366 := eq_true q366
    go_enter Tryd.func72, Tryd.ntmps72
    go_wp2_with (first | ((with_reducible refine gate_callee (f := 66) rfl ?_); (try (refine gate_guard (by rfl) ?_; dsimp only)); refine gL (some 10) Tryd.func66 #[.int .u8 (rd l0 1)] rfl gA ?_; (with_reducible refine (tmesisref02_Of.calls k (rd l0 1) t367 _ A4.out).mono ?_); rintro e w' ⟨rfl, ⟨nd, rfl⟩⟩; refine ⟨_, rfl, ?_⟩; have p368 : 0 ≤ (1 : Int) := (by omega); have q368 : 1 < (l0.length : Int) := dt; obtain ⟨ad368, e368, hx368_0⟩ := Kd.at_int HR0.out 1 p368 q368; obtain rfl : ad366 = ad368 := (by injection e368); (try simp only [show (1 : Int).toNat = 1 from rfl, Nat.reduceMul, Nat.reduceEqDiff, Go.Addr.add, ↓reduceIte] at hx368_0); have qi368 : (1 < l0.length) = True := eq_true (by omega); (try rw [show ((1 : Int)).toNat = 1 from rfl] at hx368_0); replace p368 := eq_true p368; replace q368 := eq_true q368) | ((with_reducible refine gate_callee (f := 66) rfl ?_); (try (refine gate_guard (by rfl) ?_; dsimp only)); refine gL (some 17) Tryd.func66 #[.int .u8 (rd l0 1)] rfl gA ?_; (with_reducible refine (tmesisref02_Of.calls k (rd l0 1) t369 _ A6.out).mono ?_); rintro e w' ⟨rfl, ⟨nd, rfl⟩⟩; refine ⟨_, rfl, ?_⟩))
    go_ret
    exact ⟨by first | rfl | (simp; done) | (simp [*]; done), by repeat (first | exact Drawn0.refl _ | apply Drawn0.step)⟩
  ·exact nB H c3
end Go.Proofs.YtpkklbdclghcfaaDoor.P
