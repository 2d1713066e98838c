/- Part of the proof: what the theorem needs of this text. -/
import Derived.Test.YtpkklbdclghcfaaDoorKPx0
import Derived.Test.YtpkklbdclghcfaaDoorKPx13
namespace Go.Proofs.YtpkklbdclghcfaaDoor.P
open Go.RowKit Go.Proofs.YtpkklbdclghcfaaDoorW.PrintWords Go.Proofs.YtpkklbdclghcfaaDoorW.PrintLast Go.Proofs.YtpkklbdclghcfaaDoorW.PrintMore
attribute [local go_sem] max2_int min2_int max_two min_two max_three min_three max_four min_four   -- for this text's walks alone
set_option linter.unusedVariables false
set_option linter.unusedSimpArgs false
mutual
def tmesisref05_Skip.l0 : Nat → List Int → Int → Option (Int × Int)
 | 0, _, _ => none
 | k + 1, x0, x4 => if x4 < (x0.length : Int) then (if 0 ≤ x4 then ((tmesisref02_Of.f k (rd x0 x4)).bind fun t344 => (if t344 = 1 then (tmesisref05_Skip.l0 k x0 (wrap64 (x4 + 1))) else (if (rd x0 x4) = 37 then (tmesisref05_Skip.l1 k x0 x4) else ((tmesisref05_pair.f x0 x4 (⟨#[47, 42]⟩ : ByteArray)).bind fun t347 => (if t347 = true then ((tmesisref05_comment.f k x0 x4).bind fun t348 => (if t348 < 0 then (some (x4, 14)) else (tmesisref05_Skip.l0 k x0 t348))) else (some (x4, 0))))))) else (none)) else (some (x4, 0))
def tmesisref05_Skip.l1 : Nat → List Int → Int → Option (Int × Int)
 | 0, _, _ => none
 | k + 1, x0, x4 => if x4 < (x0.length : Int) then (if 0 ≤ x4 then (if (rd x0 x4) = 10 then (tmesisref05_Skip.l0 k x0 x4) else (tmesisref05_Skip.l1 k x0 (wrap64 (x4 + 1)))) else (none)) else (tmesisref05_Skip.l0 k x0 x4)
end
def tmesisref05_Skip.f (k : Nat) (l0 : List Int) : Option (Int × Int) := tmesisref05_Skip.l0 k l0 0
theorem tmesisref05_Skip.mono_l : ∀ k, (∀ y0 y1, LeO (tmesisref05_Skip.l0 k y0 y1) (tmesisref05_Skip.l0 (k + 1) y0 y1)) ∧ (∀ y0 y1, LeO (tmesisref05_Skip.l1 k y0 y1) (tmesisref05_Skip.l1 (k + 1) y0 y1))
 | 0 => ⟨fun _ _ r h => by simp [tmesisref05_Skip.l0] at h, fun _ _ r h => by simp [tmesisref05_Skip.l1] at h⟩
 | k + 1 => by
  obtain ⟨ih0, ih1⟩ := tmesisref05_Skip.mono_l k
  refine ⟨?_, ?_⟩
  ·intro y0 y1
   unfold tmesisref05_Skip.l0
   repeat' with_reducible first | exact ih0 _ _ | exact ih1 _ _ | exact tmesisref02_Of.mono _ _ | exact tmesisref05_comment.mono _ _ _ | exact LeO.refl _ | exact LeO.none _ | refine LeO.ite ?_ ?_ | refine LeO.bind ?_ (fun _ => ?_)
  ·intro y0 y1
   unfold tmesisref05_Skip.l1
   repeat' with_reducible first | exact ih0 _ _ | exact ih1 _ _ | exact tmesisref02_Of.mono _ _ | exact tmesisref05_comment.mono _ _ _ | exact LeO.refl _ | exact LeO.none _ | refine LeO.ite ?_ ?_ | refine LeO.bind ?_ (fun _ => ?_)
theorem tmesisref05_Skip.mono : ∀ a0 k, LeO (tmesisref05_Skip.f k a0) (tmesisref05_Skip.f (k + 1) a0) := by
 intro a0 k
 obtain ⟨ih0, ih1⟩ := tmesisref05_Skip.mono_l k
 unfold tmesisref05_Skip.f
 repeat' with_reducible first | exact ih0 _ _ | exact ih1 _ _ | exact tmesisref02_Of.mono _ _ | exact tmesisref05_comment.mono _ _ _ | exact LeO.refl _ | exact LeO.none _ | refine LeO.ite ?_ ?_ | refine LeO.bind ?_ (fun _ => ?_)
set_option maxHeartbeats 8000000 in
set_option maxRecDepth 100000 in
theorem tmesisref05_Skip.calls (k : Nat) (A0 : Option Addr) (c0 : Nat) (l0 : List Int) (r1 : Int) (r2 : Int) (w : World) (hr0 : Kd.C (Kd.int .u8) w A0 l0.length l0) (hc0 : l0.length ≤ c0) (h : tmesisref05_Skip.f k l0 = some (r1, r2)) :
  Calls Tryd.prog 48 #[.slice A0 l0.length c0] w fun e w' => e = .returned (.tuple #[.int .i64 r1, .int .i64 r2]) ∧ Drawn0 w w' := by
 have HR0 := Aside0.mk hr0
 have HC0 := Aside0.mk hc0
 clear hr0 hc0
 have H : (tmesisref05_Skip.l0 k l0 0) = some (r1, r2) := h
 clear h
 have H' := Aside0.mk H
 clear H
 go_enter Tryd.func48, Tryd.ntmps48
 go_wp2
 go_loopg [4] k (fun kq v4 w' => ∃ (x4_1 : Int), v4 = .int .i64 x4_1 ∧ Aside0 (tmesisref05_Skip.l0 kq l0 x4_1 = some (r1, r2)) ∧ Aside0 (kq ≤ k) ∧ Drawn0 w w')
 case atStart => exact ⟨(0), sR, H', ⟨Nat.le_refl _⟩, by repeat (first | exact Drawn0.refl _ | apply Drawn0.step)⟩
 case round =>
  clear H'
  obtain ⟨x4_1, rfl, HA, HK1, ⟨m1, rfl⟩⟩ := hrel
  cases gk with
  | zero => exact absurd HA.out (by simp [tmesisref05_Skip.l0])
  | succ k1 =>
   have H := HA.out
   clear HA
   simp only [tmesisref05_Skip.l0] at H
   by_cases c2 : x4_1 < (l0.length : Int)
   ·rw [if_pos c2] at H
    have c2b0 := decide_eq_true c2
    clear c2
    by_cases c3 : 0 ≤ x4_1
    ·rw [if_pos c3] at H
     have c3b0 := decide_eq_true c3
     clear c3
     obtain ⟨t344, A4, H⟩ := bE H
     by_cases c5 : t344 = 1
     ·rw [if_pos c5] at H
      obtain ⟨c5b0, c5b1⟩ := eqB c5
      clear c5
      have H' := Aside0.mk H
      clear H
      have p343 : 0 ≤ (x4_1 : Int) := dt
      have q343 : x4_1 < (l0.length : Int) := dt
      obtain ⟨ad343, e343, hx343_0⟩ := Kd.at_int HR0.out x4_1 p343 q343
      cases e343
      replace p343 := eq_true p343
      replace q343 := eq_true q343
      go_wp2_with (first | ((with_reducible refine gate_callee (f := 66) rfl ?_); refine gL (some 14) Tryd.func66 #[.int .u8 (rd l0 x4_1)] rfl gA ?_; (with_reducible refine (tmesisref02_Of.calls k1 (rd l0 x4_1) t344 _ A4.out).mono ?_); rintro e w' ⟨rfl, ⟨nd, rfl⟩⟩; refine ⟨_, rfl, ?_⟩))
      go_roundg k1
      case measure => have := HK1.out; omega
      case rel => exact ⟨(wrap64 (x4_1 + 1)), sR, H', ⟨by have := HK1.out; omega⟩, by repeat (first | exact Drawn0.refl _ | apply Drawn0.step)⟩
     ·rw [if_neg c5] at H
      obtain ⟨c5b0, c5b1⟩ := neB c5
      by_cases c6 : (rd l0 x4_1) = 37
      ·rw [if_pos c6] at H
       obtain ⟨c6b0, c6b1⟩ := eqB c6
       clear c6
       have H' := Aside0.mk H
       clear H
       have p343 : 0 ≤ (x4_1 : Int) := dt
       have q343 : x4_1 < (l0.length : Int) := dt
       obtain ⟨ad343, e343, hx343_0⟩ := Kd.at_int HR0.out x4_1 p343 q343
       cases e343
       replace p343 := eq_true p343
       replace q343 := eq_true q343
       go_wp2_with (first | ((with_reducible refine gate_callee (f := 66) rfl ?_); refine gL (some 14) Tryd.func66 #[.int .u8 (rd l0 x4_1)] rfl gA ?_; (with_reducible refine (tmesisref02_Of.calls k1 (rd l0 x4_1) t344 _ A4.out).mono ?_); rintro e w' ⟨rfl, ⟨nd, rfl⟩⟩; refine ⟨_, rfl, ?_⟩; have p345 : 0 ≤ (x4_1 : Int) := dt; have q345 : x4_1 < (l0.length : Int) := dt; obtain ⟨ad345, e345, hx345_0⟩ := Kd.at_int HR0.out x4_1 p345 q345; obtain rfl : ad343 = ad345 := (by injection e345); replace p345 := eq_true p345; replace q345 := eq_true q345))
       go_loopg [4] k1 (fun kq v4 w' => ∃ (x4_2 : Int), v4 = .int .i64 x4_2 ∧ Aside0 (tmesisref05_Skip.l1 kq l0 x4_2 = some (r1, r2)) ∧ Aside0 (kq ≤ k1) ∧ Drawn0 w w')
       case atStart => exact ⟨(x4_1), sR, H', ⟨Nat.le_refl _⟩, by repeat (first | exact Drawn0.refl _ | apply Drawn0.step)⟩
       case round =>
        clear H'
        try clear c2
        try clear c2b0
        try clear p2
        try clear c3
        try clear c3b0
        try clear p3
        try clear q3
        try clear hx3
        try clear c4
        try clear c5
        try clear c5b0 c5b1
        try clear c6
        try clear c6b0 c6b1
        try clear p6
        try clear hx343_0
        try clear hx345_0
        try clear p343
        try clear p345
        try clear q343
        try clear q345
        obtain ⟨x4_2, rfl, HA, HK2, ⟨m2, rfl⟩⟩ := hrel
        cases gk with
        | zero => exact absurd HA.out (by simp [tmesisref05_Skip.l1])
        | succ k2 =>
         have H := HA.out
         clear HA
         simp only [tmesisref05_Skip.l1] at H
         by_cases c7 : x4_2 < (l0.length : Int)
         ·rw [if_pos c7] at H
          have c7b0 := decide_eq_true c7
          clear c7
          by_cases c8 : 0 ≤ x4_2
          ·rw [if_pos c8] at H
           have c8b0 := decide_eq_true c8
           clear c8
           by_cases c9 : (rd l0 x4_2) = 10
           ·rw [if_pos c9] at H
            obtain ⟨c9b0, c9b1⟩ := eqB c9
            clear c9
            have H' := Aside0.mk H
            clear H
            have p346 : 0 ≤ (x4_2 : Int) := dt
            have q346 : x4_2 < (l0.length : Int) := dt
            obtain ⟨ad346, e346, hx346_0⟩ := Kd.at_int HR0.out x4_2 p346 q346
            obtain rfl : ad343 = ad346 := (by injection e346)
            replace p346 := eq_true p346
            replace q346 := eq_true q346
            go_wp2
            go_roundg k2
            case measure => have := HK1.out; have := HK2.out; omega
            case rel => exact ⟨(x4_2), sR, H', ⟨by have := HK1.out; have := HK2.out; omega⟩, by repeat (first | exact Drawn0.refl _ | apply Drawn0.step)⟩
           ·rw [if_neg c9] at H
            obtain ⟨c9b0, c9b1⟩ := neB c9
            have H' := Aside0.mk H
            clear H
            have p346 : 0 ≤ (x4_2 : Int) := dt
            have q346 : x4_2 < (l0.length : Int) := dt
            obtain ⟨ad346, e346, hx346_0⟩ := Kd.at_int HR0.out x4_2 p346 q346
            obtain rfl : ad343 = ad346 := (by injection e346)
            replace p346 := eq_true p346
            replace q346 := eq_true q346
            go_wp2
            go_roundg k2
            case measure => have := HK1.out; have := HK2.out; omega
            case rel => exact ⟨(wrap64 (x4_2 + 1)), sR, H', ⟨by have := HK1.out; have := HK2.out; omega⟩, by repeat (first | exact Drawn0.refl _ | apply Drawn0.step)⟩
          ·exact nB H c8
         ·rw [if_neg c7] at H
          have c7b0 := decide_eq_false c7
          clear c7
          have H' := Aside0.mk H
          clear H
          go_wp2
          go_roundg k2
          case measure => have := HK1.out; have := HK2.out; omega
          case rel => exact ⟨(x4_2), sR, H', ⟨by have := HK1.out; have := HK2.out; omega⟩, by repeat (first | exact Drawn0.refl _ | apply Drawn0.step)⟩
      ·rw [if_neg c6] at H
       obtain ⟨c6b0, c6b1⟩ := neB c6
       obtain ⟨t347, A10, H⟩ := bE H
       by_cases c11 : t347 = true
       ·subst c11
        replace H := tP H
        obtain ⟨t348, A12, H⟩ := bE H
        by_cases c13 : t348 < 0
        ·rw [if_pos c13] at H
         have c13b0 := decide_eq_true c13
         clear c13
         simp only [Option.some.injEq, Prod.mk.injEq] at H
         obtain ⟨rfl, rfl⟩ := H
         have p343 : 0 ≤ (x4_1 : Int) := dt
         have q343 : x4_1 < (l0.length : Int) := dt
         obtain ⟨ad343, e343, hx343_0⟩ := Kd.at_int HR0.out x4_1 p343 q343
         cases e343
         replace p343 := eq_true p343
         replace q343 := eq_true q343
         go_wp2_with (first | ((with_reducible refine gate_callee (f := 66) rfl ?_); refine gL (some 14) Tryd.func66 #[.int .u8 (rd l0 x4_1)] rfl gA ?_; (with_reducible refine (tmesisref02_Of.calls k1 (rd l0 x4_1) t344 _ A4.out).mono ?_); rintro e w' ⟨rfl, ⟨nd, rfl⟩⟩; refine ⟨_, rfl, ?_⟩; have p345 : 0 ≤ (x4_1 : Int) := dt; have q345 : x4_1 < (l0.length : Int) := dt; obtain ⟨ad345, e345, hx345_0⟩ := Kd.at_int HR0.out x4_1 p345 q345; obtain rfl : ad343 = ad345 := (by injection e345); replace p345 := eq_true p345; replace q345 := eq_true q345) | ((with_reducible refine gate_callee (f := 67) rfl ?_); refine gL (some 38) Tryd.func67 #[.slice (some ad343) l0.length c0, .int .i64 x4_1, .string (⟨#[47, 42]⟩ : ByteArray)] rfl gA ?_; (with_reducible refine (tmesisref05_pair.calls _ _ l0 x4_1 (⟨#[47, 42]⟩ : ByteArray) true _ ?side1 ?side2 A10.out).mono ?_); (case side1 => exact CAt HR0.out); (case side2 => exact HC0.out); rintro e w' ⟨rfl, ⟨nd, rfl⟩⟩; refine ⟨_, rfl, ?_⟩) | ((with_reducible refine gate_callee (f := 68) rfl ?_); refine gL (some 41) Tryd.func68 #[.slice (some ad343) l0.length c0, .int .i64 x4_1] rfl gA ?_; (with_reducible refine (tmesisref05_comment.calls k1 _ _ l0 x4_1 t348 _ ?side1 ?side2 A12.out).mono ?_); (case side1 => exact CAt HR0.out); (case side2 => exact HC0.out); rintro e w' ⟨rfl, ⟨nd, rfl⟩⟩; refine ⟨_, rfl, ?_⟩))
         go_ret2
         exact ⟨by first | rfl | (simp; done) | (simp [*]; done), by repeat (first | exact Drawn0.refl _ | apply Drawn0.step)⟩
        ·rw [if_neg c13] at H
         have c13b0 := decide_eq_false c13
         clear c13
         have H' := Aside0.mk H
         clear H
         have p343 : 0 ≤ (x4_1 : Int) := dt
         have q343 : x4_1 < (l0.length : Int) := dt
         obtain ⟨ad343, e343, hx343_0⟩ := Kd.at_int HR0.out x4_1 p343 q343
         cases e343
         replace p343 := eq_true p343
         replace q343 := eq_true q343
         go_wp2_with (first | ((with_reducible refine gate_callee (f := 66) rfl ?_); refine gL (some 14) Tryd.func66 #[.int .u8 (rd l0 x4_1)] rfl gA ?_; (with_reducible refine (tmesisref02_Of.calls k1 (rd l0 x4_1) t344 _ A4.out).mono ?_); rintro e w' ⟨rfl, ⟨nd, rfl⟩⟩; refine ⟨_, rfl, ?_⟩; have p345 : 0 ≤ (x4_1 : Int) := dt; have q345 : x4_1 < (l0.length : Int) := dt; obtain ⟨ad345, e345, hx345_0⟩ := Kd.at_int HR0.out x4_1 p345 q345; obtain rfl : ad343 = ad345 := (by injection e345); replace p345 := eq_true p345; replace q345 := eq_true q345) | ((with_reducible refine gate_callee (f := 67) rfl ?_); refine gL (some 38) Tryd.func67 #[.slice (some ad343) l0.length c0, .int .i64 x4_1, .string (⟨#[47, 42]⟩ : ByteArray)] rfl gA ?_; (with_reducible refine (tmesisref05_pair.calls _ _ l0 x4_1 (⟨#[47, 42]⟩ : ByteArray) true _ ?side1 ?side2 A10.out).mono ?_); (case side1 => exact CAt HR0.out); (case side2 => exact HC0.out); rintro e w' ⟨rfl, ⟨nd, rfl⟩⟩; refine ⟨_, rfl, ?_⟩) | ((with_reducible refine gate_callee (f := 68) rfl ?_); refine gL (some 41) Tryd.func68 #[.slice (some ad343) l0.length c0, .int .i64 x4_1] rfl gA ?_; (with_reducible refine (tmesisref05_comment.calls k1 _ _ l0 x4_1 t348 _ ?side1 ?side2 A12.out).mono ?_); (case side1 => exact CAt HR0.out); (case side2 => exact HC0.out); rintro e w' ⟨rfl, ⟨nd, rfl⟩⟩; refine ⟨_, rfl, ?_⟩))
         go_roundg k1
         case measure => have := HK1.out; omega
         case rel => exact ⟨(t348), sR, H', ⟨by have := HK1.out; omega⟩, by repeat (first | exact Drawn0.refl _ | apply Drawn0.step)⟩
       ·replace c11 := Bool.eq_false_iff.mpr c11
        subst c11
        replace H := fP H
        simp only [Option.some.injEq, Prod.mk.injEq] at H
        obtain ⟨rfl, rfl⟩ := H
        have p343 : 0 ≤ (x4_1 : Int) := dt
        have q343 : x4_1 < (l0.length : Int) := dt
        obtain ⟨ad343, e343, hx343_0⟩ := Kd.at_int HR0.out x4_1 p343 q343
        cases e343
        replace p343 := eq_true p343
        replace q343 := eq_true q343
        go_wp2_with (first | ((with_reducible refine gate_callee (f := 66) rfl ?_); refine gL (some 14) Tryd.func66 #[.int .u8 (rd l0 x4_1)] rfl gA ?_; (with_reducible refine (tmesisref02_Of.calls k1 (rd l0 x4_1) t344 _ A4.out).mono ?_); rintro e w' ⟨rfl, ⟨nd, rfl⟩⟩; refine ⟨_, rfl, ?_⟩; have p345 : 0 ≤ (x4_1 : Int) := dt; have q345 : x4_1 < (l0.length : Int) := dt; obtain ⟨ad345, e345, hx345_0⟩ := Kd.at_int HR0.out x4_1 p345 q345; obtain rfl : ad343 = ad345 := (by injection e345); replace p345 := eq_true p345; replace q345 := eq_true q345) | ((with_reducible refine gate_callee (f := 67) rfl ?_); refine gL (some 38) Tryd.func67 #[.slice (some ad343) l0.length c0, .int .i64 x4_1, .string (⟨#[47, 42]⟩ : ByteArray)] rfl gA ?_; (with_reducible refine (tmesisref05_pair.calls _ _ l0 x4_1 (⟨#[47, 42]⟩ : ByteArray) false _ ?side1 ?side2 A10.out).mono ?_); (case side1 => exact CAt HR0.out); (case side2 => exact HC0.out); rintro e w' ⟨rfl, ⟨nd, rfl⟩⟩; refine ⟨_, rfl, ?_⟩))
        go_ret2
        exact ⟨by first | rfl | (simp; done) | (simp [*]; done), by repeat (first | exact Drawn0.refl _ | apply Drawn0.step)⟩
    ·exact nB H c3
   ·rw [if_neg c2] at H
    have c2b0 := decide_eq_false c2
    clear c2
    simp only [Option.some.injEq, Prod.mk.injEq] at H
    obtain ⟨rfl, rfl⟩ := H
    go_wp2
    go_ret2
    exact ⟨by first | rfl | (simp; done) | (simp [*]; done), by repeat (first | exact Drawn0.refl _ | apply Drawn0.step)⟩
def tmesisref01_long.j0 : Nat → Int → Bool → Option (Int)
 | 0, _, _ => none
 | k + 1, x0, x10 => if x10 = true then (some 0) else (if x0 < 224 then (some 2) else (if x0 < 240 then (some 3) else (some 4)))
def tmesisref01_long.f (k : Nat) (a0 : Int) : Option (Int) := if a0 < 128 then (some 1) else (if a0 < 194 then (tmesisref01_long.j0 k a0 true) else (tmesisref01_long.j0 k a0 (decide (a0 > 244))))
theorem tmesisref01_long.mono_l : ∀ k, (∀ y0 y1, LeO (tmesisref01_long.j0 k y0 y1) (tmesisref01_long.j0 (k + 1) y0 y1))
 | 0 => fun _ _ r h => by simp [tmesisref01_long.j0] at h
 | k + 1 => by
  have ih0 := tmesisref01_long.mono_l k
  ·intro y0 y1
   unfold tmesisref01_long.j0
   repeat' with_reducible first | exact ih0 _ _ | exact LeO.refl _ | exact LeO.none _ | refine LeO.ite ?_ ?_ | refine LeO.bind ?_ (fun _ => ?_)
theorem tmesisref01_long.mono : ∀ a0 k, LeO (tmesisref01_long.f k a0) (tmesisref01_long.f (k + 1) a0) := by
 intro a0 k
 have ih0 := tmesisref01_long.mono_l k
 unfold tmesisref01_long.f
 repeat' with_reducible first | exact ih0 _ _ | exact LeO.refl _ | exact LeO.none _ | refine LeO.ite ?_ ?_ | refine LeO.bind ?_ (fun _ => ?_)
set_option maxHeartbeats 8000000 in
set_option maxRecDepth 100000 in
theorem tmesisref01_long.calls (k : Nat) (a0 : Int) (r : Int) (w : World) (h : tmesisref01_long.f k a0 = some r) :
  Calls Tryd.prog 84 #[.int .u8 a0] w fun e w' => e = .returned (.int .i64 r) ∧ Drawn0 w w' := by
 have H : (if a0 < 128 then (some 1) else (if a0 < 194 then (tmesisref01_long.j0 k a0 true) else (tmesisref01_long.j0 k a0 (decide (a0 > 244))))) = some r := h
 clear h
 by_cases c2 : a0 < 128
 ·rw [if_pos c2] at H
  have c2b0 := decide_eq_true c2
  clear c2
  obtain rfl := Option.some.inj H
  go_enter Tryd.func84, Tryd.ntmps84
  go_wp2
  go_ret
  exact ⟨by first | rfl | (simp; done) | (simp [*]; done), by repeat (first | exact Drawn0.refl _ | apply Drawn0.step)⟩
 ·rw [if_neg c2] at H
  have c2b0 := decide_eq_false c2
  clear c2
  have HC3 := Aside0.mk H
  clear H
  go_enter Tryd.func84, Tryd.ntmps84
  go_upto_region 3 with (fail)
  go_cut [10] (fun v10 wc => ∃ (kq : Nat) (x10_2 : Bool), v10 = .bool x10_2 ∧ Aside0 (tmesisref01_long.j0 kq a0 x10_2 = some r) ∧ Aside0 (kq ≤ k) ∧ Drawn0 w wc)
  case first =>
   have H := HC3.out
   clear HC3
   by_cases c4 : a0 < 194
   ·rw [if_pos c4] at H
    have c4b0 := decide_eq_true c4
    clear c4
    (first | rw [c4b0] | (simp only [i64_w, i32_w]; rw [c4b0]) | skip)
    have H' := Aside0.mk H
    clear H
    go_wp2
    go_meet
    case rel => exact ⟨_, (true), sR, H', ⟨by first | omega | exact Nat.le_refl _⟩, by repeat (first | exact Drawn0.refl _ | apply Drawn0.step)⟩
   ·rw [if_neg c4] at H
    have c4b0 := decide_eq_false c4
    clear c4
    (first | rw [c4b0] | (simp only [i64_w, i32_w]; rw [c4b0]) | skip)
    have H' := Aside0.mk H
    clear H
    go_wp2
    go_meet
    case rel => exact ⟨_, (decide (a0 > 244)), sR, H', ⟨by first | omega | exact Nat.le_refl _⟩, by repeat (first | exact Drawn0.refl _ | apply Drawn0.step)⟩
  case rest =>
   clear HC3
   try clear c2
   try clear c2b0
   try clear p2
   try clear c4
   try clear c4b0
   obtain ⟨kq, x10_2, rfl, HA, HJ2, ⟨mc2, rfl⟩⟩ := hcut
   cases kq with
   | zero => exact absurd HA.out (by simp [tmesisref01_long.j0])
   | succ kj2 =>
    have H := HA.out
    clear HA
    simp only [tmesisref01_long.j0] at H
    by_cases c5 : x10_2 = true
    ·subst c5
     replace H := tP H
     obtain rfl := Option.some.inj H
     go_wp2
     go_ret
     exact ⟨by first | rfl | (simp; done) | (simp [*]; done), by repeat (first | exact Drawn0.refl _ | apply Drawn0.step)⟩
    ·replace c5 := Bool.eq_false_iff.mpr c5
     subst c5
     replace H := fP H
     by_cases c6 : a0 < 224
     ·rw [if_pos c6] at H
      have c6b0 := decide_eq_true c6
      clear c6
      obtain rfl := Option.some.inj H
      go_wp2
      go_ret
      exact ⟨by first | rfl | (simp; done) | (simp [*]; done), by repeat (first | exact Drawn0.refl _ | apply Drawn0.step)⟩
     ·rw [if_neg c6] at H
      have c6b0 := decide_eq_false c6
      clear c6
      by_cases c7 : a0 < 240
      ·rw [if_pos c7] at H
       have c7b0 := decide_eq_true c7
       clear c7
       obtain rfl := Option.some.inj H
       go_wp2
       go_ret
       exact ⟨by first | rfl | (simp; done) | (simp [*]; done), by repeat (first | exact Drawn0.refl _ | apply Drawn0.step)⟩
      ·rw [if_neg c7] at H
       have c7b0 := decide_eq_false c7
       clear c7
       obtain rfl := Option.some.inj H
       go_wp2
       go_ret
       exact ⟨by first | rfl | (simp; done) | (simp [*]; done), by repeat (first | exact Drawn0.refl _ | apply Drawn0.step)⟩
def tmesisref01_second.f (a0 : Int) (a1 : Int) : Option (Bool) := if a0 = 224 then (if a1 ≥ 160 then (some (decide (a1 ≤ 191))) else (some false)) else (if a0 = 237 then (if a1 ≥ 128 then (some (decide (a1 ≤ 159))) else (some false)) else (if a0 = 240 then (if a1 ≥ 144 then (some (decide (a1 ≤ 191))) else (some false)) else (if a0 = 244 then (if a1 ≥ 128 then (some (decide (a1 ≤ 143))) else (some false)) else (if a1 ≥ 128 then (some (decide (a1 ≤ 191))) else (some false)))))
set_option maxHeartbeats 8000000 in
set_option maxRecDepth 100000 in
theorem tmesisref01_second.calls (a0 : Int) (a1 : Int) (r : Bool) (w : World) (h : tmesisref01_second.f a0 a1 = some r) :
  Calls Tryd.prog 85 #[.int .u8 a0, .int .u8 a1] w fun e w' => e = .returned (.bool r) ∧ Drawn0 w w' := by
 have H : (if a0 = 224 then (if a1 ≥ 160 then (some (decide (a1 ≤ 191))) else (some false)) else (if a0 = 237 then (if a1 ≥ 128 then (some (decide (a1 ≤ 159))) else (some false)) else (if a0 = 240 then (if a1 ≥ 144 then (some (decide (a1 ≤ 191))) else (some false)) else (if a0 = 244 then (if a1 ≥ 128 then (some (decide (a1 ≤ 143))) else (some false)) else (if a1 ≥ 128 then (some (decide (a1 ≤ 191))) else (some false)))))) = some r := h
 clear h
 by_cases c3 : a0 = 224
 ·rw [if_pos c3] at H
  obtain ⟨c3b0, c3b1⟩ := eqB c3
  clear c3
  by_cases c4 : a1 ≥ 160
  ·rw [if_pos c4] at H
   have c4b0 : decide (160 ≤ a1) = true := decide_eq_true c4
   clear c4
   obtain rfl := Option.some.inj H
   go_enter Tryd.func85, Tryd.ntmps85
   go_wp2
   go_ret
   exact ⟨by first | rfl | (simp; done) | (simp [*]; done), by repeat (first | exact Drawn0.refl _ | apply Drawn0.step)⟩
  ·rw [if_neg c4] at H
   have c4b0 : decide (160 ≤ a1) = false := decide_eq_false c4
   clear c4
   obtain rfl := Option.some.inj H
   go_enter Tryd.func85, Tryd.ntmps85
   go_wp2
   go_ret
   exact ⟨by first | rfl | (simp; done) | (simp [*]; done), by repeat (first | exact Drawn0.refl _ | apply Drawn0.step)⟩
 ·rw [if_neg c3] at H
  obtain ⟨c3b0, c3b1⟩ := neB c3
  by_cases c5 : a0 = 237
  ·rw [if_pos c5] at H
   obtain ⟨c5b0, c5b1⟩ := eqB c5
   clear c5
   by_cases c6 : a1 ≥ 128
   ·rw [if_pos c6] at H
    have c6b0 : decide (128 ≤ a1) = true := decide_eq_true c6
    clear c6
    obtain rfl := Option.some.inj H
    go_enter Tryd.func85, Tryd.ntmps85
    go_wp2
    go_ret
    exact ⟨by first | rfl | (simp; done) | (simp [*]; done), by repeat (first | exact Drawn0.refl _ | apply Drawn0.step)⟩
   ·rw [if_neg c6] at H
    have c6b0 : decide (128 ≤ a1) = false := decide_eq_false c6
    clear c6
    obtain rfl := Option.some.inj H
    go_enter Tryd.func85, Tryd.ntmps85
    go_wp2
    go_ret
    exact ⟨by first | rfl | (simp; done) | (simp [*]; done), by repeat (first | exact Drawn0.refl _ | apply Drawn0.step)⟩
  ·rw [if_neg c5] at H
   obtain ⟨c5b0, c5b1⟩ := neB c5
   by_cases c7 : a0 = 240
   ·rw [if_pos c7] at H
    obtain ⟨c7b0, c7b1⟩ := eqB c7
    clear c7
    by_cases c8 : a1 ≥ 144
    ·rw [if_pos c8] at H
     have c8b0 : decide (144 ≤ a1) = true := decide_eq_true c8
     clear c8
     obtain rfl := Option.some.inj H
     go_enter Tryd.func85, Tryd.ntmps85
     go_wp2
     go_ret
     exact ⟨by first | rfl | (simp; done) | (simp [*]; done), by repeat (first | exact Drawn0.refl _ | apply Drawn0.step)⟩
    ·rw [if_neg c8] at H
     have c8b0 : decide (144 ≤ a1) = false := decide_eq_false c8
     clear c8
     obtain rfl := Option.some.inj H
     go_enter Tryd.func85, Tryd.ntmps85
     go_wp2
     go_ret
     exact ⟨by first | rfl | (simp; done) | (simp [*]; done), by repeat (first | exact Drawn0.refl _ | apply Drawn0.step)⟩
   ·rw [if_neg c7] at H
    obtain ⟨c7b0, c7b1⟩ := neB c7
    by_cases c9 : a0 = 244
    ·rw [if_pos c9] at H
     obtain ⟨c9b0, c9b1⟩ := eqB c9
     clear c9
     by_cases c10 : a1 ≥ 128
     ·rw [if_pos c10] at H
      have c10b0 : decide (128 ≤ a1) = true := decide_eq_true c10
      clear c10
      obtain rfl := Option.some.inj H
      go_enter Tryd.func85, Tryd.ntmps85
      go_wp2
      go_ret
      exact ⟨by first | rfl | (simp; done) | (simp [*]; done), by repeat (first | exact Drawn0.refl _ | apply Drawn0.step)⟩
     ·rw [if_neg c10] at H
      have c10b0 : decide (128 ≤ a1) = false := decide_eq_false c10
      clear c10
      obtain rfl := Option.some.inj H
      go_enter Tryd.func85, Tryd.ntmps85
      go_wp2
      go_ret
      exact ⟨by first | rfl | (simp; done) | (simp [*]; done), by repeat (first | exact Drawn0.refl _ | apply Drawn0.step)⟩
    ·rw [if_neg c9] at H
     obtain ⟨c9b0, c9b1⟩ := neB c9
     by_cases c11 : a1 ≥ 128
     ·rw [if_pos c11] at H
      have c11b0 : decide (128 ≤ a1) = true := decide_eq_true c11
      clear c11
      obtain rfl := Option.some.inj H
      go_enter Tryd.func85, Tryd.ntmps85
      go_wp2
      go_ret
      exact ⟨by first | rfl | (simp; done) | (simp [*]; done), by repeat (first | exact Drawn0.refl _ | apply Drawn0.step)⟩
     ·rw [if_neg c11] at H
      have c11b0 : decide (128 ≤ a1) = false := decide_eq_false c11
      clear c11
      obtain rfl := Option.some.inj H
      go_enter Tryd.func85, Tryd.ntmps85
      go_wp2
      go_ret
      exact ⟨by first | rfl | (simp; done) | (simp [*]; done), by repeat (first | exact Drawn0.refl _ | apply Drawn0.step)⟩
end Go.Proofs.YtpkklbdclghcfaaDoor.P
