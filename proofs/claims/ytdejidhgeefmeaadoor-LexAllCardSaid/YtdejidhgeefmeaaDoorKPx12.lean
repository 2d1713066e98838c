/- Part of the proof: what the theorem needs of this text. -/
import Derived.Test.YtdejidhgeefmeaaDoorKPx0
import Derived.Test.YtdejidhgeefmeaaDoorKPx11
namespace Go.Proofs.YtdejidhgeefmeaaDoor.P
open Go.RowKit Go.Proofs.YtdejidhgeefmeaaDoorW.PrintWords Go.Proofs.YtdejidhgeefmeaaDoorW.PrintLast Go.Proofs.YtdejidhgeefmeaaDoorW.PrintMore
attribute [local go_sem] max2_int min2_int max_two min_two max_three min_three max_four min_four   -- for this text's walks alone
set_option linter.unusedVariables false
set_option linter.unusedSimpArgs false
mutual
def tmesisref02_Of.j0 : Nat → Int → Bool → Option (Int)
 | 0, _, _ => none
 | k + 1, x0, x16 => if x16 = true then (some 1) else (if x0 ≥ 97 then (tmesisref02_Of.j1 k x0 (decide (x0 ≤ 122))) else (tmesisref02_Of.j1 k x0 false))
def tmesisref02_Of.j1 : Nat → Int → Bool → Option (Int)
 | 0, _, _ => none
 | k + 1, x0, x22 => if x22 = true then (some 2) else (if x0 ≥ 65 then (if x0 ≤ 90 then (tmesisref02_Of.j2 k x0 true) else (tmesisref02_Of.j2 k x0 (x0 == 95))) else (tmesisref02_Of.j2 k x0 (x0 == 95)))
def tmesisref02_Of.j2 : Nat → Int → Bool → Option (Int)
 | 0, _, _ => none
 | k + 1, x0, x32 => if x32 = true then (some 3) else (if x0 ≥ 48 then (tmesisref02_Of.j3 k x0 (decide (x0 ≤ 57))) else (tmesisref02_Of.j3 k x0 false))
def tmesisref02_Of.j3 : Nat → Int → Bool → Option (Int)
 | 0, _, _ => none
 | k + 1, x0, x38 => if x38 = true then (some 4) else ((tmesisref02_in.f k x0 (⟨#[43, 45, 42, 47, 92, 94, 60, 62, 61, 126, 58, 46, 63, 64, 35, 38, 36, 33]⟩ : ByteArray)).bind fun t264 => (if t264 = true then (some 5) else ((tmesisref02_in.f k x0 (⟨#[40, 41, 44, 124, 59, 91, 93, 123, 125]⟩ : ByteArray)).bind fun t265 => (if t265 = true then (some 6) else (if x0 = 39 then (some 7) else (if x0 = 37 then (some 8) else (if x0 ≥ 128 then (some 9) else (some 0))))))))
end
def tmesisref02_Of.f (k : Nat) (a0 : Int) : Option (Int) := if a0 = 9 then (tmesisref02_Of.j0 k a0 true) else (if a0 = 10 then (tmesisref02_Of.j0 k a0 true) else (if a0 = 13 then (tmesisref02_Of.j0 k a0 true) else (tmesisref02_Of.j0 k a0 (a0 == 32))))
theorem tmesisref02_Of.mono_l : ∀ k, (∀ y0 y1, LeO (tmesisref02_Of.j0 k y0 y1) (tmesisref02_Of.j0 (k + 1) y0 y1)) ∧ (∀ y0 y1, LeO (tmesisref02_Of.j1 k y0 y1) (tmesisref02_Of.j1 (k + 1) y0 y1)) ∧ (∀ y0 y1, LeO (tmesisref02_Of.j2 k y0 y1) (tmesisref02_Of.j2 (k + 1) y0 y1)) ∧ (∀ y0 y1, LeO (tmesisref02_Of.j3 k y0 y1) (tmesisref02_Of.j3 (k + 1) y0 y1))
 | 0 => ⟨fun _ _ r h => by simp [tmesisref02_Of.j0] at h, fun _ _ r h => by simp [tmesisref02_Of.j1] at h, fun _ _ r h => by simp [tmesisref02_Of.j2] at h, fun _ _ r h => by simp [tmesisref02_Of.j3] at h⟩
 | k + 1 => by
  obtain ⟨ih0, ih1, ih2, ih3⟩ := tmesisref02_Of.mono_l k
  refine ⟨?_, ?_, ?_, ?_⟩
  ·intro y0 y1
   unfold tmesisref02_Of.j0
   repeat' with_reducible first | exact ih0 _ _ | exact ih1 _ _ | exact ih2 _ _ | exact ih3 _ _ | exact tmesisref02_in.mono _ _ _ | exact LeO.refl _ | exact LeO.none _ | refine LeO.ite ?_ ?_ | refine LeO.bind ?_ (fun _ => ?_)
  ·intro y0 y1
   unfold tmesisref02_Of.j1
   repeat' with_reducible first | exact ih0 _ _ | exact ih1 _ _ | exact ih2 _ _ | exact ih3 _ _ | exact tmesisref02_in.mono _ _ _ | exact LeO.refl _ | exact LeO.none _ | refine LeO.ite ?_ ?_ | refine LeO.bind ?_ (fun _ => ?_)
  ·intro y0 y1
   unfold tmesisref02_Of.j2
   repeat' with_reducible first | exact ih0 _ _ | exact ih1 _ _ | exact ih2 _ _ | exact ih3 _ _ | exact tmesisref02_in.mono _ _ _ | exact LeO.refl _ | exact LeO.none _ | refine LeO.ite ?_ ?_ | refine LeO.bind ?_ (fun _ => ?_)
  ·intro y0 y1
   unfold tmesisref02_Of.j3
   repeat' with_reducible first | exact ih0 _ _ | exact ih1 _ _ | exact ih2 _ _ | exact ih3 _ _ | exact tmesisref02_in.mono _ _ _ | exact LeO.refl _ | exact LeO.none _ | refine LeO.ite ?_ ?_ | refine LeO.bind ?_ (fun _ => ?_)
theorem tmesisref02_Of.mono : ∀ a0 k, LeO (tmesisref02_Of.f k a0) (tmesisref02_Of.f (k + 1) a0) := by
 intro a0 k
 obtain ⟨ih0, ih1, ih2, ih3⟩ := tmesisref02_Of.mono_l k
 unfold tmesisref02_Of.f
 repeat' with_reducible first | exact ih0 _ _ | exact ih1 _ _ | exact ih2 _ _ | exact ih3 _ _ | exact tmesisref02_in.mono _ _ _ | exact LeO.refl _ | exact LeO.none _ | refine LeO.ite ?_ ?_ | refine LeO.bind ?_ (fun _ => ?_)
set_option maxHeartbeats 8000000 in
set_option maxRecDepth 100000 in
theorem tmesisref02_Of.calls (k : Nat) (a0 : Int) (r : Int) (w : World) (h : tmesisref02_Of.f k a0 = some r) :
  Calls Tryd.prog 47 #[.int .u8 a0] w fun e w' => e = .returned (.int .i64 r) ∧ Drawn0 w w' := by
 have H : (if a0 = 9 then (tmesisref02_Of.j0 k a0 true) else (if a0 = 10 then (tmesisref02_Of.j0 k a0 true) else (if a0 = 13 then (tmesisref02_Of.j0 k a0 true) else (tmesisref02_Of.j0 k a0 (a0 == 32))))) = some r := h
 clear h
 have HC2 := Aside0.mk H
 clear H
 go_enter Tryd.func47, Tryd.ntmps47
 go_upto_region 1 with (fail)
 go_cut [16] (fun v16 wc => ∃ (kq : Nat) (x16_1 : Bool), v16 = .bool x16_1 ∧ Aside0 (tmesisref02_Of.j0 kq a0 x16_1 = some r) ∧ Aside0 (kq ≤ k) ∧ Drawn0 w wc)
 case first =>
  have H := HC2.out
  clear HC2
  by_cases c3 : a0 = 9
  ·rw [if_pos c3] at H
   obtain ⟨c3b0, c3b1⟩ := eqB c3
   clear c3
   (first | rw [c3b0] | (simp only [i64_w, i32_w]; rw [c3b0]) | skip)
   have H' := Aside0.mk H
   clear H
   go_wp2
   go_meet
   case rel => exact ⟨_, (true), sR, H', ⟨by first | omega | exact Nat.le_refl _⟩, by repeat (first | exact Drawn0.refl _ | apply Drawn0.step)⟩
  ·rw [if_neg c3] at H
   obtain ⟨c3b0, c3b1⟩ := neB c3
   (first | rw [c3b0] | (simp only [i64_w, i32_w]; rw [c3b0]) | skip)
   by_cases c4 : a0 = 10
   ·rw [if_pos c4] at H
    obtain ⟨c4b0, c4b1⟩ := eqB c4
    clear c4
    have H' := Aside0.mk H
    clear H
    go_wp2
    go_meet
    case rel => exact ⟨_, (true), sR, H', ⟨by first | omega | exact Nat.le_refl _⟩, by repeat (first | exact Drawn0.refl _ | apply Drawn0.step)⟩
   ·rw [if_neg c4] at H
    obtain ⟨c4b0, c4b1⟩ := neB c4
    by_cases c5 : a0 = 13
    ·rw [if_pos c5] at H
     obtain ⟨c5b0, c5b1⟩ := eqB c5
     clear c5
     have H' := Aside0.mk H
     clear H
     go_wp2
     go_meet
     case rel => exact ⟨_, (true), sR, H', ⟨by first | omega | exact Nat.le_refl _⟩, by repeat (first | exact Drawn0.refl _ | apply Drawn0.step)⟩
    ·rw [if_neg c5] at H
     obtain ⟨c5b0, c5b1⟩ := neB c5
     have H' := Aside0.mk H
     clear H
     go_wp2
     go_meet
     case rel => exact ⟨_, ((a0 == 32)), sR, H', ⟨by first | omega | exact Nat.le_refl _⟩, by repeat (first | exact Drawn0.refl _ | apply Drawn0.step)⟩
 case rest =>
  clear HC2
  try clear p2
  try clear c3
  try clear c3b0 c3b1
  try clear c4
  try clear c4b0 c4b1
  try clear c5
  try clear c5b0 c5b1
  obtain ⟨kq, x16_1, rfl, HA, HJ1, ⟨mc1, rfl⟩⟩ := hcut
  cases kq with
  | zero => exact absurd HA.out (by simp [tmesisref02_Of.j0])
  | succ kj1 =>
   have H := HA.out
   clear HA
   simp only [tmesisref02_Of.j0] at H
   by_cases c6 : x16_1 = true
   ·subst c6
    replace H := tP H
    obtain rfl := Option.some.inj H
    go_wp2
    go_ret
    exact ⟨by first | rfl | (simp; done) | (simp [*]; done), by repeat (first | exact Drawn0.refl _ | apply Drawn0.step)⟩
   ·replace c6 := Bool.eq_false_iff.mpr c6
    subst c6
    replace H := fP H
    have HC7 := Aside0.mk H
    clear H
    go_upto_region 3 with (fail)
    go_cut [22] (fun v22 wc => ∃ (kq : Nat) (x22_6 : Bool), v22 = .bool x22_6 ∧ Aside0 (tmesisref02_Of.j1 kq a0 x22_6 = some r) ∧ Aside0 (kq ≤ kj1) ∧ Drawn0 w wc)
    case first =>
     have H := HC7.out
     clear HC7
     by_cases c8 : a0 ≥ 97
     ·rw [if_pos c8] at H
      have c8b0 : decide (97 ≤ a0) = true := decide_eq_true c8
      clear c8
      (first | rw [c8b0] | (simp only [i64_w, i32_w]; rw [c8b0]) | skip)
      have H' := Aside0.mk H
      clear H
      go_wp2
      go_meet
      case rel => exact ⟨_, (decide (a0 ≤ 122)), sR, H', ⟨by have := HJ1.out; first | omega | exact Nat.le_refl _⟩, by repeat (first | exact Drawn0.refl _ | apply Drawn0.step)⟩
     ·rw [if_neg c8] at H
      have c8b0 : decide (97 ≤ a0) = false := decide_eq_false c8
      clear c8
      (first | rw [c8b0] | (simp only [i64_w, i32_w]; rw [c8b0]) | skip)
      have H' := Aside0.mk H
      clear H
      go_wp2
      go_meet
      case rel => exact ⟨_, (false), sR, H', ⟨by have := HJ1.out; first | omega | exact Nat.le_refl _⟩, by repeat (first | exact Drawn0.refl _ | apply Drawn0.step)⟩
    case rest =>
     clear HC7
     try clear c1
     try clear p2
     try clear c3
     try clear c3b0 c3b1
     try clear c4
     try clear c4b0 c4b1
     try clear c5
     try clear c5b0 c5b1
     try clear c6
     try clear c8
     try clear c8b0
     try clear p2
     obtain ⟨kq, x22_6, rfl, HA, HJ6, ⟨mc6, rfl⟩⟩ := hcut
     cases kq with
     | zero => exact absurd HA.out (by simp [tmesisref02_Of.j1])
     | succ kj6 =>
      have H := HA.out
      clear HA
      simp only [tmesisref02_Of.j1] at H
      by_cases c9 : x22_6 = true
      ·subst c9
       replace H := tP H
       obtain rfl := Option.some.inj H
       go_wp2
       go_ret
       exact ⟨by first | rfl | (simp; done) | (simp [*]; done), by repeat (first | exact Drawn0.refl _ | apply Drawn0.step)⟩
      ·replace c9 := Bool.eq_false_iff.mpr c9
       subst c9
       replace H := fP H
       have HC10 := Aside0.mk H
       clear H
       go_upto_region 5 with (fail)
       go_cut [32] (fun v32 wc => ∃ (kq : Nat) (x32_9 : Bool), v32 = .bool x32_9 ∧ Aside0 (tmesisref02_Of.j2 kq a0 x32_9 = some r) ∧ Aside0 (kq ≤ kj6) ∧ Drawn0 w wc)
       case first =>
        have H := HC10.out
        clear HC10
        by_cases c11 : a0 ≥ 65
        ·rw [if_pos c11] at H
         have c11b0 : decide (65 ≤ a0) = true := decide_eq_true c11
         clear c11
         (first | rw [c11b0] | (simp only [i64_w, i32_w]; rw [c11b0]) | skip)
         by_cases c12 : a0 ≤ 90
         ·rw [if_pos c12] at H
          have c12b0 := decide_eq_true c12
          clear c12
          have H' := Aside0.mk H
          clear H
          go_wp2
          go_meet
          case rel => exact ⟨_, (true), sR, H', ⟨by have := HJ1.out; have := HJ6.out; first | omega | exact Nat.le_refl _⟩, by repeat (first | exact Drawn0.refl _ | apply Drawn0.step)⟩
         ·rw [if_neg c12] at H
          have c12b0 := decide_eq_false c12
          clear c12
          have H' := Aside0.mk H
          clear H
          go_wp2
          go_meet
          case rel => exact ⟨_, ((a0 == 95)), sR, H', ⟨by have := HJ1.out; have := HJ6.out; first | omega | exact Nat.le_refl _⟩, by repeat (first | exact Drawn0.refl _ | apply Drawn0.step)⟩
        ·rw [if_neg c11] at H
         have c11b0 : decide (65 ≤ a0) = false := decide_eq_false c11
         clear c11
         (first | rw [c11b0] | (simp only [i64_w, i32_w]; rw [c11b0]) | skip)
         have H' := Aside0.mk H
         clear H
         go_wp2
         go_meet
         case rel => exact ⟨_, ((a0 == 95)), sR, H', ⟨by have := HJ1.out; have := HJ6.out; first | omega | exact Nat.le_refl _⟩, by repeat (first | exact Drawn0.refl _ | apply Drawn0.step)⟩
       case rest =>
        clear HC10
        try clear c1
        try clear p2
        try clear c3
        try clear c3b0 c3b1
        try clear c4
        try clear c4b0 c4b1
        try clear c5
        try clear c5b0 c5b1
        try clear c6
        try clear c8
        try clear c8b0
        try clear c9
        try clear c11
        try clear c11b0
        try clear c12
        try clear c12b0
        try clear p2
        obtain ⟨kq, x32_9, rfl, HA, HJ9, ⟨mc9, rfl⟩⟩ := hcut
        cases kq with
        | zero => exact absurd HA.out (by simp [tmesisref02_Of.j2])
        | succ kj9 =>
         have H := HA.out
         clear HA
         simp only [tmesisref02_Of.j2] at H
         by_cases c13 : x32_9 = true
         ·subst c13
          replace H := tP H
          obtain rfl := Option.some.inj H
          go_wp2
          go_ret
          exact ⟨by first | rfl | (simp; done) | (simp [*]; done), by repeat (first | exact Drawn0.refl _ | apply Drawn0.step)⟩
         ·replace c13 := Bool.eq_false_iff.mpr c13
          subst c13
          replace H := fP H
          have HC14 := Aside0.mk H
          clear H
          go_upto_region 7 with (fail)
          go_cut [38] (fun v38 wc => ∃ (kq : Nat) (x38_13 : Bool), v38 = .bool x38_13 ∧ Aside0 (tmesisref02_Of.j3 kq a0 x38_13 = some r) ∧ Aside0 (kq ≤ kj9) ∧ Drawn0 w wc)
          case first =>
           have H := HC14.out
           clear HC14
           by_cases c15 : a0 ≥ 48
           ·rw [if_pos c15] at H
            have c15b0 : decide (48 ≤ a0) = true := decide_eq_true c15
            clear c15
            (first | rw [c15b0] | (simp only [i64_w, i32_w]; rw [c15b0]) | skip)
            have H' := Aside0.mk H
            clear H
            go_wp2
            go_meet
            case rel => exact ⟨_, (decide (a0 ≤ 57)), sR, H', ⟨by have := HJ1.out; have := HJ6.out; have := HJ9.out; first | omega | exact Nat.le_refl _⟩, by repeat (first | exact Drawn0.refl _ | apply Drawn0.step)⟩
           ·rw [if_neg c15] at H
            have c15b0 : decide (48 ≤ a0) = false := decide_eq_false c15
            clear c15
            (first | rw [c15b0] | (simp only [i64_w, i32_w]; rw [c15b0]) | skip)
            have H' := Aside0.mk H
            clear H
            go_wp2
            go_meet
            case rel => exact ⟨_, (false), sR, H', ⟨by have := HJ1.out; have := HJ6.out; have := HJ9.out; first | omega | exact Nat.le_refl _⟩, by repeat (first | exact Drawn0.refl _ | apply Drawn0.step)⟩
          case rest =>
           clear HC14
           try clear c1
           try clear p2
           try clear c3
           try clear c3b0 c3b1
           try clear c4
           try clear c4b0 c4b1
           try clear c5
           try clear c5b0 c5b1
           try clear c6
           try clear c8
           try clear c8b0
           try clear c9
           try clear c11
           try clear c11b0
           try clear c12
           try clear c12b0
           try clear c13
           try clear c15
           try clear c15b0
           try clear p2
           obtain ⟨kq, x38_13, rfl, HA, HJ13, ⟨mc13, rfl⟩⟩ := hcut
           cases kq with
           | zero => exact absurd HA.out (by simp [tmesisref02_Of.j3])
           | succ kj13 =>
            have H := HA.out
            clear HA
            simp only [tmesisref02_Of.j3] at H
            by_cases c16 : x38_13 = true
            ·subst c16
             replace H := tP H
             obtain rfl := Option.some.inj H
             go_wp2
             go_ret
             exact ⟨by first | rfl | (simp; done) | (simp [*]; done), by repeat (first | exact Drawn0.refl _ | apply Drawn0.step)⟩
            ·replace c16 := Bool.eq_false_iff.mpr c16
             subst c16
             replace H := fP H
             obtain ⟨t264, A17, H⟩ := bE H
             by_cases c18 : t264 = true
             ·subst c18
              replace H := tP H
              obtain rfl := Option.some.inj H
              go_wp2_with (first | ((with_reducible refine gate_callee (f := 64) rfl ?_); refine gL (some 40) Tryd.func64 #[.int .u8 a0, .string (⟨#[43, 45, 42, 47, 92, 94, 60, 62, 61, 126, 58, 46, 63, 64, 35, 38, 36, 33]⟩ : ByteArray)] rfl gA ?_; (with_reducible refine (tmesisref02_in.calls kj13 a0 (⟨#[43, 45, 42, 47, 92, 94, 60, 62, 61, 126, 58, 46, 63, 64, 35, 38, 36, 33]⟩ : ByteArray) true _ A17.out).mono ?_); rintro e w' ⟨rfl, ⟨nd, rfl⟩⟩; refine ⟨_, rfl, ?_⟩))
              go_ret
              exact ⟨by first | rfl | (simp; done) | (simp [*]; done), by repeat (first | exact Drawn0.refl _ | apply Drawn0.step)⟩
             ·replace c18 := Bool.eq_false_iff.mpr c18
              subst c18
              replace H := fP H
              obtain ⟨t265, A19, H⟩ := bE H
              by_cases c20 : t265 = true
              ·subst c20
               replace H := tP H
               obtain rfl := Option.some.inj H
               go_wp2_with (first | ((with_reducible refine gate_callee (f := 64) rfl ?_); refine gL (some 40) Tryd.func64 #[.int .u8 a0, .string (⟨#[43, 45, 42, 47, 92, 94, 60, 62, 61, 126, 58, 46, 63, 64, 35, 38, 36, 33]⟩ : ByteArray)] rfl gA ?_; (with_reducible refine (tmesisref02_in.calls kj13 a0 (⟨#[43, 45, 42, 47, 92, 94, 60, 62, 61, 126, 58, 46, 63, 64, 35, 38, 36, 33]⟩ : ByteArray) false _ A17.out).mono ?_); rintro e w' ⟨rfl, ⟨nd, rfl⟩⟩; refine ⟨_, rfl, ?_⟩) | ((with_reducible refine gate_callee (f := 64) rfl ?_); refine gL (some 42) Tryd.func64 #[.int .u8 a0, .string (⟨#[40, 41, 44, 124, 59, 91, 93, 123, 125]⟩ : ByteArray)] rfl gA ?_; (with_reducible refine (tmesisref02_in.calls kj13 a0 (⟨#[40, 41, 44, 124, 59, 91, 93, 123, 125]⟩ : ByteArray) true _ A19.out).mono ?_); rintro e w' ⟨rfl, ⟨nd, rfl⟩⟩; refine ⟨_, rfl, ?_⟩))
               go_ret
               exact ⟨by first | rfl | (simp; done) | (simp [*]; done), by repeat (first | exact Drawn0.refl _ | apply Drawn0.step)⟩
              ·replace c20 := Bool.eq_false_iff.mpr c20
               subst c20
               replace H := fP H
               by_cases c21 : a0 = 39
               ·rw [if_pos c21] at H
                obtain ⟨c21b0, c21b1⟩ := eqB c21
                clear c21
                obtain rfl := Option.some.inj H
                go_wp2_with (first | ((with_reducible refine gate_callee (f := 64) rfl ?_); refine gL (some 40) Tryd.func64 #[.int .u8 a0, .string (⟨#[43, 45, 42, 47, 92, 94, 60, 62, 61, 126, 58, 46, 63, 64, 35, 38, 36, 33]⟩ : ByteArray)] rfl gA ?_; (with_reducible refine (tmesisref02_in.calls kj13 a0 (⟨#[43, 45, 42, 47, 92, 94, 60, 62, 61, 126, 58, 46, 63, 64, 35, 38, 36, 33]⟩ : ByteArray) false _ A17.out).mono ?_); rintro e w' ⟨rfl, ⟨nd, rfl⟩⟩; refine ⟨_, rfl, ?_⟩) | ((with_reducible refine gate_callee (f := 64) rfl ?_); refine gL (some 42) Tryd.func64 #[.int .u8 a0, .string (⟨#[40, 41, 44, 124, 59, 91, 93, 123, 125]⟩ : ByteArray)] rfl gA ?_; (with_reducible refine (tmesisref02_in.calls kj13 a0 (⟨#[40, 41, 44, 124, 59, 91, 93, 123, 125]⟩ : ByteArray) false _ A19.out).mono ?_); rintro e w' ⟨rfl, ⟨nd, rfl⟩⟩; refine ⟨_, rfl, ?_⟩))
                go_ret
                exact ⟨by first | rfl | (simp; done) | (simp [*]; done), by repeat (first | exact Drawn0.refl _ | apply Drawn0.step)⟩
               ·rw [if_neg c21] at H
                obtain ⟨c21b0, c21b1⟩ := neB c21
                by_cases c22 : a0 = 37
                ·rw [if_pos c22] at H
                 obtain ⟨c22b0, c22b1⟩ := eqB c22
                 clear c22
                 obtain rfl := Option.some.inj H
                 go_wp2_with (first | ((with_reducible refine gate_callee (f := 64) rfl ?_); refine gL (some 40) Tryd.func64 #[.int .u8 a0, .string (⟨#[43, 45, 42, 47, 92, 94, 60, 62, 61, 126, 58, 46, 63, 64, 35, 38, 36, 33]⟩ : ByteArray)] rfl gA ?_; (with_reducible refine (tmesisref02_in.calls kj13 a0 (⟨#[43, 45, 42, 47, 92, 94, 60, 62, 61, 126, 58, 46, 63, 64, 35, 38, 36, 33]⟩ : ByteArray) false _ A17.out).mono ?_); rintro e w' ⟨rfl, ⟨nd, rfl⟩⟩; refine ⟨_, rfl, ?_⟩) | ((with_reducible refine gate_callee (f := 64) rfl ?_); refine gL (some 42) Tryd.func64 #[.int .u8 a0, .string (⟨#[40, 41, 44, 124, 59, 91, 93, 123, 125]⟩ : ByteArray)] rfl gA ?_; (with_reducible refine (tmesisref02_in.calls kj13 a0 (⟨#[40, 41, 44, 124, 59, 91, 93, 123, 125]⟩ : ByteArray) false _ A19.out).mono ?_); rintro e w' ⟨rfl, ⟨nd, rfl⟩⟩; refine ⟨_, rfl, ?_⟩))
                 go_ret
                 exact ⟨by first | rfl | (simp; done) | (simp [*]; done), by repeat (first | exact Drawn0.refl _ | apply Drawn0.step)⟩
                ·rw [if_neg c22] at H
                 obtain ⟨c22b0, c22b1⟩ := neB c22
                 by_cases c23 : a0 ≥ 128
                 ·rw [if_pos c23] at H
                  have c23b0 : decide (128 ≤ a0) = true := decide_eq_true c23
                  clear c23
                  obtain rfl := Option.some.inj H
                  go_wp2_with (first | ((with_reducible refine gate_callee (f := 64) rfl ?_); refine gL (some 40) Tryd.func64 #[.int .u8 a0, .string (⟨#[43, 45, 42, 47, 92, 94, 60, 62, 61, 126, 58, 46, 63, 64, 35, 38, 36, 33]⟩ : ByteArray)] rfl gA ?_; (with_reducible refine (tmesisref02_in.calls kj13 a0 (⟨#[43, 45, 42, 47, 92, 94, 60, 62, 61, 126, 58, 46, 63, 64, 35, 38, 36, 33]⟩ : ByteArray) false _ A17.out).mono ?_); rintro e w' ⟨rfl, ⟨nd, rfl⟩⟩; refine ⟨_, rfl, ?_⟩) | ((with_reducible refine gate_callee (f := 64) rfl ?_); refine gL (some 42) Tryd.func64 #[.int .u8 a0, .string (⟨#[40, 41, 44, 124, 59, 91, 93, 123, 125]⟩ : ByteArray)] rfl gA ?_; (with_reducible refine (tmesisref02_in.calls kj13 a0 (⟨#[40, 41, 44, 124, 59, 91, 93, 123, 125]⟩ : ByteArray) false _ A19.out).mono ?_); rintro e w' ⟨rfl, ⟨nd, rfl⟩⟩; refine ⟨_, rfl, ?_⟩))
                  go_ret
                  exact ⟨by first | rfl | (simp; done) | (simp [*]; done), by repeat (first | exact Drawn0.refl _ | apply Drawn0.step)⟩
                 ·rw [if_neg c23] at H
                  have c23b0 : decide (128 ≤ a0) = false := decide_eq_false c23
                  clear c23
                  obtain rfl := Option.some.inj H
                  go_wp2_with (first | ((with_reducible refine gate_callee (f := 64) rfl ?_); refine gL (some 40) Tryd.func64 #[.int .u8 a0, .string (⟨#[43, 45, 42, 47, 92, 94, 60, 62, 61, 126, 58, 46, 63, 64, 35, 38, 36, 33]⟩ : ByteArray)] rfl gA ?_; (with_reducible refine (tmesisref02_in.calls kj13 a0 (⟨#[43, 45, 42, 47, 92, 94, 60, 62, 61, 126, 58, 46, 63, 64, 35, 38, 36, 33]⟩ : ByteArray) false _ A17.out).mono ?_); rintro e w' ⟨rfl, ⟨nd, rfl⟩⟩; refine ⟨_, rfl, ?_⟩) | ((with_reducible refine gate_callee (f := 64) rfl ?_); refine gL (some 42) Tryd.func64 #[.int .u8 a0, .string (⟨#[40, 41, 44, 124, 59, 91, 93, 123, 125]⟩ : ByteArray)] rfl gA ?_; (with_reducible refine (tmesisref02_in.calls kj13 a0 (⟨#[40, 41, 44, 124, 59, 91, 93, 123, 125]⟩ : ByteArray) false _ A19.out).mono ?_); rintro e w' ⟨rfl, ⟨nd, rfl⟩⟩; refine ⟨_, rfl, ?_⟩))
                  go_ret
                  exact ⟨by first | rfl | (simp; done) | (simp [*]; done), by repeat (first | exact Drawn0.refl _ | apply Drawn0.step)⟩
def tmesisref05_pair.f (l0 : List Int) (a1 : Int) (a2 : ByteArray) : Option (Bool) := if (wrap64 (a1 + 2)) ≤ (l0.length : Int) then (if 0 ≤ a1 then (if a1 ≤ (wrap64 (a1 + 2)) then (some ((strOfNums ((l0.take ((wrap64 (a1 + 2)) : Int).toNat).drop (a1 : Int).toNat)).toList == a2.toList)) else (none)) else (none)) else (some false)
set_option maxHeartbeats 8000000 in
set_option maxRecDepth 100000 in
theorem tmesisref05_pair.calls (A0 : Option Addr) (c0 : Nat) (l0 : List Int) (a1 : Int) (a2 : ByteArray) (r : Bool) (w : World) (hr0 : Kd.C (Kd.int .u8) w A0 l0.length l0) (hc0 : l0.length ≤ c0) (h : tmesisref05_pair.f l0 a1 a2 = some r) :
  Calls Tryd.prog 48 #[.slice A0 l0.length c0, .int .i64 a1, .string a2] w fun e w' => e = .returned (.bool r) ∧ Drawn0 w w' := by
 have HR0 := Aside0.mk hr0
 have HC0 := Aside0.mk hc0
 clear hr0 hc0
 have H : (if (wrap64 (a1 + 2)) ≤ (l0.length : Int) then (if 0 ≤ a1 then (if a1 ≤ (wrap64 (a1 + 2)) then (some ((strOfNums ((l0.take ((wrap64 (a1 + 2)) : Int).toNat).drop (a1 : Int).toNat)).toList == a2.toList)) else (none)) else (none)) else (some false)) = some r := h
 clear h
 by_cases c4 : (wrap64 (a1 + 2)) ≤ (l0.length : Int)
 ·rw [if_pos c4] at H
  have c4b0 := decide_eq_true c4
  clear c4
  by_cases c5 : 0 ≤ a1
  ·rw [if_pos c5] at H
   have c5b0 := eq_true c5
   have c5b1 := decide_eq_true c5
   clear c5
   by_cases c6 : a1 ≤ (wrap64 (a1 + 2))
   ·rw [if_pos c6] at H
    have c6b0 := eq_true c6
    have c6b1 := decide_eq_true c6
    have c7b0 := eq_true (dt : (wrap64 (a1 + 2)) ≤ (l0.length : Int))
    obtain rfl := Option.some.inj H
    obtain ⟨i08, hi08, _, hsz8, _⟩ := info_parts info5
    obtain ⟨A8, hcut8, hA8, hC8⟩ := print_mid_of (P := Tryd.prog) (Value.int .u8) 0 22 5 .i64 .i64 Tryd.underlying22 hi08 hsz8 A0 c0 l0 a1 (wrap64 (a1 + 2)) dt (by first | omega | exact dt) dt HC0.out
    have HR266 := Aside0.mk (Kd.C_of_reads (h1 := fun _ => rfl) (hA8 _ (Kd.reads_of_C HR0.out)))
    have HC266 := Aside0.mk hC8
    clear hA8 hC8 hi08 hsz8
    have hcv9 := Kd.C_string (P := Tryd.prog) (A := A8) (c := (c0 - a1.toNat)) Tryd.underlying22 Tryd.underlying5 Tryd.underlying9 HR266.out
    have hcv9z := hcv9
    (try rw [List.length_drop, List.length_take, Nat.min_eq_left (Int.toNat_le.mpr dt)] at hcv9z)
    have hcv9y := hcv9
    (try rw [List.length_take, Nat.min_eq_left (Int.toNat_le.mpr dt)] at hcv9y)
    have hcv9x := hcv9
    (try rw [List.length_take, mM] at hcv9x)
    have hcv9m := hcv9
    (try simp only [Int.reduceToNat, List.length_take] at hcv9m)
    have hcv9q := fun (q_ : Nat) => Kd.C_string (P := Tryd.prog) (A := A8) (c := (c0 - a1.toNat)) Tryd.underlying22 Tryd.underlying5 Tryd.underlying9 (Kd.C_drewN HR266.out q_)
    have hcv9qy := hcv9q
    (try simp only [List.length_take, Nat.min_eq_left (Int.toNat_le.mpr dt)] at hcv9qy)
    have hcv9qw := hcv9q
    (try simp only [Int.reduceToNat] at hcv9qw)
    have hcv9qv := hcv9qy
    (try simp only [Int.reduceToNat] at hcv9qv)
    have hcv9qu := hcv9q
    (try simp only [Int.reduceToNat, List.length_take] at hcv9qu)
    go_enter Tryd.func48, Tryd.ntmps48
    go_wp2
    go_ret
    exact ⟨by first | rfl | (simp; done) | (simp [*]; done), by repeat (first | exact Drawn0.refl _ | apply Drawn0.step)⟩
   ·exact nB H c6
  ·exact nB H c5
 ·rw [if_neg c4] at H
  have c4b0 := decide_eq_false c4
  clear c4
  obtain rfl := Option.some.inj H
  go_enter Tryd.func48, Tryd.ntmps48
  go_wp2
  go_ret
  exact ⟨by first | rfl | (simp; done) | (simp [*]; done), by repeat (first | exact Drawn0.refl _ | apply Drawn0.step)⟩
def tmesisref05_comment.l0 : Nat → List Int → Int → Int → Option (Int)
 | 0, _, _, _ => none
 | k + 1, x0, x1, x5 => if x1 < (x0.length : Int) then ((tmesisref05_pair.f x0 x1 (⟨#[47, 42]⟩ : ByteArray)).bind fun t267 => (if t267 = true then (tmesisref05_comment.l0 k x0 (wrap64 (x1 + 2)) (wrap64 (x5 + 1))) else ((tmesisref05_pair.f x0 x1 (⟨#[42, 47]⟩ : ByteArray)).bind fun t268 => (if t268 = true then (if (wrap64 (x5 - 1)) = 0 then (some (wrap64 (x1 + 2))) else (tmesisref05_comment.l0 k x0 (wrap64 (x1 + 2)) (wrap64 (x5 - 1)))) else (tmesisref05_comment.l0 k x0 (wrap64 (x1 + 1)) x5))))) else (some (-1))
def tmesisref05_comment.f (k : Nat) (l0 : List Int) (a1 : Int) : Option (Int) := tmesisref05_comment.l0 k l0 a1 0
theorem tmesisref05_comment.mono_l : ∀ k, (∀ y0 y1 y2, LeO (tmesisref05_comment.l0 k y0 y1 y2) (tmesisref05_comment.l0 (k + 1) y0 y1 y2))
 | 0 => fun _ _ _ r h => by simp [tmesisref05_comment.l0] at h
 | k + 1 => by
  have ih0 := tmesisref05_comment.mono_l k
  ·intro y0 y1 y2
   unfold tmesisref05_comment.l0
   repeat' with_reducible first | exact ih0 _ _ _ | exact LeO.refl _ | exact LeO.none _ | refine LeO.ite ?_ ?_ | refine LeO.bind ?_ (fun _ => ?_)
theorem tmesisref05_comment.mono : ∀ a0 a1 k, LeO (tmesisref05_comment.f k a0 a1) (tmesisref05_comment.f (k + 1) a0 a1) := by
 intro a0 a1 k
 have ih0 := tmesisref05_comment.mono_l k
 unfold tmesisref05_comment.f
 repeat' with_reducible first | exact ih0 _ _ _ | exact LeO.refl _ | exact LeO.none _ | refine LeO.ite ?_ ?_ | refine LeO.bind ?_ (fun _ => ?_)
set_option maxHeartbeats 8000000 in
set_option maxRecDepth 100000 in
theorem tmesisref05_comment.calls (k : Nat) (A0 : Option Addr) (c0 : Nat) (l0 : List Int) (a1 : Int) (r : Int) (w : World) (hr0 : Kd.C (Kd.int .u8) w A0 l0.length l0) (hc0 : l0.length ≤ c0) (h : tmesisref05_comment.f k l0 a1 = some r) :
  Calls Tryd.prog 49 #[.slice A0 l0.length c0, .int .i64 a1] w fun e w' => e = .returned (.int .i64 r) ∧ Drawn0 w w' := by
 have HR0 := Aside0.mk hr0
 have HC0 := Aside0.mk hc0
 clear hr0 hc0
 have H : (tmesisref05_comment.l0 k l0 a1 0) = some r := h
 clear h
 have H' := Aside0.mk H
 clear H
 go_enter Tryd.func49, Tryd.ntmps49
 go_wp2
 go_loopg [1, 5] k (fun kq v1 v5 w' => ∃ (x1_1 : Int) (x5_1 : Int), v1 = .int .i64 x1_1 ∧ v5 = .int .i64 x5_1 ∧ Aside0 (tmesisref05_comment.l0 kq l0 x1_1 x5_1 = some r) ∧ Aside0 (kq ≤ k) ∧ Drawn0 w w')
 case atStart => exact ⟨(a1), (0), sR, sR, H', ⟨Nat.le_refl _⟩, by repeat (first | exact Drawn0.refl _ | apply Drawn0.step)⟩
 case round =>
  clear H'
  try clear p2
  obtain ⟨x1_1, x5_1, rfl, rfl, HA, HK1, ⟨m1, rfl⟩⟩ := hrel
  cases gk with
  | zero => exact absurd HA.out (by simp [tmesisref05_comment.l0])
  | succ k1 =>
   have H := HA.out
   clear HA
   simp only [tmesisref05_comment.l0] at H
   by_cases c3 : x1_1 < (l0.length : Int)
   ·rw [if_pos c3] at H
    have c3b0 := decide_eq_true c3
    clear c3
    obtain ⟨t267, A4, H⟩ := bE H
    by_cases c5 : t267 = true
    ·subst c5
     replace H := tP H
     have H' := Aside0.mk H
     clear H
     go_wp2_with (first | ((with_reducible refine gate_callee (f := 48) rfl ?_); refine gL (some 12) Tryd.func48 #[.slice A0 l0.length c0, .int .i64 x1_1, .string (⟨#[47, 42]⟩ : ByteArray)] rfl gA ?_; (with_reducible refine (tmesisref05_pair.calls _ _ l0 x1_1 (⟨#[47, 42]⟩ : ByteArray) true _ ?side1 ?side2 A4.out).mono ?_); (case side1 => exact CAt HR0.out); (case side2 => exact HC0.out); rintro e w' ⟨rfl, ⟨nd, rfl⟩⟩; refine ⟨_, rfl, ?_⟩))
     go_roundg k1
     case measure => have := HK1.out; omega
     case rel => exact ⟨(wrap64 (x1_1 + 2)), (wrap64 (x5_1 + 1)), sR, sR, H', ⟨by have := HK1.out; omega⟩, by repeat (first | exact Drawn0.refl _ | apply Drawn0.step)⟩
    ·replace c5 := Bool.eq_false_iff.mpr c5
     subst c5
     replace H := fP H
     obtain ⟨t268, A6, H⟩ := bE H
     by_cases c7 : t268 = true
     ·subst c7
      replace H := tP H
      by_cases c8 : (wrap64 (x5_1 - 1)) = 0
      ·rw [if_pos c8] at H
       obtain ⟨c8b0, c8b1⟩ := eqB c8
       clear c8
       obtain rfl := Option.some.inj H
       go_wp2_with (first | ((with_reducible refine gate_callee (f := 48) rfl ?_); refine gL (some 12) Tryd.func48 #[.slice A0 l0.length c0, .int .i64 x1_1, .string (⟨#[47, 42]⟩ : ByteArray)] rfl gA ?_; (with_reducible refine (tmesisref05_pair.calls _ _ l0 x1_1 (⟨#[47, 42]⟩ : ByteArray) false _ ?side1 ?side2 A4.out).mono ?_); (case side1 => exact CAt HR0.out); (case side2 => exact HC0.out); rintro e w' ⟨rfl, ⟨nd, rfl⟩⟩; refine ⟨_, rfl, ?_⟩) | ((with_reducible refine gate_callee (f := 48) rfl ?_); refine gL (some 19) Tryd.func48 #[.slice A0 l0.length c0, .int .i64 x1_1, .string (⟨#[42, 47]⟩ : ByteArray)] rfl gA ?_; (with_reducible refine (tmesisref05_pair.calls _ _ l0 x1_1 (⟨#[42, 47]⟩ : ByteArray) true _ ?side1 ?side2 A6.out).mono ?_); (case side1 => exact CAt HR0.out); (case side2 => exact HC0.out); rintro e w' ⟨rfl, ⟨nd, rfl⟩⟩; refine ⟨_, rfl, ?_⟩))
       go_ret
       exact ⟨by first | rfl | (simp; done) | (simp [*]; done), by repeat (first | exact Drawn0.refl _ | apply Drawn0.step)⟩
      ·rw [if_neg c8] at H
       obtain ⟨c8b0, c8b1⟩ := neB c8
       have H' := Aside0.mk H
       clear H
       go_wp2_with (first | ((with_reducible refine gate_callee (f := 48) rfl ?_); refine gL (some 12) Tryd.func48 #[.slice A0 l0.length c0, .int .i64 x1_1, .string (⟨#[47, 42]⟩ : ByteArray)] rfl gA ?_; (with_reducible refine (tmesisref05_pair.calls _ _ l0 x1_1 (⟨#[47, 42]⟩ : ByteArray) false _ ?side1 ?side2 A4.out).mono ?_); (case side1 => exact CAt HR0.out); (case side2 => exact HC0.out); rintro e w' ⟨rfl, ⟨nd, rfl⟩⟩; refine ⟨_, rfl, ?_⟩) | ((with_reducible refine gate_callee (f := 48) rfl ?_); refine gL (some 19) Tryd.func48 #[.slice A0 l0.length c0, .int .i64 x1_1, .string (⟨#[42, 47]⟩ : ByteArray)] rfl gA ?_; (with_reducible refine (tmesisref05_pair.calls _ _ l0 x1_1 (⟨#[42, 47]⟩ : ByteArray) true _ ?side1 ?side2 A6.out).mono ?_); (case side1 => exact CAt HR0.out); (case side2 => exact HC0.out); rintro e w' ⟨rfl, ⟨nd, rfl⟩⟩; refine ⟨_, rfl, ?_⟩))
       go_roundg k1
       case measure => have := HK1.out; omega
       case rel => exact ⟨(wrap64 (x1_1 + 2)), (wrap64 (x5_1 - 1)), sR, sR, H', ⟨by have := HK1.out; omega⟩, by repeat (first | exact Drawn0.refl _ | apply Drawn0.step)⟩
     ·replace c7 := Bool.eq_false_iff.mpr c7
      subst c7
      replace H := fP H
      have H' := Aside0.mk H
      clear H
      go_wp2_with (first | ((with_reducible refine gate_callee (f := 48) rfl ?_); refine gL (some 12) Tryd.func48 #[.slice A0 l0.length c0, .int .i64 x1_1, .string (⟨#[47, 42]⟩ : ByteArray)] rfl gA ?_; (with_reducible refine (tmesisref05_pair.calls _ _ l0 x1_1 (⟨#[47, 42]⟩ : ByteArray) false _ ?side1 ?side2 A4.out).mono ?_); (case side1 => exact CAt HR0.out); (case side2 => exact HC0.out); rintro e w' ⟨rfl, ⟨nd, rfl⟩⟩; refine ⟨_, rfl, ?_⟩) | ((with_reducible refine gate_callee (f := 48) rfl ?_); refine gL (some 19) Tryd.func48 #[.slice A0 l0.length c0, .int .i64 x1_1, .string (⟨#[42, 47]⟩ : ByteArray)] rfl gA ?_; (with_reducible refine (tmesisref05_pair.calls _ _ l0 x1_1 (⟨#[42, 47]⟩ : ByteArray) false _ ?side1 ?side2 A6.out).mono ?_); (case side1 => exact CAt HR0.out); (case side2 => exact HC0.out); rintro e w' ⟨rfl, ⟨nd, rfl⟩⟩; refine ⟨_, rfl, ?_⟩))
      go_roundg k1
      case measure => have := HK1.out; omega
      case rel => exact ⟨(wrap64 (x1_1 + 1)), (x5_1), sR, sR, H', ⟨by have := HK1.out; omega⟩, by repeat (first | exact Drawn0.refl _ | apply Drawn0.step)⟩
   ·rw [if_neg c3] at H
    have c3b0 := decide_eq_false c3
    clear c3
    obtain rfl := Option.some.inj H
    go_wp2
    go_ret
    exact ⟨by first | rfl | (simp; done) | (simp [*]; done), by repeat (first | exact Drawn0.refl _ | apply Drawn0.step)⟩
mutual
def tmesisref05_Skip.l0 : Nat → List Int → Int → Option (Int × Int)
 | 0, _, _ => none
 | k + 1, x0, x4 => if x4 < (x0.length : Int) then (if 0 ≤ x4 then ((tmesisref02_Of.f k (rd x0 x4)).bind fun t270 => (if t270 = 1 then (tmesisref05_Skip.l0 k x0 (wrap64 (x4 + 1))) else (if (rd x0 x4) = 37 then (tmesisref05_Skip.l1 k x0 x4) else ((tmesisref05_pair.f x0 x4 (⟨#[47, 42]⟩ : ByteArray)).bind fun t273 => (if t273 = true then ((tmesisref05_comment.f k x0 x4).bind fun t274 => (if t274 < 0 then (some (x4, 14)) else (tmesisref05_Skip.l0 k x0 t274))) else (some (x4, 0))))))) else (none)) else (some (x4, 0))
def tmesisref05_Skip.l1 : Nat → List Int → Int → Option (Int × Int)
 | 0, _, _ => none
 | k + 1, x0, x4 => if x4 < (x0.length : Int) then (if 0 ≤ x4 then (if (rd x0 x4) = 10 then (tmesisref05_Skip.l0 k x0 x4) else (tmesisref05_Skip.l1 k x0 (wrap64 (x4 + 1)))) else (none)) else (tmesisref05_Skip.l0 k x0 x4)
end
def tmesisref05_Skip.f (k : Nat) (l0 : List Int) : Option (Int × Int) := tmesisref05_Skip.l0 k l0 0
theorem tmesisref05_Skip.mono_l : ∀ k, (∀ y0 y1, LeO (tmesisref05_Skip.l0 k y0 y1) (tmesisref05_Skip.l0 (k + 1) y0 y1)) ∧ (∀ y0 y1, LeO (tmesisref05_Skip.l1 k y0 y1) (tmesisref05_Skip.l1 (k + 1) y0 y1))
 | 0 => ⟨fun _ _ r h => by simp [tmesisref05_Skip.l0] at h, fun _ _ r h => by simp [tmesisref05_Skip.l1] at h⟩
 | k + 1 => by
  obtain ⟨ih0, ih1⟩ := tmesisref05_Skip.mono_l k
  refine ⟨?_, ?_⟩
  ·intro y0 y1
   unfold tmesisref05_Skip.l0
   repeat' with_reducible first | exact ih0 _ _ | exact ih1 _ _ | exact tmesisref02_Of.mono _ _ | exact tmesisref05_comment.mono _ _ _ | exact LeO.refl _ | exact LeO.none _ | refine LeO.ite ?_ ?_ | refine LeO.bind ?_ (fun _ => ?_)
  ·intro y0 y1
   unfold tmesisref05_Skip.l1
   repeat' with_reducible first | exact ih0 _ _ | exact ih1 _ _ | exact tmesisref02_Of.mono _ _ | exact tmesisref05_comment.mono _ _ _ | exact LeO.refl _ | exact LeO.none _ | refine LeO.ite ?_ ?_ | refine LeO.bind ?_ (fun _ => ?_)
theorem tmesisref05_Skip.mono : ∀ a0 k, LeO (tmesisref05_Skip.f k a0) (tmesisref05_Skip.f (k + 1) a0) := by
 intro a0 k
 obtain ⟨ih0, ih1⟩ := tmesisref05_Skip.mono_l k
 unfold tmesisref05_Skip.f
 repeat' with_reducible first | exact ih0 _ _ | exact ih1 _ _ | exact tmesisref02_Of.mono _ _ | exact tmesisref05_comment.mono _ _ _ | exact LeO.refl _ | exact LeO.none _ | refine LeO.ite ?_ ?_ | refine LeO.bind ?_ (fun _ => ?_)
set_option maxHeartbeats 8000000 in
set_option maxRecDepth 100000 in
theorem tmesisref05_Skip.calls (k : Nat) (A0 : Option Addr) (c0 : Nat) (l0 : List Int) (r1 : Int) (r2 : Int) (w : World) (hr0 : Kd.C (Kd.int .u8) w A0 l0.length l0) (hc0 : l0.length ≤ c0) (h : tmesisref05_Skip.f k l0 = some (r1, r2)) :
  Calls Tryd.prog 30 #[.slice A0 l0.length c0] w fun e w' => e = .returned (.tuple #[.int .i64 r1, .int .i64 r2]) ∧ Drawn0 w w' := by
 have HR0 := Aside0.mk hr0
 have HC0 := Aside0.mk hc0
 clear hr0 hc0
 have H : (tmesisref05_Skip.l0 k l0 0) = some (r1, r2) := h
 clear h
 have H' := Aside0.mk H
 clear H
 go_enter Tryd.func30, Tryd.ntmps30
 go_wp2
 go_loopg [4] k (fun kq v4 w' => ∃ (x4_1 : Int), v4 = .int .i64 x4_1 ∧ Aside0 (tmesisref05_Skip.l0 kq l0 x4_1 = some (r1, r2)) ∧ Aside0 (kq ≤ k) ∧ Drawn0 w w')
 case atStart => exact ⟨(0), sR, H', ⟨Nat.le_refl _⟩, by repeat (first | exact Drawn0.refl _ | apply Drawn0.step)⟩
 case round =>
  clear H'
  obtain ⟨x4_1, rfl, HA, HK1, ⟨m1, rfl⟩⟩ := hrel
  cases gk with
  | zero => exact absurd HA.out (by simp [tmesisref05_Skip.l0])
  | succ k1 =>
   have H := HA.out
   clear HA
   simp only [tmesisref05_Skip.l0] at H
   by_cases c2 : x4_1 < (l0.length : Int)
   ·rw [if_pos c2] at H
    have c2b0 := decide_eq_true c2
    clear c2
    by_cases c3 : 0 ≤ x4_1
    ·rw [if_pos c3] at H
     have c3b0 := decide_eq_true c3
     clear c3
     obtain ⟨t270, A4, H⟩ := bE H
     by_cases c5 : t270 = 1
     ·rw [if_pos c5] at H
      obtain ⟨c5b0, c5b1⟩ := eqB c5
      clear c5
      have H' := Aside0.mk H
      clear H
      have p269 : 0 ≤ (x4_1 : Int) := dt
      have q269 : x4_1 < (l0.length : Int) := dt
      obtain ⟨ad269, e269, hx269_0⟩ := Kd.at_int HR0.out x4_1 p269 q269
      cases e269
      replace p269 := eq_true p269
      replace q269 := eq_true q269
      go_wp2_with (first | ((with_reducible refine gate_callee (f := 47) rfl ?_); refine gL (some 14) Tryd.func47 #[.int .u8 (rd l0 x4_1)] rfl gA ?_; (with_reducible refine (tmesisref02_Of.calls k1 (rd l0 x4_1) t270 _ A4.out).mono ?_); rintro e w' ⟨rfl, ⟨nd, rfl⟩⟩; refine ⟨_, rfl, ?_⟩))
      go_roundg k1
      case measure => have := HK1.out; omega
      case rel => exact ⟨(wrap64 (x4_1 + 1)), sR, H', ⟨by have := HK1.out; omega⟩, by repeat (first | exact Drawn0.refl _ | apply Drawn0.step)⟩
     ·rw [if_neg c5] at H
      obtain ⟨c5b0, c5b1⟩ := neB c5
      by_cases c6 : (rd l0 x4_1) = 37
      ·rw [if_pos c6] at H
       obtain ⟨c6b0, c6b1⟩ := eqB c6
       clear c6
       have H' := Aside0.mk H
       clear H
       have p269 : 0 ≤ (x4_1 : Int) := dt
       have q269 : x4_1 < (l0.length : Int) := dt
       obtain ⟨ad269, e269, hx269_0⟩ := Kd.at_int HR0.out x4_1 p269 q269
       cases e269
       replace p269 := eq_true p269
       replace q269 := eq_true q269
       go_wp2_with (first | ((with_reducible refine gate_callee (f := 47) rfl ?_); refine gL (some 14) Tryd.func47 #[.int .u8 (rd l0 x4_1)] rfl gA ?_; (with_reducible refine (tmesisref02_Of.calls k1 (rd l0 x4_1) t270 _ A4.out).mono ?_); rintro e w' ⟨rfl, ⟨nd, rfl⟩⟩; refine ⟨_, rfl, ?_⟩; have p271 : 0 ≤ (x4_1 : Int) := dt; have q271 : x4_1 < (l0.length : Int) := dt; obtain ⟨ad271, e271, hx271_0⟩ := Kd.at_int HR0.out x4_1 p271 q271; obtain rfl : ad269 = ad271 := (by injection e271); replace p271 := eq_true p271; replace q271 := eq_true q271))
       go_loopg [4] k1 (fun kq v4 w' => ∃ (x4_2 : Int), v4 = .int .i64 x4_2 ∧ Aside0 (tmesisref05_Skip.l1 kq l0 x4_2 = some (r1, r2)) ∧ Aside0 (kq ≤ k1) ∧ Drawn0 w w')
       case atStart => exact ⟨(x4_1), sR, H', ⟨Nat.le_refl _⟩, by repeat (first | exact Drawn0.refl _ | apply Drawn0.step)⟩
       case round =>
        clear H'
        try clear c2
        try clear c2b0
        try clear p2
        try clear q2
        try clear hx2
        try clear c3
        try clear c3b0
        try clear c4
        try clear c5
        try clear c5b0 c5b1
        try clear c6
        try clear c6b0 c6b1
        try clear p6
        try clear hx269_0
        try clear hx271_0
        try clear p269
        try clear p271
        try clear q269
        try clear q271
        obtain ⟨x4_2, rfl, HA, HK2, ⟨m2, rfl⟩⟩ := hrel
        cases gk with
        | zero => exact absurd HA.out (by simp [tmesisref05_Skip.l1])
        | succ k2 =>
         have H := HA.out
         clear HA
         simp only [tmesisref05_Skip.l1] at H
         by_cases c7 : x4_2 < (l0.length : Int)
         ·rw [if_pos c7] at H
          have c7b0 := decide_eq_true c7
          clear c7
          by_cases c8 : 0 ≤ x4_2
          ·rw [if_pos c8] at H
           have c8b0 := decide_eq_true c8
           clear c8
           by_cases c9 : (rd l0 x4_2) = 10
           ·rw [if_pos c9] at H
            obtain ⟨c9b0, c9b1⟩ := eqB c9
            clear c9
            have H' := Aside0.mk H
            clear H
            have p272 : 0 ≤ (x4_2 : Int) := dt
            have q272 : x4_2 < (l0.length : Int) := dt
            obtain ⟨ad272, e272, hx272_0⟩ := Kd.at_int HR0.out x4_2 p272 q272
            obtain rfl : ad269 = ad272 := (by injection e272)
            replace p272 := eq_true p272
            replace q272 := eq_true q272
            go_wp2
            go_roundg k2
            case measure => have := HK1.out; have := HK2.out; omega
            case rel => exact ⟨(x4_2), sR, H', ⟨by have := HK1.out; have := HK2.out; omega⟩, by repeat (first | exact Drawn0.refl _ | apply Drawn0.step)⟩
           ·rw [if_neg c9] at H
            obtain ⟨c9b0, c9b1⟩ := neB c9
            have H' := Aside0.mk H
            clear H
            have p272 : 0 ≤ (x4_2 : Int) := dt
            have q272 : x4_2 < (l0.length : Int) := dt
            obtain ⟨ad272, e272, hx272_0⟩ := Kd.at_int HR0.out x4_2 p272 q272
            obtain rfl : ad269 = ad272 := (by injection e272)
            replace p272 := eq_true p272
            replace q272 := eq_true q272
            go_wp2
            go_roundg k2
            case measure => have := HK1.out; have := HK2.out; omega
            case rel => exact ⟨(wrap64 (x4_2 + 1)), sR, H', ⟨by have := HK1.out; have := HK2.out; omega⟩, by repeat (first | exact Drawn0.refl _ | apply Drawn0.step)⟩
          ·exact nB H c8
         ·rw [if_neg c7] at H
          have c7b0 := decide_eq_false c7
          clear c7
          have H' := Aside0.mk H
          clear H
          go_wp2
          go_roundg k2
          case measure => have := HK1.out; have := HK2.out; omega
          case rel => exact ⟨(x4_2), sR, H', ⟨by have := HK1.out; have := HK2.out; omega⟩, by repeat (first | exact Drawn0.refl _ | apply Drawn0.step)⟩
      ·rw [if_neg c6] at H
       obtain ⟨c6b0, c6b1⟩ := neB c6
       obtain ⟨t273, A10, H⟩ := bE H
       by_cases c11 : t273 = true
       ·subst c11
        replace H := tP H
        obtain ⟨t274, A12, H⟩ := bE H
        by_cases c13 : t274 < 0
        ·rw [if_pos c13] at H
         have c13b0 := decide_eq_true c13
         clear c13
         simp only [Option.some.injEq, Prod.mk.injEq] at H
         obtain ⟨rfl, rfl⟩ := H
         have p269 : 0 ≤ (x4_1 : Int) := dt
         have q269 : x4_1 < (l0.length : Int) := dt
         obtain ⟨ad269, e269, hx269_0⟩ := Kd.at_int HR0.out x4_1 p269 q269
         cases e269
         replace p269 := eq_true p269
         replace q269 := eq_true q269
         go_wp2_with (first | ((with_reducible refine gate_callee (f := 47) rfl ?_); refine gL (some 14) Tryd.func47 #[.int .u8 (rd l0 x4_1)] rfl gA ?_; (with_reducible refine (tmesisref02_Of.calls k1 (rd l0 x4_1) t270 _ A4.out).mono ?_); rintro e w' ⟨rfl, ⟨nd, rfl⟩⟩; refine ⟨_, rfl, ?_⟩; have p271 : 0 ≤ (x4_1 : Int) := dt; have q271 : x4_1 < (l0.length : Int) := dt; obtain ⟨ad271, e271, hx271_0⟩ := Kd.at_int HR0.out x4_1 p271 q271; obtain rfl : ad269 = ad271 := (by injection e271); replace p271 := eq_true p271; replace q271 := eq_true q271) | ((with_reducible refine gate_callee (f := 48) rfl ?_); refine gL (some 38) Tryd.func48 #[.slice (some ad269) l0.length c0, .int .i64 x4_1, .string (⟨#[47, 42]⟩ : ByteArray)] rfl gA ?_; (with_reducible refine (tmesisref05_pair.calls _ _ l0 x4_1 (⟨#[47, 42]⟩ : ByteArray) true _ ?side1 ?side2 A10.out).mono ?_); (case side1 => exact CAt HR0.out); (case side2 => exact HC0.out); rintro e w' ⟨rfl, ⟨nd, rfl⟩⟩; refine ⟨_, rfl, ?_⟩) | ((with_reducible refine gate_callee (f := 49) rfl ?_); refine gL (some 41) Tryd.func49 #[.slice (some ad269) l0.length c0, .int .i64 x4_1] rfl gA ?_; (with_reducible refine (tmesisref05_comment.calls k1 _ _ l0 x4_1 t274 _ ?side1 ?side2 A12.out).mono ?_); (case side1 => exact CAt HR0.out); (case side2 => exact HC0.out); rintro e w' ⟨rfl, ⟨nd, rfl⟩⟩; refine ⟨_, rfl, ?_⟩))
         go_ret2
         exact ⟨by first | rfl | (simp; done) | (simp [*]; done), by repeat (first | exact Drawn0.refl _ | apply Drawn0.step)⟩
        ·rw [if_neg c13] at H
         have c13b0 := decide_eq_false c13
         clear c13
         have H' := Aside0.mk H
         clear H
         have p269 : 0 ≤ (x4_1 : Int) := dt
         have q269 : x4_1 < (l0.length : Int) := dt
         obtain ⟨ad269, e269, hx269_0⟩ := Kd.at_int HR0.out x4_1 p269 q269
         cases e269
         replace p269 := eq_true p269
         replace q269 := eq_true q269
         go_wp2_with (first | ((with_reducible refine gate_callee (f := 47) rfl ?_); refine gL (some 14) Tryd.func47 #[.int .u8 (rd l0 x4_1)] rfl gA ?_; (with_reducible refine (tmesisref02_Of.calls k1 (rd l0 x4_1) t270 _ A4.out).mono ?_); rintro e w' ⟨rfl, ⟨nd, rfl⟩⟩; refine ⟨_, rfl, ?_⟩; have p271 : 0 ≤ (x4_1 : Int) := dt; have q271 : x4_1 < (l0.length : Int) := dt; obtain ⟨ad271, e271, hx271_0⟩ := Kd.at_int HR0.out x4_1 p271 q271; obtain rfl : ad269 = ad271 := (by injection e271); replace p271 := eq_true p271; replace q271 := eq_true q271) | ((with_reducible refine gate_callee (f := 48) rfl ?_); refine gL (some 38) Tryd.func48 #[.slice (some ad269) l0.length c0, .int .i64 x4_1, .string (⟨#[47, 42]⟩ : ByteArray)] rfl gA ?_; (with_reducible refine (tmesisref05_pair.calls _ _ l0 x4_1 (⟨#[47, 42]⟩ : ByteArray) true _ ?side1 ?side2 A10.out).mono ?_); (case side1 => exact CAt HR0.out); (case side2 => exact HC0.out); rintro e w' ⟨rfl, ⟨nd, rfl⟩⟩; refine ⟨_, rfl, ?_⟩) | ((with_reducible refine gate_callee (f := 49) rfl ?_); refine gL (some 41) Tryd.func49 #[.slice (some ad269) l0.length c0, .int .i64 x4_1] rfl gA ?_; (with_reducible refine (tmesisref05_comment.calls k1 _ _ l0 x4_1 t274 _ ?side1 ?side2 A12.out).mono ?_); (case side1 => exact CAt HR0.out); (case side2 => exact HC0.out); rintro e w' ⟨rfl, ⟨nd, rfl⟩⟩; refine ⟨_, rfl, ?_⟩))
         go_roundg k1
         case measure => have := HK1.out; omega
         case rel => exact ⟨(t274), sR, H', ⟨by have := HK1.out; omega⟩, by repeat (first | exact Drawn0.refl _ | apply Drawn0.step)⟩
       ·replace c11 := Bool.eq_false_iff.mpr c11
        subst c11
        replace H := fP H
        simp only [Option.some.injEq, Prod.mk.injEq] at H
        obtain ⟨rfl, rfl⟩ := H
        have p269 : 0 ≤ (x4_1 : Int) := dt
        have q269 : x4_1 < (l0.length : Int) := dt
        obtain ⟨ad269, e269, hx269_0⟩ := Kd.at_int HR0.out x4_1 p269 q269
        cases e269
        replace p269 := eq_true p269
        replace q269 := eq_true q269
        go_wp2_with (first | ((with_reducible refine gate_callee (f := 47) rfl ?_); refine gL (some 14) Tryd.func47 #[.int .u8 (rd l0 x4_1)] rfl gA ?_; (with_reducible refine (tmesisref02_Of.calls k1 (rd l0 x4_1) t270 _ A4.out).mono ?_); rintro e w' ⟨rfl, ⟨nd, rfl⟩⟩; refine ⟨_, rfl, ?_⟩; have p271 : 0 ≤ (x4_1 : Int) := dt; have q271 : x4_1 < (l0.length : Int) := dt; obtain ⟨ad271, e271, hx271_0⟩ := Kd.at_int HR0.out x4_1 p271 q271; obtain rfl : ad269 = ad271 := (by injection e271); replace p271 := eq_true p271; replace q271 := eq_true q271) | ((with_reducible refine gate_callee (f := 48) rfl ?_); refine gL (some 38) Tryd.func48 #[.slice (some ad269) l0.length c0, .int .i64 x4_1, .string (⟨#[47, 42]⟩ : ByteArray)] rfl gA ?_; (with_reducible refine (tmesisref05_pair.calls _ _ l0 x4_1 (⟨#[47, 42]⟩ : ByteArray) false _ ?side1 ?side2 A10.out).mono ?_); (case side1 => exact CAt HR0.out); (case side2 => exact HC0.out); rintro e w' ⟨rfl, ⟨nd, rfl⟩⟩; refine ⟨_, rfl, ?_⟩))
        go_ret2
        exact ⟨by first | rfl | (simp; done) | (simp [*]; done), by repeat (first | exact Drawn0.refl _ | apply Drawn0.step)⟩
    ·exact nB H c3
   ·rw [if_neg c2] at H
    have c2b0 := decide_eq_false c2
    clear c2
    simp only [Option.some.injEq, Prod.mk.injEq] at H
    obtain ⟨rfl, rfl⟩ := H
    go_wp2
    go_ret2
    exact ⟨by first | rfl | (simp; done) | (simp [*]; done), by repeat (first | exact Drawn0.refl _ | apply Drawn0.step)⟩
def tmesisref04_at.f (l0 : List Int) (a1 : Int) : Option (Int) := if a1 < (l0.length : Int) then (if 0 ≤ a1 then (some (rd l0 a1)) else (none)) else (some 0)
set_option maxHeartbeats 8000000 in
set_option maxRecDepth 100000 in
theorem tmesisref04_at.calls (A0 : Option Addr) (c0 : Nat) (l0 : List Int) (a1 : Int) (r : Int) (w : World) (hr0 : Kd.C (Kd.int .u8) w A0 l0.length l0) (hc0 : l0.length ≤ c0) (h : tmesisref04_at.f l0 a1 = some r) :
  Calls Tryd.prog 35 #[.slice A0 l0.length c0, .int .i64 a1] w fun e w' => e = .returned (.int .u8 r) ∧ Drawn0 w w' := by
 have HR0 := Aside0.mk hr0
 have HC0 := Aside0.mk hc0
 clear hr0 hc0
 have H : (if a1 < (l0.length : Int) then (if 0 ≤ a1 then (some (rd l0 a1)) else (none)) else (some 0)) = some r := h
 clear h
 by_cases c3 : a1 < (l0.length : Int)
 ·rw [if_pos c3] at H
  have c3b0 := decide_eq_true c3
  clear c3
  by_cases c4 : 0 ≤ a1
  ·rw [if_pos c4] at H
   have c4b0 := decide_eq_true c4
   clear c4
   obtain rfl := Option.some.inj H
   have p275 : 0 ≤ (a1 : Int) := dt
   have q275 : a1 < (l0.length : Int) := dt
   obtain ⟨ad275, e275, hx275_0⟩ := Kd.at_int HR0.out a1 p275 q275
   cases e275
   replace p275 := eq_true p275
   replace q275 := eq_true q275
   go_enter Tryd.func35, Tryd.ntmps35
   go_wp2
   go_ret
   exact ⟨by first | rfl | (simp; done) | (simp [*]; done), by repeat (first | exact Drawn0.refl _ | apply Drawn0.step)⟩
  ·exact nB H c4
 ·rw [if_neg c3] at H
  have c3b0 := decide_eq_false c3
  clear c3
  obtain rfl := Option.some.inj H
  go_enter Tryd.func35, Tryd.ntmps35
  go_wp2
  go_ret
  exact ⟨by first | rfl | (simp; done) | (simp [*]; done), by repeat (first | exact Drawn0.refl _ | apply Drawn0.step)⟩
end Go.Proofs.YtdejidhgeefmeaaDoor.P
