/- Part of the proof: what the theorem needs of this text. -/
import Derived.Test.YtpkklbdclghcfaaDoorKPx0
namespace Go.Proofs.YtpkklbdclghcfaaDoor.P
open Go.RowKit Go.Proofs.YtpkklbdclghcfaaDoorW.PrintWords Go.Proofs.YtpkklbdclghcfaaDoorW.PrintLast Go.Proofs.YtpkklbdclghcfaaDoorW.PrintMore
attribute [local go_sem] max2_int min2_int max_two min_two max_three min_three max_four min_four   -- for this text's walks alone
set_option linter.unusedVariables false
set_option linter.unusedSimpArgs false
def tmesisref07_Alike.l0 : Nat → List (S38) → List (S38) → Int → Option (Bool)
 | 0, _, _, _ => none
 | k + 1, x0, x1, x5 => if x5 < (x0.length : Int) then (if 0 ≤ x5 then (if x5 < (x1.length : Int) then (if ((rd_T38 x0 x5).f0) = ((rd_T38 x1 x5).f0) then (if ((rd_T38 x0 x5).f3).toList = ((rd_T38 x1 x5).f3).toList then (if ((rd_T38 x0 x5).f0) = 8 then (some false) else (tmesisref07_Alike.l0 k x0 x1 (wrap64 (x5 + 1)))) else (some false)) else (some false)) else (none)) else (none)) else (some true)
def tmesisref07_Alike.f (k : Nat) (l0 : List (S38)) (l1 : List (S38)) : Option (Bool) := if (l0.length : Int) = (l1.length : Int) then (tmesisref07_Alike.l0 k l0 l1 0) else (some false)
theorem tmesisref07_Alike.mono_l : ∀ k, (∀ y0 y1 y2, LeO (tmesisref07_Alike.l0 k y0 y1 y2) (tmesisref07_Alike.l0 (k + 1) y0 y1 y2))
 | 0 => fun _ _ _ r h => by simp [tmesisref07_Alike.l0] at h
 | k + 1 => by
  have ih0 := tmesisref07_Alike.mono_l k
  ·intro y0 y1 y2
   unfold tmesisref07_Alike.l0
   repeat' with_reducible first | exact ih0 _ _ _ | exact LeO.refl _ | exact LeO.none _ | refine LeO.ite ?_ ?_ | refine LeO.bind ?_ (fun _ => ?_)
theorem tmesisref07_Alike.mono : ∀ a0 a1 k, LeO (tmesisref07_Alike.f k a0 a1) (tmesisref07_Alike.f (k + 1) a0 a1) := by
 intro a0 a1 k
 have ih0 := tmesisref07_Alike.mono_l k
 unfold tmesisref07_Alike.f
 repeat' with_reducible first | exact ih0 _ _ _ | exact LeO.refl _ | exact LeO.none _ | refine LeO.ite ?_ ?_ | refine LeO.bind ?_ (fun _ => ?_)
set_option maxHeartbeats 8000000 in
set_option maxRecDepth 100000 in
theorem tmesisref07_Alike.calls (k : Nat) (A0 : Option Addr) (c0 : Nat) (l0 : List (S38)) (A1 : Option Addr) (c1 : Nat) (l1 : List (S38)) (r : Bool) (w : World) (hr0 : Kd.C k38 w A0 l0.length l0) (hc0 : l0.length ≤ c0) (hr1 : Kd.C k38 w A1 l1.length l1) (hc1 : l1.length ≤ c1) (h : tmesisref07_Alike.f k l0 l1 = some r) :
  Calls Tryd.prog 21 #[.slice A0 l0.length c0, .slice A1 l1.length c1] w fun e w' => e = .returned (.bool r) ∧ Drawn0 w w' := by
 have HR0 := Aside0.mk hr0
 have HC0 := Aside0.mk hc0
 clear hr0 hc0
 have HR1 := Aside0.mk hr1
 have HC1 := Aside0.mk hc1
 clear hr1 hc1
 have H : (if (l0.length : Int) = (l1.length : Int) then (tmesisref07_Alike.l0 k l0 l1 0) else (some false)) = some r := h
 clear h
 by_cases c3 : (l0.length : Int) = (l1.length : Int)
 ·rw [if_pos c3] at H
  obtain ⟨c3b0, c3b1⟩ := eqB c3
  have c3b2 : (l0.length == l1.length) = true := by first | simpa using c3 | (simp at c3 ⊢; omega)
  clear c3
  have H' := Aside0.mk H
  clear H
  go_enter Tryd.func21, Tryd.ntmps21
  go_wp2
  repeat (go_quiet (fail); try go_wp2)
  go_loopg [5] k (fun kq v5 w' => ∃ (x5_1 : Int), v5 = .int .i64 x5_1 ∧ Aside0 (tmesisref07_Alike.l0 kq l0 l1 x5_1 = some r) ∧ Aside0 (kq ≤ k) ∧ Drawn0 w w')
  case atStart => exact ⟨(0), sR, H', ⟨Nat.le_refl _⟩, by repeat (first | exact Drawn0.refl _ | apply Drawn0.step)⟩
  case round =>
   clear H'
   try clear c1
   try clear c2
   try clear p2
   try clear c3
   try clear c3b0 c3b1
   try clear c3b2
   obtain ⟨x5_1, rfl, HA, HK1, ⟨m1, rfl⟩⟩ := hrel
   cases gk with
   | zero => exact absurd HA.out (by simp [tmesisref07_Alike.l0])
   | succ k1 =>
    have H := HA.out
    clear HA
    simp only [tmesisref07_Alike.l0] at H
    by_cases c4 : x5_1 < (l0.length : Int)
    ·rw [if_pos c4] at H
     have c4b0 := decide_eq_true c4
     clear c4
     by_cases c5 : 0 ≤ x5_1
     ·rw [if_pos c5] at H
      have c5b0 := decide_eq_true c5
      clear c5
      by_cases c6 : x5_1 < (l1.length : Int)
      ·rw [if_pos c6] at H
       have c6b0 := decide_eq_true c6
       clear c6
       by_cases c7 : ((rd_T38 l0 x5_1).f0) = ((rd_T38 l1 x5_1).f0)
       ·rw [if_pos c7] at H
        obtain ⟨c7b0, c7b1⟩ := eqB c7
        clear c7
        by_cases c8 : ((rd_T38 l0 x5_1).f3).toList = ((rd_T38 l1 x5_1).f3).toList
        ·rw [if_pos c8] at H
         obtain ⟨c8b0, c8b1⟩ := eqB c8
         clear c8
         by_cases c9 : ((rd_T38 l0 x5_1).f0) = 8
         ·rw [if_pos c9] at H
          obtain ⟨c9b0, c9b1⟩ := eqB c9
          clear c9
          obtain rfl := Option.some.inj H
          have p605 : 0 ≤ (x5_1 : Int) := dt
          have q605 : x5_1 < (l0.length : Int) := dt
          obtain ⟨ad605, e605, hx605_0, hx605_1, hx605_2, hx605_3, hx605_4⟩ := at_T38 HR0.out x5_1 p605 q605
          cases e605
          replace p605 := eq_true p605
          replace q605 := eq_true q605
          have p606 : 0 ≤ (x5_1 : Int) := dt
          have q606 : x5_1 < (l1.length : Int) := dt
          obtain ⟨ad606, e606, hx606_0, hx606_1, hx606_2, hx606_3, hx606_4⟩ := at_T38 HR1.out x5_1 p606 q606
          cases e606
          replace p606 := eq_true p606
          replace q606 := eq_true q606
          have p607 : 0 ≤ (x5_1 : Int) := dt
          have q607 : x5_1 < (l0.length : Int) := dt
          obtain ⟨ad607, e607, hx607_0, hx607_1, hx607_2, hx607_3, hx607_4⟩ := at_T38 HR0.out x5_1 p607 q607
          obtain rfl : ad605 = ad607 := (by injection e607)
          replace p607 := eq_true p607
          replace q607 := eq_true q607
          have p608 : 0 ≤ (x5_1 : Int) := dt
          have q608 : x5_1 < (l1.length : Int) := dt
          obtain ⟨ad608, e608, hx608_0, hx608_1, hx608_2, hx608_3, hx608_4⟩ := at_T38 HR1.out x5_1 p608 q608
          obtain rfl : ad606 = ad608 := (by injection e608)
          replace p608 := eq_true p608
          replace q608 := eq_true q608
          have p609 : 0 ≤ (x5_1 : Int) := dt
          have q609 : x5_1 < (l0.length : Int) := dt
          obtain ⟨ad609, e609, hx609_0, hx609_1, hx609_2, hx609_3, hx609_4⟩ := at_T38 HR0.out x5_1 p609 q609
          obtain rfl : ad605 = ad609 := (by injection e609)
          replace p609 := eq_true p609
          replace q609 := eq_true q609
          go_wp2
          repeat (go_quiet (fail); try go_wp2)
          go_ret
          exact ⟨by first | rfl | (simp; done) | (simp [*]; done), by repeat (first | exact Drawn0.refl _ | apply Drawn0.step)⟩
         ·rw [if_neg c9] at H
          obtain ⟨c9b0, c9b1⟩ := neB c9
          have H' := Aside0.mk H
          clear H
          have p605 : 0 ≤ (x5_1 : Int) := dt
          have q605 : x5_1 < (l0.length : Int) := dt
          obtain ⟨ad605, e605, hx605_0, hx605_1, hx605_2, hx605_3, hx605_4⟩ := at_T38 HR0.out x5_1 p605 q605
          cases e605
          replace p605 := eq_true p605
          replace q605 := eq_true q605
          have p606 : 0 ≤ (x5_1 : Int) := dt
          have q606 : x5_1 < (l1.length : Int) := dt
          obtain ⟨ad606, e606, hx606_0, hx606_1, hx606_2, hx606_3, hx606_4⟩ := at_T38 HR1.out x5_1 p606 q606
          cases e606
          replace p606 := eq_true p606
          replace q606 := eq_true q606
          have p607 : 0 ≤ (x5_1 : Int) := dt
          have q607 : x5_1 < (l0.length : Int) := dt
          obtain ⟨ad607, e607, hx607_0, hx607_1, hx607_2, hx607_3, hx607_4⟩ := at_T38 HR0.out x5_1 p607 q607
          obtain rfl : ad605 = ad607 := (by injection e607)
          replace p607 := eq_true p607
          replace q607 := eq_true q607
          have p608 : 0 ≤ (x5_1 : Int) := dt
          have q608 : x5_1 < (l1.length : Int) := dt
          obtain ⟨ad608, e608, hx608_0, hx608_1, hx608_2, hx608_3, hx608_4⟩ := at_T38 HR1.out x5_1 p608 q608
          obtain rfl : ad606 = ad608 := (by injection e608)
          replace p608 := eq_true p608
          replace q608 := eq_true q608
          have p609 : 0 ≤ (x5_1 : Int) := dt
          have q609 : x5_1 < (l0.length : Int) := dt
          obtain ⟨ad609, e609, hx609_0, hx609_1, hx609_2, hx609_3, hx609_4⟩ := at_T38 HR0.out x5_1 p609 q609
          obtain rfl : ad605 = ad609 := (by injection e609)
          replace p609 := eq_true p609
          replace q609 := eq_true q609
          go_wp2
          repeat (go_quiet (fail); try go_wp2)
          go_roundg k1
          case measure => have := HK1.out; omega
          case rel => exact ⟨(wrap64 (x5_1 + 1)), sR, H', ⟨by have := HK1.out; omega⟩, by repeat (first | exact Drawn0.refl _ | apply Drawn0.step)⟩
        ·rw [if_neg c8] at H
         obtain ⟨c8b0, c8b1⟩ := neB c8
         obtain rfl := Option.some.inj H
         have p605 : 0 ≤ (x5_1 : Int) := dt
         have q605 : x5_1 < (l0.length : Int) := dt
         obtain ⟨ad605, e605, hx605_0, hx605_1, hx605_2, hx605_3, hx605_4⟩ := at_T38 HR0.out x5_1 p605 q605
         cases e605
         replace p605 := eq_true p605
         replace q605 := eq_true q605
         have p606 : 0 ≤ (x5_1 : Int) := dt
         have q606 : x5_1 < (l1.length : Int) := dt
         obtain ⟨ad606, e606, hx606_0, hx606_1, hx606_2, hx606_3, hx606_4⟩ := at_T38 HR1.out x5_1 p606 q606
         cases e606
         replace p606 := eq_true p606
         replace q606 := eq_true q606
         have p607 : 0 ≤ (x5_1 : Int) := dt
         have q607 : x5_1 < (l0.length : Int) := dt
         obtain ⟨ad607, e607, hx607_0, hx607_1, hx607_2, hx607_3, hx607_4⟩ := at_T38 HR0.out x5_1 p607 q607
         obtain rfl : ad605 = ad607 := (by injection e607)
         replace p607 := eq_true p607
         replace q607 := eq_true q607
         have p608 : 0 ≤ (x5_1 : Int) := dt
         have q608 : x5_1 < (l1.length : Int) := dt
         obtain ⟨ad608, e608, hx608_0, hx608_1, hx608_2, hx608_3, hx608_4⟩ := at_T38 HR1.out x5_1 p608 q608
         obtain rfl : ad606 = ad608 := (by injection e608)
         replace p608 := eq_true p608
         replace q608 := eq_true q608
         go_wp2
         repeat (go_quiet (fail); try go_wp2)
         go_ret
         exact ⟨by first | rfl | (simp; done) | (simp [*]; done), by repeat (first | exact Drawn0.refl _ | apply Drawn0.step)⟩
       ·rw [if_neg c7] at H
        obtain ⟨c7b0, c7b1⟩ := neB c7
        obtain rfl := Option.some.inj H
        have p605 : 0 ≤ (x5_1 : Int) := dt
        have q605 : x5_1 < (l0.length : Int) := dt
        obtain ⟨ad605, e605, hx605_0, hx605_1, hx605_2, hx605_3, hx605_4⟩ := at_T38 HR0.out x5_1 p605 q605
        cases e605
        replace p605 := eq_true p605
        replace q605 := eq_true q605
        have p606 : 0 ≤ (x5_1 : Int) := dt
        have q606 : x5_1 < (l1.length : Int) := dt
        obtain ⟨ad606, e606, hx606_0, hx606_1, hx606_2, hx606_3, hx606_4⟩ := at_T38 HR1.out x5_1 p606 q606
        cases e606
        replace p606 := eq_true p606
        replace q606 := eq_true q606
        go_wp2
        repeat (go_quiet (fail); try go_wp2)
        go_ret
        exact ⟨by first | rfl | (simp; done) | (simp [*]; done), by repeat (first | exact Drawn0.refl _ | apply Drawn0.step)⟩
      ·exact nB H c6
     ·exact nB H c5
    ·rw [if_neg c4] at H
     have c4b0 := decide_eq_false c4
     clear c4
     obtain rfl := Option.some.inj H
     go_wp2
     repeat (go_quiet (fail); try go_wp2)
     go_ret
     exact ⟨by first | rfl | (simp; done) | (simp [*]; done), by repeat (first | exact Drawn0.refl _ | apply Drawn0.step)⟩
 ·rw [if_neg c3] at H
  obtain ⟨c3b0, c3b1⟩ := neB c3
  have c3b2 : (l0.length == l1.length) = false := by first | simpa using c3 | (simp at c3 ⊢; omega)
  obtain rfl := Option.some.inj H
  go_enter Tryd.func21, Tryd.ntmps21
  go_wp2
  repeat (go_quiet (fail); try go_wp2)
  go_ret
  exact ⟨by first | rfl | (simp; done) | (simp [*]; done), by repeat (first | exact Drawn0.refl _ | apply Drawn0.step)⟩
def tmesislaw10_bad.l0 : Nat → List (S38) → Int → Option (Bool)
 | 0, _, _ => none
 | k + 1, x0, x3 => if x3 < (x0.length : Int) then (if 0 ≤ x3 then (if ((rd_T38 x0 x3).f0) = 8 then (some true) else (tmesislaw10_bad.l0 k x0 (wrap64 (x3 + 1)))) else (none)) else (some false)
def tmesislaw10_bad.f (k : Nat) (l0 : List (S38)) : Option (Bool) := tmesislaw10_bad.l0 k l0 0
theorem tmesislaw10_bad.mono_l : ∀ k, (∀ y0 y1, LeO (tmesislaw10_bad.l0 k y0 y1) (tmesislaw10_bad.l0 (k + 1) y0 y1))
 | 0 => fun _ _ r h => by simp [tmesislaw10_bad.l0] at h
 | k + 1 => by
  have ih0 := tmesislaw10_bad.mono_l k
  ·intro y0 y1
   unfold tmesislaw10_bad.l0
   repeat' with_reducible first | exact ih0 _ _ | exact LeO.refl _ | exact LeO.none _ | refine LeO.ite ?_ ?_ | refine LeO.bind ?_ (fun _ => ?_)
theorem tmesislaw10_bad.mono : ∀ a0 k, LeO (tmesislaw10_bad.f k a0) (tmesislaw10_bad.f (k + 1) a0) := by
 intro a0 k
 have ih0 := tmesislaw10_bad.mono_l k
 unfold tmesislaw10_bad.f
 repeat' with_reducible first | exact ih0 _ _ | exact LeO.refl _ | exact LeO.none _ | refine LeO.ite ?_ ?_ | refine LeO.bind ?_ (fun _ => ?_)
set_option maxHeartbeats 8000000 in
set_option maxRecDepth 100000 in
theorem tmesislaw10_bad.calls (k : Nat) (A0 : Option Addr) (c0 : Nat) (l0 : List (S38)) (r : Bool) (w : World) (hr0 : Kd.C k38 w A0 l0.length l0) (hc0 : l0.length ≤ c0) (h : tmesislaw10_bad.f k l0 = some r) :
  Calls Tryd.prog 22 #[.slice A0 l0.length c0] w fun e w' => e = .returned (.bool r) ∧ Drawn0 w w' := by
 have HR0 := Aside0.mk hr0
 have HC0 := Aside0.mk hc0
 clear hr0 hc0
 have H : (tmesislaw10_bad.l0 k l0 0) = some r := h
 clear h
 have H' := Aside0.mk H
 clear H
 go_enter Tryd.func22, Tryd.ntmps22
 go_wp2
 go_loopg [3] k (fun kq v3 w' => ∃ (x3_1 : Int), v3 = .int .i64 x3_1 ∧ Aside0 (tmesislaw10_bad.l0 kq l0 x3_1 = some r) ∧ Aside0 (kq ≤ k) ∧ Drawn0 w w')
 case atStart => exact ⟨(0), sR, H', ⟨Nat.le_refl _⟩, by repeat (first | exact Drawn0.refl _ | apply Drawn0.step)⟩
 case round =>
  clear H'
  obtain ⟨x3_1, rfl, HA, HK1, ⟨m1, rfl⟩⟩ := hrel
  cases gk with
  | zero => exact absurd HA.out (by simp [tmesislaw10_bad.l0])
  | succ k1 =>
   have H := HA.out
   clear HA
   simp only [tmesislaw10_bad.l0] at H
   by_cases c2 : x3_1 < (l0.length : Int)
   ·rw [if_pos c2] at H
    have c2b0 := decide_eq_true c2
    clear c2
    by_cases c3 : 0 ≤ x3_1
    ·rw [if_pos c3] at H
     have c3b0 := decide_eq_true c3
     clear c3
     by_cases c4 : ((rd_T38 l0 x3_1).f0) = 8
     ·rw [if_pos c4] at H
      obtain ⟨c4b0, c4b1⟩ := eqB c4
      clear c4
      obtain rfl := Option.some.inj H
      have p610 : 0 ≤ (x3_1 : Int) := dt
      have q610 : x3_1 < (l0.length : Int) := dt
      obtain ⟨ad610, e610, hx610_0, hx610_1, hx610_2, hx610_3, hx610_4⟩ := at_T38 HR0.out x3_1 p610 q610
      cases e610
      replace p610 := eq_true p610
      replace q610 := eq_true q610
      go_wp2
      go_ret
      exact ⟨by first | rfl | (simp; done) | (simp [*]; done), by repeat (first | exact Drawn0.refl _ | apply Drawn0.step)⟩
     ·rw [if_neg c4] at H
      obtain ⟨c4b0, c4b1⟩ := neB c4
      have H' := Aside0.mk H
      clear H
      have p610 : 0 ≤ (x3_1 : Int) := dt
      have q610 : x3_1 < (l0.length : Int) := dt
      obtain ⟨ad610, e610, hx610_0, hx610_1, hx610_2, hx610_3, hx610_4⟩ := at_T38 HR0.out x3_1 p610 q610
      cases e610
      replace p610 := eq_true p610
      replace q610 := eq_true q610
      go_wp2
      go_roundg k1
      case measure => have := HK1.out; omega
      case rel => exact ⟨(wrap64 (x3_1 + 1)), sR, H', ⟨by have := HK1.out; omega⟩, by repeat (first | exact Drawn0.refl _ | apply Drawn0.step)⟩
    ·exact nB H c3
   ·rw [if_neg c2] at H
    have c2b0 := decide_eq_false c2
    clear c2
    obtain rfl := Option.some.inj H
    go_wp2
    go_ret
    exact ⟨by first | rfl | (simp; done) | (simp [*]; done), by repeat (first | exact Drawn0.refl _ | apply Drawn0.step)⟩
end Go.Proofs.YtpkklbdclghcfaaDoor.P
