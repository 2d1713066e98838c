/- Part of the proof: what the theorem needs of this text. -/
import Derived.Test.YtdejidhgeefmeaaDoorKPx0
namespace Go.Proofs.YtdejidhgeefmeaaDoor.P
open Go.RowKit Go.Proofs.YtdejidhgeefmeaaDoorW.PrintWords Go.Proofs.YtdejidhgeefmeaaDoorW.PrintLast Go.Proofs.YtdejidhgeefmeaaDoorW.PrintMore
attribute [local go_sem] max2_int min2_int max_two min_two max_three min_three max_four min_four   -- for this text's walks alone
set_option linter.unusedVariables false
set_option linter.unusedSimpArgs false
def tmesisref01_long.j0 : Nat → Int → Bool → Option (Int)
 | 0, _, _ => none
 | k + 1, x0, x10 => if x10 = true then (some 0) else (if x0 < 224 then (some 2) else (if x0 < 240 then (some 3) else (some 4)))
def tmesisref01_long.f (k : Nat) (a0 : Int) : Option (Int) := if a0 < 128 then (some 1) else (if a0 < 194 then (tmesisref01_long.j0 k a0 true) else (tmesisref01_long.j0 k a0 (decide (a0 > 244))))
theorem tmesisref01_long.mono_l : ∀ k, (∀ y0 y1, LeO (tmesisref01_long.j0 k y0 y1) (tmesisref01_long.j0 (k + 1) y0 y1))
 | 0 => fun _ _ r h => by simp [tmesisref01_long.j0] at h
 | k + 1 => by
  have ih0 := tmesisref01_long.mono_l k
  ·intro y0 y1
   unfold tmesisref01_long.j0
   repeat' with_reducible first | exact ih0 _ _ | exact LeO.refl _ | exact LeO.none _ | refine LeO.ite ?_ ?_ | refine LeO.bind ?_ (fun _ => ?_)
theorem tmesisref01_long.mono : ∀ a0 k, LeO (tmesisref01_long.f k a0) (tmesisref01_long.f (k + 1) a0) := by
 intro a0 k
 have ih0 := tmesisref01_long.mono_l k
 unfold tmesisref01_long.f
 repeat' with_reducible first | exact ih0 _ _ | exact LeO.refl _ | exact LeO.none _ | refine LeO.ite ?_ ?_ | refine LeO.bind ?_ (fun _ => ?_)
set_option maxHeartbeats 8000000 in
set_option maxRecDepth 100000 in
theorem tmesisref01_long.calls (k : Nat) (a0 : Int) (r : Int) (w : World) (h : tmesisref01_long.f k a0 = some r) :
  Calls Tryd.prog 57 #[.int .u8 a0] w fun e w' => e = .returned (.int .i64 r) ∧ Drawn0 w w' := by
 have H : (if a0 < 128 then (some 1) else (if a0 < 194 then (tmesisref01_long.j0 k a0 true) else (tmesisref01_long.j0 k a0 (decide (a0 > 244))))) = some r := h
 clear h
 by_cases c2 : a0 < 128
 ·rw [if_pos c2] at H
  have c2b0 := decide_eq_true c2
  clear c2
  obtain rfl := Option.some.inj H
  go_enter Tryd.func57, Tryd.ntmps57
  go_wp2
  go_ret
  exact ⟨by first | rfl | (simp; done) | (simp [*]; done), by repeat (first | exact Drawn0.refl _ | apply Drawn0.step)⟩
 ·rw [if_neg c2] at H
  have c2b0 := decide_eq_false c2
  clear c2
  have HC3 := Aside0.mk H
  clear H
  go_enter Tryd.func57, Tryd.ntmps57
  go_upto_region 3 with (fail)
  go_cut [10] (fun v10 wc => ∃ (kq : Nat) (x10_2 : Bool), v10 = .bool x10_2 ∧ Aside0 (tmesisref01_long.j0 kq a0 x10_2 = some r) ∧ Aside0 (kq ≤ k) ∧ Drawn0 w wc)
  case first =>
   have H := HC3.out
   clear HC3
   by_cases c4 : a0 < 194
   ·rw [if_pos c4] at H
    have c4b0 := decide_eq_true c4
    clear c4
    (first | rw [c4b0] | (simp only [i64_w, i32_w]; rw [c4b0]) | skip)
    have H' := Aside0.mk H
    clear H
    go_wp2
    go_meet
    case rel => exact ⟨_, (true), sR, H', ⟨by first | omega | exact Nat.le_refl _⟩, by repeat (first | exact Drawn0.refl _ | apply Drawn0.step)⟩
   ·rw [if_neg c4] at H
    have c4b0 := decide_eq_false c4
    clear c4
    (first | rw [c4b0] | (simp only [i64_w, i32_w]; rw [c4b0]) | skip)
    have H' := Aside0.mk H
    clear H
    go_wp2
    go_meet
    case rel => exact ⟨_, (decide (a0 > 244)), sR, H', ⟨by first | omega | exact Nat.le_refl _⟩, by repeat (first | exact Drawn0.refl _ | apply Drawn0.step)⟩
  case rest =>
   clear HC3
   try clear c2
   try clear c2b0
   try clear p2
   try clear c4
   try clear c4b0
   obtain ⟨kq, x10_2, rfl, HA, HJ2, ⟨mc2, rfl⟩⟩ := hcut
   cases kq with
   | zero => exact absurd HA.out (by simp [tmesisref01_long.j0])
   | succ kj2 =>
    have H := HA.out
    clear HA
    simp only [tmesisref01_long.j0] at H
    by_cases c5 : x10_2 = true
    ·subst c5
     replace H := tP H
     obtain rfl := Option.some.inj H
     go_wp2
     go_ret
     exact ⟨by first | rfl | (simp; done) | (simp [*]; done), by repeat (first | exact Drawn0.refl _ | apply Drawn0.step)⟩
    ·replace c5 := Bool.eq_false_iff.mpr c5
     subst c5
     replace H := fP H
     by_cases c6 : a0 < 224
     ·rw [if_pos c6] at H
      have c6b0 := decide_eq_true c6
      clear c6
      obtain rfl := Option.some.inj H
      go_wp2
      go_ret
      exact ⟨by first | rfl | (simp; done) | (simp [*]; done), by repeat (first | exact Drawn0.refl _ | apply Drawn0.step)⟩
     ·rw [if_neg c6] at H
      have c6b0 := decide_eq_false c6
      clear c6
      by_cases c7 : a0 < 240
      ·rw [if_pos c7] at H
       have c7b0 := decide_eq_true c7
       clear c7
       obtain rfl := Option.some.inj H
       go_wp2
       go_ret
       exact ⟨by first | rfl | (simp; done) | (simp [*]; done), by repeat (first | exact Drawn0.refl _ | apply Drawn0.step)⟩
      ·rw [if_neg c7] at H
       have c7b0 := decide_eq_false c7
       clear c7
       obtain rfl := Option.some.inj H
       go_wp2
       go_ret
       exact ⟨by first | rfl | (simp; done) | (simp [*]; done), by repeat (first | exact Drawn0.refl _ | apply Drawn0.step)⟩
def tmesisref01_second.f (a0 : Int) (a1 : Int) : Option (Bool) := if a0 = 224 then (if a1 ≥ 160 then (some (decide (a1 ≤ 191))) else (some false)) else (if a0 = 237 then (if a1 ≥ 128 then (some (decide (a1 ≤ 159))) else (some false)) else (if a0 = 240 then (if a1 ≥ 144 then (some (decide (a1 ≤ 191))) else (some false)) else (if a0 = 244 then (if a1 ≥ 128 then (some (decide (a1 ≤ 143))) else (some false)) else (if a1 ≥ 128 then (some (decide (a1 ≤ 191))) else (some false)))))
set_option maxHeartbeats 8000000 in
set_option maxRecDepth 100000 in
theorem tmesisref01_second.calls (a0 : Int) (a1 : Int) (r : Bool) (w : World) (h : tmesisref01_second.f a0 a1 = some r) :
  Calls Tryd.prog 58 #[.int .u8 a0, .int .u8 a1] w fun e w' => e = .returned (.bool r) ∧ Drawn0 w w' := by
 have H : (if a0 = 224 then (if a1 ≥ 160 then (some (decide (a1 ≤ 191))) else (some false)) else (if a0 = 237 then (if a1 ≥ 128 then (some (decide (a1 ≤ 159))) else (some false)) else (if a0 = 240 then (if a1 ≥ 144 then (some (decide (a1 ≤ 191))) else (some false)) else (if a0 = 244 then (if a1 ≥ 128 then (some (decide (a1 ≤ 143))) else (some false)) else (if a1 ≥ 128 then (some (decide (a1 ≤ 191))) else (some false)))))) = some r := h
 clear h
 by_cases c3 : a0 = 224
 ·rw [if_pos c3] at H
  obtain ⟨c3b0, c3b1⟩ := eqB c3
  clear c3
  by_cases c4 : a1 ≥ 160
  ·rw [if_pos c4] at H
   have c4b0 : decide (160 ≤ a1) = true := decide_eq_true c4
   clear c4
   obtain rfl := Option.some.inj H
   go_enter Tryd.func58, Tryd.ntmps58
   go_wp2
   go_ret
   exact ⟨by first | rfl | (simp; done) | (simp [*]; done), by repeat (first | exact Drawn0.refl _ | apply Drawn0.step)⟩
  ·rw [if_neg c4] at H
   have c4b0 : decide (160 ≤ a1) = false := decide_eq_false c4
   clear c4
   obtain rfl := Option.some.inj H
   go_enter Tryd.func58, Tryd.ntmps58
   go_wp2
   go_ret
   exact ⟨by first | rfl | (simp; done) | (simp [*]; done), by repeat (first | exact Drawn0.refl _ | apply Drawn0.step)⟩
 ·rw [if_neg c3] at H
  obtain ⟨c3b0, c3b1⟩ := neB c3
  by_cases c5 : a0 = 237
  ·rw [if_pos c5] at H
   obtain ⟨c5b0, c5b1⟩ := eqB c5
   clear c5
   by_cases c6 : a1 ≥ 128
   ·rw [if_pos c6] at H
    have c6b0 : decide (128 ≤ a1) = true := decide_eq_true c6
    clear c6
    obtain rfl := Option.some.inj H
    go_enter Tryd.func58, Tryd.ntmps58
    go_wp2
    go_ret
    exact ⟨by first | rfl | (simp; done) | (simp [*]; done), by repeat (first | exact Drawn0.refl _ | apply Drawn0.step)⟩
   ·rw [if_neg c6] at H
    have c6b0 : decide (128 ≤ a1) = false := decide_eq_false c6
    clear c6
    obtain rfl := Option.some.inj H
    go_enter Tryd.func58, Tryd.ntmps58
    go_wp2
    go_ret
    exact ⟨by first | rfl | (simp; done) | (simp [*]; done), by repeat (first | exact Drawn0.refl _ | apply Drawn0.step)⟩
  ·rw [if_neg c5] at H
   obtain ⟨c5b0, c5b1⟩ := neB c5
   by_cases c7 : a0 = 240
   ·rw [if_pos c7] at H
    obtain ⟨c7b0, c7b1⟩ := eqB c7
    clear c7
    by_cases c8 : a1 ≥ 144
    ·rw [if_pos c8] at H
     have c8b0 : decide (144 ≤ a1) = true := decide_eq_true c8
     clear c8
     obtain rfl := Option.some.inj H
     go_enter Tryd.func58, Tryd.ntmps58
     go_wp2
     go_ret
     exact ⟨by first | rfl | (simp; done) | (simp [*]; done), by repeat (first | exact Drawn0.refl _ | apply Drawn0.step)⟩
    ·rw [if_neg c8] at H
     have c8b0 : decide (144 ≤ a1) = false := decide_eq_false c8
     clear c8
     obtain rfl := Option.some.inj H
     go_enter Tryd.func58, Tryd.ntmps58
     go_wp2
     go_ret
     exact ⟨by first | rfl | (simp; done) | (simp [*]; done), by repeat (first | exact Drawn0.refl _ | apply Drawn0.step)⟩
   ·rw [if_neg c7] at H
    obtain ⟨c7b0, c7b1⟩ := neB c7
    by_cases c9 : a0 = 244
    ·rw [if_pos c9] at H
     obtain ⟨c9b0, c9b1⟩ := eqB c9
     clear c9
     by_cases c10 : a1 ≥ 128
     ·rw [if_pos c10] at H
      have c10b0 : decide (128 ≤ a1) = true := decide_eq_true c10
      clear c10
      obtain rfl := Option.some.inj H
      go_enter Tryd.func58, Tryd.ntmps58
      go_wp2
      go_ret
      exact ⟨by first | rfl | (simp; done) | (simp [*]; done), by repeat (first | exact Drawn0.refl _ | apply Drawn0.step)⟩
     ·rw [if_neg c10] at H
      have c10b0 : decide (128 ≤ a1) = false := decide_eq_false c10
      clear c10
      obtain rfl := Option.some.inj H
      go_enter Tryd.func58, Tryd.ntmps58
      go_wp2
      go_ret
      exact ⟨by first | rfl | (simp; done) | (simp [*]; done), by repeat (first | exact Drawn0.refl _ | apply Drawn0.step)⟩
    ·rw [if_neg c9] at H
     obtain ⟨c9b0, c9b1⟩ := neB c9
     by_cases c11 : a1 ≥ 128
     ·rw [if_pos c11] at H
      have c11b0 : decide (128 ≤ a1) = true := decide_eq_true c11
      clear c11
      obtain rfl := Option.some.inj H
      go_enter Tryd.func58, Tryd.ntmps58
      go_wp2
      go_ret
      exact ⟨by first | rfl | (simp; done) | (simp [*]; done), by repeat (first | exact Drawn0.refl _ | apply Drawn0.step)⟩
     ·rw [if_neg c11] at H
      have c11b0 : decide (128 ≤ a1) = false := decide_eq_false c11
      clear c11
      obtain rfl := Option.some.inj H
      go_enter Tryd.func58, Tryd.ntmps58
      go_wp2
      go_ret
      exact ⟨by first | rfl | (simp; done) | (simp [*]; done), by repeat (first | exact Drawn0.refl _ | apply Drawn0.step)⟩
mutual
def tmesisref01_Take.j0 : Nat → List Int → Int → Bool → Option (Int × Bool)
 | 0, _, _, _ => none
 | k + 1, x0, x4, x34 => if x34 = true then (some (1, false)) else (tmesisref01_Take.l0 k x0 x4 2)
def tmesisref01_Take.l0 : Nat → List Int → Int → Int → Option (Int × Bool)
 | 0, _, _, _ => none
 | k + 1, x0, x4, x5 => if x5 < x4 then (if 0 ≤ x5 then (if x5 < (x0.length : Int) then (if (rd x0 x5) < 128 then (some (1, false)) else (if (rd x0 x5) > 191 then (some (1, false)) else (tmesisref01_Take.l0 k x0 x4 (wrap64 (x5 + 1))))) else (none)) else (none)) else (some (x4, true))
end
def tmesisref01_Take.f (k : Nat) (l0 : List Int) : Option (Int × Bool) := if (l0.length : Int) = 0 then (some (0, false)) else (if 0 < (l0.length : Int) then ((tmesisref01_long.f k (rd l0 0)).bind fun t277 => (if t277 = 0 then (tmesisref01_Take.j0 k l0 t277 true) else (if (l0.length : Int) < t277 then (tmesisref01_Take.j0 k l0 t277 true) else (if t277 > 1 then (if 1 < (l0.length : Int) then ((tmesisref01_second.f (rd l0 0) (rd l0 1)).bind fun t280 => (tmesisref01_Take.j0 k l0 t277 (!t280))) else (none)) else (tmesisref01_Take.j0 k l0 t277 false))))) else (none))
theorem tmesisref01_Take.mono_l : ∀ k, (∀ y0 y1 y2, LeO (tmesisref01_Take.j0 k y0 y1 y2) (tmesisref01_Take.j0 (k + 1) y0 y1 y2)) ∧ (∀ y0 y1 y2, LeO (tmesisref01_Take.l0 k y0 y1 y2) (tmesisref01_Take.l0 (k + 1) y0 y1 y2))
 | 0 => ⟨fun _ _ _ r h => by simp [tmesisref01_Take.j0] at h, fun _ _ _ r h => by simp [tmesisref01_Take.l0] at h⟩
 | k + 1 => by
  obtain ⟨ih0, ih1⟩ := tmesisref01_Take.mono_l k
  refine ⟨?_, ?_⟩
  ·intro y0 y1 y2
   unfold tmesisref01_Take.j0
   repeat' with_reducible first | exact ih0 _ _ _ | exact ih1 _ _ _ | exact tmesisref01_long.mono _ _ | exact LeO.refl _ | exact LeO.none _ | refine LeO.ite ?_ ?_ | refine LeO.bind ?_ (fun _ => ?_)
  ·intro y0 y1 y2
   unfold tmesisref01_Take.l0
   repeat' with_reducible first | exact ih0 _ _ _ | exact ih1 _ _ _ | exact tmesisref01_long.mono _ _ | exact LeO.refl _ | exact LeO.none _ | refine LeO.ite ?_ ?_ | refine LeO.bind ?_ (fun _ => ?_)
theorem tmesisref01_Take.mono : ∀ a0 k, LeO (tmesisref01_Take.f k a0) (tmesisref01_Take.f (k + 1) a0) := by
 intro a0 k
 obtain ⟨ih0, ih1⟩ := tmesisref01_Take.mono_l k
 unfold tmesisref01_Take.f
 repeat' with_reducible first | exact ih0 _ _ _ | exact ih1 _ _ _ | exact tmesisref01_long.mono _ _ | exact LeO.refl _ | exact LeO.none _ | refine LeO.ite ?_ ?_ | refine LeO.bind ?_ (fun _ => ?_)
set_option maxHeartbeats 8000000 in
set_option maxRecDepth 100000 in
theorem tmesisref01_Take.calls (k : Nat) (A0 : Option Addr) (c0 : Nat) (l0 : List Int) (r1 : Int) (r2 : Bool) (w : World) (hr0 : Kd.C (Kd.int .u8) w A0 l0.length l0) (hc0 : l0.length ≤ c0) (h : tmesisref01_Take.f k l0 = some (r1, r2)) :
  Calls Tryd.prog 36 #[.slice A0 l0.length c0] w fun e w' => e = .returned (.tuple #[.int .i64 r1, .bool r2]) ∧ Drawn0 w w' := by
 have HR0 := Aside0.mk hr0
 have HC0 := Aside0.mk hc0
 clear hr0 hc0
 have H : (if (l0.length : Int) = 0 then (some (0, false)) else (if 0 < (l0.length : Int) then ((tmesisref01_long.f k (rd l0 0)).bind fun t277 => (if t277 = 0 then (tmesisref01_Take.j0 k l0 t277 true) else (if (l0.length : Int) < t277 then (tmesisref01_Take.j0 k l0 t277 true) else (if t277 > 1 then (if 1 < (l0.length : Int) then ((tmesisref01_second.f (rd l0 0) (rd l0 1)).bind fun t280 => (tmesisref01_Take.j0 k l0 t277 (!t280))) else (none)) else (tmesisref01_Take.j0 k l0 t277 false))))) else (none))) = some (r1, r2) := h
 clear h
 by_cases c2 : (l0.length : Int) = 0
 ·rw [if_pos c2] at H
  obtain ⟨c2b0, c2b1⟩ := eqB c2
  clear c2
  simp only [Option.some.injEq, Prod.mk.injEq] at H
  obtain ⟨rfl, rfl⟩ := H
  go_enter Tryd.func36, Tryd.ntmps36
  go_wp2
  repeat (go_quiet (fail); try go_wp2)
  go_ret2
  exact ⟨by first | rfl | (simp; done) | (simp [*]; done), by repeat (first | exact Drawn0.refl _ | apply Drawn0.step)⟩
 ·rw [if_neg c2] at H
  obtain ⟨c2b0, c2b1⟩ := neB c2
  have c2b2 : ¬ (l0 = []) := fun h_ => c2 (by rw [h_]; rfl)
  by_cases c3 : 0 < (l0.length : Int)
  ·rw [if_pos c3] at H
   have c3b0 := decide_eq_true c3
   have c3b1 : decide (0 < l0.length) = true := decide_eq_true (by omega)
   clear c3
   obtain ⟨t277, A4, H⟩ := bE H
   have HC5 := Aside0.mk H
   clear H
   have p276 : 0 ≤ (0 : Int) := (by omega)
   have q276 : 0 < (l0.length : Int) := dt
   obtain ⟨ad276, e276, hx276_0⟩ := Kd.at_int HR0.out 0 p276 q276
   cases e276
   have qi276 : (0 < l0.length) = True := eq_true (by omega)
   (try rw [show ((0 : Int)).toNat = 0 from rfl] at hx276_0)
   (try rw [Addr.add_zero'] at hx276_0)
   replace p276 := eq_true p276
   replace q276 := eq_true q276
   go_enter Tryd.func36, Tryd.ntmps36
   go_upto_region 4 with (first | (go_at_call 57; (with_reducible refine (tmesisref01_long.calls k (rd l0 0) t277 _ A4.out).mono ?_); rintro e w' ⟨rfl, ⟨nd, rfl⟩⟩; (try first | exact ⟨rfl, _, World.drewN_drewN _ _ _⟩ | exact ⟨rfl, _, Eq.trans (World.drewN_drewN _ _ _) (congrArg (World.drewN _) (Nat.add_assoc _ _ _))⟩)))
   repeat (go_quiet (first | (go_at_call 57; (with_reducible refine (tmesisref01_long.calls k (rd l0 0) t277 _ A4.out).mono ?_); rintro e w' ⟨rfl, ⟨nd, rfl⟩⟩; (try first | exact ⟨rfl, _, World.drewN_drewN _ _ _⟩ | exact ⟨rfl, _, Eq.trans (World.drewN_drewN _ _ _) (congrArg (World.drewN _) (Nat.add_assoc _ _ _))⟩))); go_upto_region 4 with (first | (go_at_call 57; (with_reducible refine (tmesisref01_long.calls k (rd l0 0) t277 _ A4.out).mono ?_); rintro e w' ⟨rfl, ⟨nd, rfl⟩⟩; (try first | exact ⟨rfl, _, World.drewN_drewN _ _ _⟩ | exact ⟨rfl, _, Eq.trans (World.drewN_drewN _ _ _) (congrArg (World.drewN _) (Nat.add_assoc _ _ _))⟩))))
   (try simp only [Act.put, List.setIfInBounds_toArray, List.set_cons_zero, List.set_cons_succ])
   go_cut [34] (fun v34 wc => ∃ (kq : Nat) (x34_4 : Bool), v34 = .bool x34_4 ∧ Aside0 (tmesisref01_Take.j0 kq l0 t277 x34_4 = some (r1, r2)) ∧ Aside0 (kq ≤ k) ∧ Drawn0 w wc)
   case first =>
    have H := HC5.out
    clear HC5
    by_cases c6 : t277 = 0
    ·rw [if_pos c6] at H
     obtain ⟨c6b0, c6b1⟩ := eqB c6
     clear c6
     (first | rw [c6b0] | (simp only [i64_w, i32_w]; rw [c6b0]) | skip)
     have H' := Aside0.mk H
     clear H
     go_wp2
     repeat (go_quiet (fail); try go_wp2)
     go_meet
     case rel => exact ⟨_, (true), sR, H', ⟨by first | omega | exact Nat.le_refl _⟩, by repeat (first | exact Drawn0.refl _ | apply Drawn0.step)⟩
    ·rw [if_neg c6] at H
     obtain ⟨c6b0, c6b1⟩ := neB c6
     (first | rw [c6b0] | (simp only [i64_w, i32_w]; rw [c6b0]) | skip)
     by_cases c7 : (l0.length : Int) < t277
     ·rw [if_pos c7] at H
      have c7b0 := decide_eq_true c7
      clear c7
      have H' := Aside0.mk H
      clear H
      go_wp2
      repeat (go_quiet (fail); try go_wp2)
      go_meet
      case rel => exact ⟨_, (true), sR, H', ⟨by first | omega | exact Nat.le_refl _⟩, by repeat (first | exact Drawn0.refl _ | apply Drawn0.step)⟩
     ·rw [if_neg c7] at H
      have c7b0 := decide_eq_false c7
      clear c7
      by_cases c8 : t277 > 1
      ·rw [if_pos c8] at H
       have c8b0 : decide (1 < t277) = true := decide_eq_true c8
       clear c8
       by_cases c9 : 1 < (l0.length : Int)
       ·rw [if_pos c9] at H
        have c9b0 := decide_eq_true c9
        have c9b1 : decide (1 < l0.length) = true := decide_eq_true (by omega)
        clear c9
        obtain ⟨t280, A10, H⟩ := bE H
        have H' := Aside0.mk H
        clear H
        have p278 : 0 ≤ (0 : Int) := (by omega)
        have q278 : 0 < (l0.length : Int) := dt
        obtain ⟨ad278, e278, hx278_0⟩ := Kd.at_int HR0.out 0 p278 q278
        obtain rfl : ad276 = ad278 := (by injection e278)
        have qi278 : (0 < l0.length) = True := eq_true (by omega)
        (try rw [show ((0 : Int)).toNat = 0 from rfl] at hx278_0)
        (try rw [Addr.add_zero'] at hx278_0)
        replace p278 := eq_true p278
        replace q278 := eq_true q278
        have p279 : 0 ≤ (1 : Int) := (by omega)
        have q279 : 1 < (l0.length : Int) := dt
        obtain ⟨ad279, e279, hx279_0⟩ := Kd.at_int HR0.out 1 p279 q279
        obtain rfl : ad276 = ad279 := (by injection e279)
        (try simp only [show (1 : Int).toNat = 1 from rfl, Nat.reduceMul, Nat.reduceEqDiff, Go.Addr.add, ↓reduceIte] at hx279_0)
        have qi279 : (1 < l0.length) = True := eq_true (by omega)
        (try rw [show ((1 : Int)).toNat = 1 from rfl] at hx279_0)
        replace p279 := eq_true p279
        replace q279 := eq_true q279
        go_wp2_with (first | (go_at_call 58; (with_reducible refine (tmesisref01_second.calls (rd l0 0) (rd l0 1) t280 _ A10.out).mono ?_); rintro e w' ⟨rfl, ⟨nd, rfl⟩⟩; (try first | exact ⟨rfl, _, World.drewN_drewN _ _ _⟩ | exact ⟨rfl, _, Eq.trans (World.drewN_drewN _ _ _) (congrArg (World.drewN _) (Nat.add_assoc _ _ _))⟩)))
        repeat (go_quiet (first | (go_at_call 58; (with_reducible refine (tmesisref01_second.calls (rd l0 0) (rd l0 1) t280 _ A10.out).mono ?_); rintro e w' ⟨rfl, ⟨nd, rfl⟩⟩; (try first | exact ⟨rfl, _, World.drewN_drewN _ _ _⟩ | exact ⟨rfl, _, Eq.trans (World.drewN_drewN _ _ _) (congrArg (World.drewN _) (Nat.add_assoc _ _ _))⟩))); try go_wp2_with (first | (go_at_call 58; (with_reducible refine (tmesisref01_second.calls (rd l0 0) (rd l0 1) t280 _ A10.out).mono ?_); rintro e w' ⟨rfl, ⟨nd, rfl⟩⟩; (try first | exact ⟨rfl, _, World.drewN_drewN _ _ _⟩ | exact ⟨rfl, _, Eq.trans (World.drewN_drewN _ _ _) (congrArg (World.drewN _) (Nat.add_assoc _ _ _))⟩))))
        go_meet
        case rel => exact ⟨_, (!t280), sR, H', ⟨by first | omega | exact Nat.le_refl _⟩, by repeat (first | exact Drawn0.refl _ | apply Drawn0.step)⟩
       ·exact nB H c9
      ·rw [if_neg c8] at H
       have c8b0 : decide (1 < t277) = false := decide_eq_false c8
       clear c8
       have H' := Aside0.mk H
       clear H
       go_wp2
       repeat (go_quiet (fail); try go_wp2)
       go_meet
       case rel => exact ⟨_, (false), sR, H', ⟨by first | omega | exact Nat.le_refl _⟩, by repeat (first | exact Drawn0.refl _ | apply Drawn0.step)⟩
   case rest =>
    clear HC5
    try clear c2
    try clear c2b0 c2b1
    try clear c2b2
    try clear p2
    try clear q2
    try clear hx2
    try clear qi2
    try clear c3
    try clear c3b0 c3b1
    try clear c6
    try clear c6b0 c6b1
    try clear c7
    try clear c7b0
    try clear c8
    try clear c8b0
    try clear c9
    try clear c9b0 c9b1
    try clear hx276_0
    try clear hx278_0
    try clear hx279_0
    try clear p276
    try clear p278
    try clear p279
    try clear q276
    try clear q278
    try clear q279
    obtain ⟨kq, x34_4, rfl, HA, HJ4, ⟨mc4, rfl⟩⟩ := hcut
    cases kq with
    | zero => exact absurd HA.out (by simp [tmesisref01_Take.j0])
    | succ kj4 =>
     have H := HA.out
     clear HA
     simp only [tmesisref01_Take.j0] at H
     by_cases c11 : x34_4 = true
     ·subst c11
      replace H := tP H
      simp only [Option.some.injEq, Prod.mk.injEq] at H
      obtain ⟨rfl, rfl⟩ := H
      go_wp2
      repeat (go_quiet (fail); try go_wp2)
      go_ret2
      exact ⟨by first | rfl | (simp; done) | (simp [*]; done), by repeat (first | exact Drawn0.refl _ | apply Drawn0.step)⟩
     ·replace c11 := Bool.eq_false_iff.mpr c11
      subst c11
      replace H := fP H
      have H' := Aside0.mk H
      clear H
      go_wp2
      repeat (go_quiet (fail); try go_wp2)
      go_loopg [5] kj4 (fun kq v5 w' => ∃ (x5_2 : Int), v5 = .int .i64 x5_2 ∧ Aside0 (tmesisref01_Take.l0 kq l0 t277 x5_2 = some (r1, r2)) ∧ Aside0 (kq ≤ kj4) ∧ Drawn0 w w')
      case atStart => exact ⟨(2), sR, H', ⟨Nat.le_refl _⟩, by repeat (first | exact Drawn0.refl _ | apply Drawn0.step)⟩
      case round =>
       clear H'
       try clear c1
       try clear c2
       try clear c2b0 c2b1
       try clear c2b2
       try clear p2
       try clear q2
       try clear hx2
       try clear qi2
       try clear c3
       try clear c3b0 c3b1
       try clear c4
       try clear c6
       try clear c6b0 c6b1
       try clear c7
       try clear c7b0
       try clear c8
       try clear c8b0
       try clear c9
       try clear c9b0 c9b1
       try clear c11
       try clear hx276_0
       try clear hx278_0
       try clear hx279_0
       try clear p2
       try clear p276
       try clear p278
       try clear p279
       try clear q2
       try clear q276
       try clear q278
       try clear q279
       obtain ⟨x5_2, rfl, HA, HK2, ⟨m2, rfl⟩⟩ := hrel
       cases gk with
       | zero => exact absurd HA.out (by simp [tmesisref01_Take.l0])
       | succ k2 =>
        have H := HA.out
        clear HA
        simp only [tmesisref01_Take.l0] at H
        by_cases c12 : x5_2 < t277
        ·rw [if_pos c12] at H
         have c12b0 := decide_eq_true c12
         clear c12
         by_cases c13 : 0 ≤ x5_2
         ·rw [if_pos c13] at H
          have c13b0 := decide_eq_true c13
          clear c13
          by_cases c14 : x5_2 < (l0.length : Int)
          ·rw [if_pos c14] at H
           have c14b0 := decide_eq_true c14
           clear c14
           by_cases c15 : (rd l0 x5_2) < 128
           ·rw [if_pos c15] at H
            have c15b0 := decide_eq_true c15
            clear c15
            simp only [Option.some.injEq, Prod.mk.injEq] at H
            obtain ⟨rfl, rfl⟩ := H
            have p281 : 0 ≤ (x5_2 : Int) := dt
            have q281 : x5_2 < (l0.length : Int) := dt
            obtain ⟨ad281, e281, hx281_0⟩ := Kd.at_int HR0.out x5_2 p281 q281
            obtain rfl : ad276 = ad281 := (by injection e281)
            replace p281 := eq_true p281
            replace q281 := eq_true q281
            go_wp2
            repeat (go_quiet (fail); try go_wp2)
            go_ret2
            exact ⟨by first | rfl | (simp; done) | (simp [*]; done), by repeat (first | exact Drawn0.refl _ | apply Drawn0.step)⟩
           ·rw [if_neg c15] at H
            have c15b0 := decide_eq_false c15
            clear c15
            by_cases c16 : (rd l0 x5_2) > 191
            ·rw [if_pos c16] at H
             have c16b0 : decide (191 < (rd l0 x5_2)) = true := decide_eq_true c16
             clear c16
             simp only [Option.some.injEq, Prod.mk.injEq] at H
             obtain ⟨rfl, rfl⟩ := H
             have p281 : 0 ≤ (x5_2 : Int) := dt
             have q281 : x5_2 < (l0.length : Int) := dt
             obtain ⟨ad281, e281, hx281_0⟩ := Kd.at_int HR0.out x5_2 p281 q281
             obtain rfl : ad276 = ad281 := (by injection e281)
             replace p281 := eq_true p281
             replace q281 := eq_true q281
             have p282 : 0 ≤ (x5_2 : Int) := dt
             have q282 : x5_2 < (l0.length : Int) := dt
             obtain ⟨ad282, e282, hx282_0⟩ := Kd.at_int HR0.out x5_2 p282 q282
             obtain rfl : ad276 = ad282 := (by injection e282)
             replace p282 := eq_true p282
             replace q282 := eq_true q282
             go_wp2
             repeat (go_quiet (fail); try go_wp2)
             go_ret2
             exact ⟨by first | rfl | (simp; done) | (simp [*]; done), by repeat (first | exact Drawn0.refl _ | apply Drawn0.step)⟩
            ·rw [if_neg c16] at H
             have c16b0 : decide (191 < (rd l0 x5_2)) = false := decide_eq_false c16
             clear c16
             have H' := Aside0.mk H
             clear H
             have p281 : 0 ≤ (x5_2 : Int) := dt
             have q281 : x5_2 < (l0.length : Int) := dt
             obtain ⟨ad281, e281, hx281_0⟩ := Kd.at_int HR0.out x5_2 p281 q281
             obtain rfl : ad276 = ad281 := (by injection e281)
             replace p281 := eq_true p281
             replace q281 := eq_true q281
             have p282 : 0 ≤ (x5_2 : Int) := dt
             have q282 : x5_2 < (l0.length : Int) := dt
             obtain ⟨ad282, e282, hx282_0⟩ := Kd.at_int HR0.out x5_2 p282 q282
             obtain rfl : ad276 = ad282 := (by injection e282)
             replace p282 := eq_true p282
             replace q282 := eq_true q282
             go_wp2
             repeat (go_quiet (fail); try go_wp2)
             go_roundg k2
             case measure => have := HJ4.out; have := HK2.out; omega
             case rel => exact ⟨(wrap64 (x5_2 + 1)), sR, H', ⟨by have := HJ4.out; have := HK2.out; omega⟩, by repeat (first | exact Drawn0.refl _ | apply Drawn0.step)⟩
          ·exact nB H c14
         ·exact nB H c13
        ·rw [if_neg c12] at H
         have c12b0 := decide_eq_false c12
         clear c12
         simp only [Option.some.injEq, Prod.mk.injEq] at H
         obtain ⟨rfl, rfl⟩ := H
         go_wp2
         repeat (go_quiet (fail); try go_wp2)
         go_ret2
         exact ⟨by first | rfl | (simp; done) | (simp [*]; done), by repeat (first | exact Drawn0.refl _ | apply Drawn0.step)⟩
  ·exact nB H c3
end Go.Proofs.YtdejidhgeefmeaaDoor.P
