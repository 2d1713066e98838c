/- Part of the proof: what the theorem needs of this text. -/
import Derived.Test.YtflekegjmjjdmaaDoorKPx0
import Derived.Test.YtflekegjmjjdmaaDoorKPx9
namespace Go.Proofs.YtflekegjmjjdmaaDoor.P
open Go.RowKit Go.Proofs.YtflekegjmjjdmaaDoorW.PrintWords Go.Proofs.YtflekegjmjjdmaaDoorW.PrintLast Go.Proofs.YtflekegjmjjdmaaDoorW.PrintMore
attribute [local go_sem] max2_int min2_int max_two min_two max_three min_three max_four min_four   -- for this text's walks alone
set_option linter.unusedVariables false
set_option linter.unusedSimpArgs false
mutual
def tmesisref05_Skip.l0 : Nat → List Int → Int → Option (Int × Int)
 | 0, _, _ => none
 | k + 1, x0, x4 => if x4 < (x0.length : Int) then (if 0 ≤ x4 then ((tmesisref02_Of.f k (rd x0 x4)).bind fun t206 => (if t206 = 1 then (tmesisref05_Skip.l0 k x0 (wrap64 (x4 + 1))) else (if (rd x0 x4) = 37 then (tmesisref05_Skip.l1 k x0 x4) else ((tmesisref05_pair.f x0 x4 (⟨#[47, 42]⟩ : ByteArray)).bind fun t209 => (if t209 = true then ((tmesisref05_comment.f k x0 x4).bind fun t210 => (if t210 < 0 then (some (x4, 14)) else (tmesisref05_Skip.l0 k x0 t210))) else (some (x4, 0))))))) else (none)) else (some (x4, 0))
def tmesisref05_Skip.l1 : Nat → List Int → Int → Option (Int × Int)
 | 0, _, _ => none
 | k + 1, x0, x4 => if x4 < (x0.length : Int) then (if 0 ≤ x4 then (if (rd x0 x4) = 10 then (tmesisref05_Skip.l0 k x0 x4) else (tmesisref05_Skip.l1 k x0 (wrap64 (x4 + 1)))) else (none)) else (tmesisref05_Skip.l0 k x0 x4)
end
def tmesisref05_Skip.f (k : Nat) (l0 : List Int) : Option (Int × Int) := tmesisref05_Skip.l0 k l0 0
theorem tmesisref05_Skip.mono_l : ∀ k, (∀ y0 y1, LeO (tmesisref05_Skip.l0 k y0 y1) (tmesisref05_Skip.l0 (k + 1) y0 y1)) ∧ (∀ y0 y1, LeO (tmesisref05_Skip.l1 k y0 y1) (tmesisref05_Skip.l1 (k + 1) y0 y1))
 | 0 => ⟨fun _ _ r h => by simp [tmesisref05_Skip.l0] at h, fun _ _ r h => by simp [tmesisref05_Skip.l1] at h⟩
 | k + 1 => by
  obtain ⟨ih0, ih1⟩ := tmesisref05_Skip.mono_l k
  refine ⟨?_, ?_⟩
  ·intro y0 y1
   unfold tmesisref05_Skip.l0
   repeat' first
   | (with_reducible exact ih0 _ _)
   | (with_reducible exact ih1 _ _)
   | (with_reducible exact tmesisref02_Of.mono _ _)
   | (with_reducible exact tmesisref05_comment.mono _ _ _)
   | (with_reducible exact LeO.refl _)
   | (with_reducible exact LeO.none _)
   | (with_reducible refine LeO.ite ?_ ?_)
   | (with_reducible refine LeO.bind ?_ (fun _ => ?_))
   | exact ih0 _ _
   | exact ih1 _ _
   | exact tmesisref02_Of.mono _ _
   | exact tmesisref05_comment.mono _ _ _
   | exact LeO.none _
   | refine LeO.ite ?_ ?_
   | refine LeO.bind ?_ (fun _ => ?_)
  ·intro y0 y1
   unfold tmesisref05_Skip.l1
   repeat' first
   | (with_reducible exact ih0 _ _)
   | (with_reducible exact ih1 _ _)
   | (with_reducible exact tmesisref02_Of.mono _ _)
   | (with_reducible exact tmesisref05_comment.mono _ _ _)
   | (with_reducible exact LeO.refl _)
   | (with_reducible exact LeO.none _)
   | (with_reducible refine LeO.ite ?_ ?_)
   | (with_reducible refine LeO.bind ?_ (fun _ => ?_))
   | exact ih0 _ _
   | exact ih1 _ _
   | exact tmesisref02_Of.mono _ _
   | exact tmesisref05_comment.mono _ _ _
   | exact LeO.none _
   | refine LeO.ite ?_ ?_
   | refine LeO.bind ?_ (fun _ => ?_)
theorem tmesisref05_Skip.mono : ∀ a0 k, LeO (tmesisref05_Skip.f k a0) (tmesisref05_Skip.f (k + 1) a0) := by
 intro a0 k
 obtain ⟨ih0, ih1⟩ := tmesisref05_Skip.mono_l k
 unfold tmesisref05_Skip.f
 repeat' first
   | (with_reducible exact ih0 _ _)
   | (with_reducible exact ih1 _ _)
   | (with_reducible exact tmesisref02_Of.mono _ _)
   | (with_reducible exact tmesisref05_comment.mono _ _ _)
   | (with_reducible exact LeO.refl _)
   | (with_reducible exact LeO.none _)
   | (with_reducible refine LeO.ite ?_ ?_)
   | (with_reducible refine LeO.bind ?_ (fun _ => ?_))
   | exact ih0 _ _
   | exact ih1 _ _
   | exact tmesisref02_Of.mono _ _
   | exact tmesisref05_comment.mono _ _ _
   | exact LeO.none _
   | refine LeO.ite ?_ ?_
   | refine LeO.bind ?_ (fun _ => ?_)
set_option maxHeartbeats 8000000 in
set_option maxRecDepth 100000 in
theorem tmesisref05_Skip.calls (k : Nat) (A0 : Option Addr) (c0 : Nat) (l0 : List Int) (r1 : Int) (r2 : Int) (w : World) (hr0 : Kd.C (Kd.int .u8) w A0 l0.length l0) (hc0 : l0.length ≤ c0) (h : tmesisref05_Skip.f k l0 = some (r1, r2)) :
  Calls Tryd.prog 17 #[.slice A0 l0.length c0] w fun e w' => e = .returned (.tuple #[.int .i64 r1, .int .i64 r2]) ∧ Drawn0 w w' := by
 have HR0 := Aside0.mk hr0
 have HC0 := Aside0.mk hc0
 clear hr0 hc0
 have H : (tmesisref05_Skip.l0 k l0 0) = some (r1, r2) := h
 clear h
 have H' := Aside0.mk H
 clear H
 go_enter Tryd.func17, Tryd.ntmps17
 go_wp2
 go_loopg [4] k (fun kq v4 w' => ∃ (x4_1 : Int), v4 = .int .i64 x4_1 ∧ Aside0 (tmesisref05_Skip.l0 kq l0 x4_1 = some (r1, r2)) ∧ Aside0 (kq ≤ k) ∧ Drawn0 w w')
 case atStart => exact ⟨(0), (by first | rfl | (simp; done) | (simp [*]; done)), H', ⟨Nat.le_refl _⟩, by repeat (first | exact Drawn0.refl _ | apply Drawn0.step)⟩
 case round =>
  clear H'
  try clear c1
  obtain ⟨x4_1, rfl, HA, HK1, ⟨m1, rfl⟩⟩ := hrel
  cases gk with
  | zero => exact absurd HA.out (by simp [tmesisref05_Skip.l0])
  | succ k1 =>
   have H := HA.out
   clear HA
   simp only [tmesisref05_Skip.l0] at H
   by_cases c2 : x4_1 < (l0.length : Int)
   ·rw [if_pos c2] at H
    have c2b0 : decide (x4_1 < (l0.length : Int)) = true := decide_eq_true c2
    clear c2
    by_cases c3 : 0 ≤ x4_1
    ·rw [if_pos c3] at H
     have c3b0 : decide (0 ≤ x4_1) = true := decide_eq_true c3
     clear c3
     replace H := Option.bind_eq_some_iff.mp H
     obtain ⟨t206, A40, H⟩ := H
     replace H : (if t206 = 1 then (tmesisref05_Skip.l0 k1 l0 (wrap64 (x4_1 + 1))) else (if (rd l0 x4_1) = 37 then (tmesisref05_Skip.l1 k1 l0 x4_1) else ((tmesisref05_pair.f l0 x4_1 (⟨#[47, 42]⟩ : ByteArray)).bind fun t209 => (if t209 = true then ((tmesisref05_comment.f k1 l0 x4_1).bind fun t210 => (if t210 < 0 then (some (x4_1, 14)) else (tmesisref05_Skip.l0 k1 l0 t210))) else (some (x4_1, 0)))))) = some (r1, r2) := H
     have A4 := Aside0.mk A40
     clear A40
     by_cases c5 : t206 = 1
     ·rw [if_pos c5] at H
      have c5b0 : (t206 == 1) = true := beq_iff_eq.mpr c5
      have c5b1 : (t206 != 1) = false := bne_eq_false_iff_eq.mpr c5
      clear c5
      have H' := Aside0.mk H
      clear H
      have p205 : 0 ≤ (x4_1 : Int) := of_decide_eq_true (by first | (with_reducible assumption) | assumption)
      have q205 : x4_1 < (l0.length : Int) := of_decide_eq_true (by first | (with_reducible assumption) | assumption)
      obtain ⟨ad205, e205, hx205_0⟩ := Kd.at_int HR0.out x4_1 p205 q205
      cases e205
      replace p205 := eq_true p205
      replace q205 := eq_true q205
      go_wp2_with (first | ((with_reducible refine gate_callee (f := 29) rfl ?_); refine goesL_ (some 14) rfl rfl Tryd.func29 (by kernel_rfl) rfl #[.int .u8 (rd l0 x4_1)] rfl (by (try simp only [List.map_toArray, List.map_cons, List.map_nil]); first | done | rfl | (simp only [List.length_drop, List.length_take]; rfl)) ?_; (with_reducible refine (tmesisref02_Of.calls k1 (rd l0 x4_1) t206 _ A4.out).mono ?_); rintro e w' ⟨rfl, ⟨nd, rfl⟩⟩; refine ⟨_, rfl, ?_⟩))
      go_roundg k1
      case measure => have := HK1.out; omega
      case rel => exact ⟨(wrap64 (x4_1 + 1)), (by first | rfl | (simp; done) | (simp [*]; done)), H', ⟨by have := HK1.out; omega⟩, by repeat (first | exact Drawn0.refl _ | apply Drawn0.step)⟩
     ·rw [if_neg c5] at H
      have c5b0 : (t206 == 1) = false := beq_eq_false_iff_ne.mpr c5
      have c5b1 : (t206 != 1) = true := bne_iff_ne.mpr c5
      by_cases c6 : (rd l0 x4_1) = 37
      ·rw [if_pos c6] at H
       have c6b0 : ((rd l0 x4_1) == 37) = true := beq_iff_eq.mpr c6
       have c6b1 : ((rd l0 x4_1) != 37) = false := bne_eq_false_iff_eq.mpr c6
       clear c6
       have H' := Aside0.mk H
       clear H
       have p205 : 0 ≤ (x4_1 : Int) := of_decide_eq_true (by first | (with_reducible assumption) | assumption)
       have q205 : x4_1 < (l0.length : Int) := of_decide_eq_true (by first | (with_reducible assumption) | assumption)
       obtain ⟨ad205, e205, hx205_0⟩ := Kd.at_int HR0.out x4_1 p205 q205
       cases e205
       replace p205 := eq_true p205
       replace q205 := eq_true q205
       go_wp2_with (first | ((with_reducible refine gate_callee (f := 29) rfl ?_); refine goesL_ (some 14) rfl rfl Tryd.func29 (by kernel_rfl) rfl #[.int .u8 (rd l0 x4_1)] rfl (by (try simp only [List.map_toArray, List.map_cons, List.map_nil]); first | done | rfl | (simp only [List.length_drop, List.length_take]; rfl)) ?_; (with_reducible refine (tmesisref02_Of.calls k1 (rd l0 x4_1) t206 _ A4.out).mono ?_); rintro e w' ⟨rfl, ⟨nd, rfl⟩⟩; refine ⟨_, rfl, ?_⟩; have p207 : 0 ≤ (x4_1 : Int) := of_decide_eq_true (by first | (with_reducible assumption) | assumption); have q207 : x4_1 < (l0.length : Int) := of_decide_eq_true (by first | (with_reducible assumption) | assumption); obtain ⟨ad207, e207, hx207_0⟩ := Kd.at_int HR0.out x4_1 p207 q207; obtain rfl : ad205 = ad207 := (by injection e207); replace p207 := eq_true p207; replace q207 := eq_true q207))
       go_loopg [4] k1 (fun kq v4 w' => ∃ (x4_2 : Int), v4 = .int .i64 x4_2 ∧ Aside0 (tmesisref05_Skip.l1 kq l0 x4_2 = some (r1, r2)) ∧ Aside0 (kq ≤ k1) ∧ Drawn0 w w')
       case atStart => exact ⟨(x4_1), (by first | rfl | (simp; done) | (simp [*]; done)), H', ⟨Nat.le_refl _⟩, by repeat (first | exact Drawn0.refl _ | apply Drawn0.step)⟩
       case round =>
        clear H'
        try clear c1
        try clear c2
        try clear c2b0
        try clear p2
        try clear q2
        try clear hx2
        try clear c3
        try clear c3b0
        try clear c5
        try clear c5b0
        try clear c5b1
        try clear c6
        try clear c6b0
        try clear c6b1
        try clear p6
        try clear hx205_0
        try clear hx207_0
        try clear p205
        try clear p207
        try clear q205
        try clear q207
        obtain ⟨x4_2, rfl, HA, HK2, ⟨m2, rfl⟩⟩ := hrel
        cases gk with
        | zero => exact absurd HA.out (by simp [tmesisref05_Skip.l1])
        | succ k2 =>
         have H := HA.out
         clear HA
         simp only [tmesisref05_Skip.l1] at H
         by_cases c7 : x4_2 < (l0.length : Int)
         ·rw [if_pos c7] at H
          have c7b0 : decide (x4_2 < (l0.length : Int)) = true := decide_eq_true c7
          clear c7
          by_cases c8 : 0 ≤ x4_2
          ·rw [if_pos c8] at H
           have c8b0 : decide (0 ≤ x4_2) = true := decide_eq_true c8
           clear c8
           by_cases c9 : (rd l0 x4_2) = 10
           ·rw [if_pos c9] at H
            have c9b0 : ((rd l0 x4_2) == 10) = true := beq_iff_eq.mpr c9
            have c9b1 : ((rd l0 x4_2) != 10) = false := bne_eq_false_iff_eq.mpr c9
            clear c9
            have H' := Aside0.mk H
            clear H
            have p208 : 0 ≤ (x4_2 : Int) := of_decide_eq_true (by first | (with_reducible assumption) | assumption)
            have q208 : x4_2 < (l0.length : Int) := of_decide_eq_true (by first | (with_reducible assumption) | assumption)
            obtain ⟨ad208, e208, hx208_0⟩ := Kd.at_int HR0.out x4_2 p208 q208
            obtain rfl : ad205 = ad208 := (by injection e208)
            replace p208 := eq_true p208
            replace q208 := eq_true q208
            go_wp2
            go_roundg k2
            case measure => have := HK1.out; have := HK2.out; omega
            case rel => exact ⟨(x4_2), (by first | rfl | (simp; done) | (simp [*]; done)), H', ⟨by have := HK1.out; have := HK2.out; omega⟩, by repeat (first | exact Drawn0.refl _ | apply Drawn0.step)⟩
           ·rw [if_neg c9] at H
            have c9b0 : ((rd l0 x4_2) == 10) = false := beq_eq_false_iff_ne.mpr c9
            have c9b1 : ((rd l0 x4_2) != 10) = true := bne_iff_ne.mpr c9
            have H' := Aside0.mk H
            clear H
            have p208 : 0 ≤ (x4_2 : Int) := of_decide_eq_true (by first | (with_reducible assumption) | assumption)
            have q208 : x4_2 < (l0.length : Int) := of_decide_eq_true (by first | (with_reducible assumption) | assumption)
            obtain ⟨ad208, e208, hx208_0⟩ := Kd.at_int HR0.out x4_2 p208 q208
            obtain rfl : ad205 = ad208 := (by injection e208)
            replace p208 := eq_true p208
            replace q208 := eq_true q208
            go_wp2
            go_roundg k2
            case measure => have := HK1.out; have := HK2.out; omega
            case rel => exact ⟨(wrap64 (x4_2 + 1)), (by first | rfl | (simp; done) | (simp [*]; done)), H', ⟨by have := HK1.out; have := HK2.out; omega⟩, by repeat (first | exact Drawn0.refl _ | apply Drawn0.step)⟩
          ·rw [if_neg c8] at H
           exact absurd H (by simp)
         ·rw [if_neg c7] at H
          have c7b0 : decide (x4_2 < (l0.length : Int)) = false := decide_eq_false c7
          clear c7
          have H' := Aside0.mk H
          clear H
          go_wp2
          go_roundg k2
          case measure => have := HK1.out; have := HK2.out; omega
          case rel => exact ⟨(x4_2), (by first | rfl | (simp; done) | (simp [*]; done)), H', ⟨by have := HK1.out; have := HK2.out; omega⟩, by repeat (first | exact Drawn0.refl _ | apply Drawn0.step)⟩
      ·rw [if_neg c6] at H
       have c6b0 : ((rd l0 x4_1) == 37) = false := beq_eq_false_iff_ne.mpr c6
       have c6b1 : ((rd l0 x4_1) != 37) = true := bne_iff_ne.mpr c6
       replace H := Option.bind_eq_some_iff.mp H
       obtain ⟨t209, A100, H⟩ := H
       replace H : (if t209 = true then ((tmesisref05_comment.f k1 l0 x4_1).bind fun t210 => (if t210 < 0 then (some (x4_1, 14)) else (tmesisref05_Skip.l0 k1 l0 t210))) else (some (x4_1, 0))) = some (r1, r2) := H
       have A10 := Aside0.mk A100
       clear A100
       by_cases c11 : t209 = true
       ·subst c11
        have H1 : ((tmesisref05_comment.f k1 l0 x4_1).bind fun t210 => (if t210 < 0 then (some (x4_1, 14)) else (tmesisref05_Skip.l0 k1 l0 t210))) = some (r1, r2) := by rw [if_pos rfl] at H; exact H
        clear H
        have H := H1
        clear H1
        replace H := Option.bind_eq_some_iff.mp H
        obtain ⟨t210, A120, H⟩ := H
        replace H : (if t210 < 0 then (some (x4_1, 14)) else (tmesisref05_Skip.l0 k1 l0 t210)) = some (r1, r2) := H
        have A12 := Aside0.mk A120
        clear A120
        by_cases c13 : t210 < 0
        ·rw [if_pos c13] at H
         have c13b0 : decide (t210 < 0) = true := decide_eq_true c13
         clear c13
         simp only [Option.some.injEq, Prod.mk.injEq] at H
         obtain ⟨rfl, rfl⟩ := H
         have p205 : 0 ≤ (x4_1 : Int) := of_decide_eq_true (by first | (with_reducible assumption) | assumption)
         have q205 : x4_1 < (l0.length : Int) := of_decide_eq_true (by first | (with_reducible assumption) | assumption)
         obtain ⟨ad205, e205, hx205_0⟩ := Kd.at_int HR0.out x4_1 p205 q205
         cases e205
         replace p205 := eq_true p205
         replace q205 := eq_true q205
         go_wp2_with (first | ((with_reducible refine gate_callee (f := 29) rfl ?_); refine goesL_ (some 14) rfl rfl Tryd.func29 (by kernel_rfl) rfl #[.int .u8 (rd l0 x4_1)] rfl (by (try simp only [List.map_toArray, List.map_cons, List.map_nil]); first | done | rfl | (simp only [List.length_drop, List.length_take]; rfl)) ?_; (with_reducible refine (tmesisref02_Of.calls k1 (rd l0 x4_1) t206 _ A4.out).mono ?_); rintro e w' ⟨rfl, ⟨nd, rfl⟩⟩; refine ⟨_, rfl, ?_⟩; have p207 : 0 ≤ (x4_1 : Int) := of_decide_eq_true (by first | (with_reducible assumption) | assumption); have q207 : x4_1 < (l0.length : Int) := of_decide_eq_true (by first | (with_reducible assumption) | assumption); obtain ⟨ad207, e207, hx207_0⟩ := Kd.at_int HR0.out x4_1 p207 q207; obtain rfl : ad205 = ad207 := (by injection e207); replace p207 := eq_true p207; replace q207 := eq_true q207) | ((with_reducible refine gate_callee (f := 30) rfl ?_); refine goesL_ (some 38) rfl rfl Tryd.func30 (by kernel_rfl) rfl #[.slice (some ad205) l0.length c0, .int .i64 x4_1, .string (⟨#[47, 42]⟩ : ByteArray)] rfl (by (try simp only [List.map_toArray, List.map_cons, List.map_nil]); first | done | rfl | (simp only [List.length_drop, List.length_take]; rfl)) ?_; (with_reducible refine (tmesisref05_pair.calls _ _ l0 x4_1 (⟨#[47, 42]⟩ : ByteArray) true _ ?side1 ?side2 A10.out).mono ?_); (case side1 => repeat (first | exact HR0.out | (with_reducible refine Kd.C_alloc ?_ _) | (with_reducible refine Kd.C_drewN ?_ _) | (with_reducible refine Kd.C_drew ?_))); (case side2 => exact HC0.out); rintro e w' ⟨rfl, ⟨nd, rfl⟩⟩; refine ⟨_, rfl, ?_⟩) | ((with_reducible refine gate_callee (f := 31) rfl ?_); refine goesL_ (some 41) rfl rfl Tryd.func31 (by kernel_rfl) rfl #[.slice (some ad205) l0.length c0, .int .i64 x4_1] rfl (by (try simp only [List.map_toArray, List.map_cons, List.map_nil]); first | done | rfl | (simp only [List.length_drop, List.length_take]; rfl)) ?_; (with_reducible refine (tmesisref05_comment.calls k1 _ _ l0 x4_1 t210 _ ?side1 ?side2 A12.out).mono ?_); (case side1 => repeat (first | exact HR0.out | (with_reducible refine Kd.C_alloc ?_ _) | (with_reducible refine Kd.C_drewN ?_ _) | (with_reducible refine Kd.C_drew ?_))); (case side2 => exact HC0.out); rintro e w' ⟨rfl, ⟨nd, rfl⟩⟩; refine ⟨_, rfl, ?_⟩))
         go_ret2
         exact ⟨by first | rfl | (simp; done) | (simp [*]; done), by repeat (first | exact Drawn0.refl _ | apply Drawn0.step)⟩
        ·rw [if_neg c13] at H
         have c13b0 : decide (t210 < 0) = false := decide_eq_false c13
         clear c13
         have H' := Aside0.mk H
         clear H
         have p205 : 0 ≤ (x4_1 : Int) := of_decide_eq_true (by first | (with_reducible assumption) | assumption)
         have q205 : x4_1 < (l0.length : Int) := of_decide_eq_true (by first | (with_reducible assumption) | assumption)
         obtain ⟨ad205, e205, hx205_0⟩ := Kd.at_int HR0.out x4_1 p205 q205
         cases e205
         replace p205 := eq_true p205
         replace q205 := eq_true q205
         go_wp2_with (first | ((with_reducible refine gate_callee (f := 29) rfl ?_); refine goesL_ (some 14) rfl rfl Tryd.func29 (by kernel_rfl) rfl #[.int .u8 (rd l0 x4_1)] rfl (by (try simp only [List.map_toArray, List.map_cons, List.map_nil]); first | done | rfl | (simp only [List.length_drop, List.length_take]; rfl)) ?_; (with_reducible refine (tmesisref02_Of.calls k1 (rd l0 x4_1) t206 _ A4.out).mono ?_); rintro e w' ⟨rfl, ⟨nd, rfl⟩⟩; refine ⟨_, rfl, ?_⟩; have p207 : 0 ≤ (x4_1 : Int) := of_decide_eq_true (by first | (with_reducible assumption) | assumption); have q207 : x4_1 < (l0.length : Int) := of_decide_eq_true (by first | (with_reducible assumption) | assumption); obtain ⟨ad207, e207, hx207_0⟩ := Kd.at_int HR0.out x4_1 p207 q207; obtain rfl : ad205 = ad207 := (by injection e207); replace p207 := eq_true p207; replace q207 := eq_true q207) | ((with_reducible refine gate_callee (f := 30) rfl ?_); refine goesL_ (some 38) rfl rfl Tryd.func30 (by kernel_rfl) rfl #[.slice (some ad205) l0.length c0, .int .i64 x4_1, .string (⟨#[47, 42]⟩ : ByteArray)] rfl (by (try simp only [List.map_toArray, List.map_cons, List.map_nil]); first | done | rfl | (simp only [List.length_drop, List.length_take]; rfl)) ?_; (with_reducible refine (tmesisref05_pair.calls _ _ l0 x4_1 (⟨#[47, 42]⟩ : ByteArray) true _ ?side1 ?side2 A10.out).mono ?_); (case side1 => repeat (first | exact HR0.out | (with_reducible refine Kd.C_alloc ?_ _) | (with_reducible refine Kd.C_drewN ?_ _) | (with_reducible refine Kd.C_drew ?_))); (case side2 => exact HC0.out); rintro e w' ⟨rfl, ⟨nd, rfl⟩⟩; refine ⟨_, rfl, ?_⟩) | ((with_reducible refine gate_callee (f := 31) rfl ?_); refine goesL_ (some 41) rfl rfl Tryd.func31 (by kernel_rfl) rfl #[.slice (some ad205) l0.length c0, .int .i64 x4_1] rfl (by (try simp only [List.map_toArray, List.map_cons, List.map_nil]); first | done | rfl | (simp only [List.length_drop, List.length_take]; rfl)) ?_; (with_reducible refine (tmesisref05_comment.calls k1 _ _ l0 x4_1 t210 _ ?side1 ?side2 A12.out).mono ?_); (case side1 => repeat (first | exact HR0.out | (with_reducible refine Kd.C_alloc ?_ _) | (with_reducible refine Kd.C_drewN ?_ _) | (with_reducible refine Kd.C_drew ?_))); (case side2 => exact HC0.out); rintro e w' ⟨rfl, ⟨nd, rfl⟩⟩; refine ⟨_, rfl, ?_⟩))
         go_roundg k1
         case measure => have := HK1.out; omega
         case rel => exact ⟨(t210), (by first | rfl | (simp; done) | (simp [*]; done)), H', ⟨by have := HK1.out; omega⟩, by repeat (first | exact Drawn0.refl _ | apply Drawn0.step)⟩
       ·replace c11 := Bool.eq_false_iff.mpr c11
        subst c11
        have H1 : (some (x4_1, 0)) = some (r1, r2) := by rw [if_neg (show ¬ (false = true) by decide)] at H; exact H
        clear H
        have H := H1
        clear H1
        simp only [Option.some.injEq, Prod.mk.injEq] at H
        obtain ⟨rfl, rfl⟩ := H
        have p205 : 0 ≤ (x4_1 : Int) := of_decide_eq_true (by first | (with_reducible assumption) | assumption)
        have q205 : x4_1 < (l0.length : Int) := of_decide_eq_true (by first | (with_reducible assumption) | assumption)
        obtain ⟨ad205, e205, hx205_0⟩ := Kd.at_int HR0.out x4_1 p205 q205
        cases e205
        replace p205 := eq_true p205
        replace q205 := eq_true q205
        go_wp2_with (first | ((with_reducible refine gate_callee (f := 29) rfl ?_); refine goesL_ (some 14) rfl rfl Tryd.func29 (by kernel_rfl) rfl #[.int .u8 (rd l0 x4_1)] rfl (by (try simp only [List.map_toArray, List.map_cons, List.map_nil]); first | done | rfl | (simp only [List.length_drop, List.length_take]; rfl)) ?_; (with_reducible refine (tmesisref02_Of.calls k1 (rd l0 x4_1) t206 _ A4.out).mono ?_); rintro e w' ⟨rfl, ⟨nd, rfl⟩⟩; refine ⟨_, rfl, ?_⟩; have p207 : 0 ≤ (x4_1 : Int) := of_decide_eq_true (by first | (with_reducible assumption) | assumption); have q207 : x4_1 < (l0.length : Int) := of_decide_eq_true (by first | (with_reducible assumption) | assumption); obtain ⟨ad207, e207, hx207_0⟩ := Kd.at_int HR0.out x4_1 p207 q207; obtain rfl : ad205 = ad207 := (by injection e207); replace p207 := eq_true p207; replace q207 := eq_true q207) | ((with_reducible refine gate_callee (f := 30) rfl ?_); refine goesL_ (some 38) rfl rfl Tryd.func30 (by kernel_rfl) rfl #[.slice (some ad205) l0.length c0, .int .i64 x4_1, .string (⟨#[47, 42]⟩ : ByteArray)] rfl (by (try simp only [List.map_toArray, List.map_cons, List.map_nil]); first | done | rfl | (simp only [List.length_drop, List.length_take]; rfl)) ?_; (with_reducible refine (tmesisref05_pair.calls _ _ l0 x4_1 (⟨#[47, 42]⟩ : ByteArray) false _ ?side1 ?side2 A10.out).mono ?_); (case side1 => repeat (first | exact HR0.out | (with_reducible refine Kd.C_alloc ?_ _) | (with_reducible refine Kd.C_drewN ?_ _) | (with_reducible refine Kd.C_drew ?_))); (case side2 => exact HC0.out); rintro e w' ⟨rfl, ⟨nd, rfl⟩⟩; refine ⟨_, rfl, ?_⟩))
        go_ret2
        exact ⟨by first | rfl | (simp; done) | (simp [*]; done), by repeat (first | exact Drawn0.refl _ | apply Drawn0.step)⟩
    ·rw [if_neg c3] at H
     exact absurd H (by simp)
   ·rw [if_neg c2] at H
    have c2b0 : decide (x4_1 < (l0.length : Int)) = false := decide_eq_false c2
    clear c2
    simp only [Option.some.injEq, Prod.mk.injEq] at H
    obtain ⟨rfl, rfl⟩ := H
    go_wp2
    go_ret2
    exact ⟨by first | rfl | (simp; done) | (simp [*]; done), by repeat (first | exact Drawn0.refl _ | apply Drawn0.step)⟩
def tmesisref01_long.j0 : Nat → Int → Bool → Option (Int)
 | 0, _, _ => none
 | k + 1, x0, x10 => if x10 = true then (some 0) else (if x0 < 224 then (some 2) else (if x0 < 240 then (some 3) else (some 4)))
def tmesisref01_long.f (k : Nat) (a0 : Int) : Option (Int) := if a0 < 128 then (some 1) else (if a0 < 194 then (tmesisref01_long.j0 k a0 true) else (tmesisref01_long.j0 k a0 (decide (a0 > 244))))
theorem tmesisref01_long.mono_l : ∀ k, (∀ y0 y1, LeO (tmesisref01_long.j0 k y0 y1) (tmesisref01_long.j0 (k + 1) y0 y1))
 | 0 => fun _ _ r h => by simp [tmesisref01_long.j0] at h
 | k + 1 => by
  have ih0 := tmesisref01_long.mono_l k
  ·intro y0 y1
   unfold tmesisref01_long.j0
   repeat' first
   | (with_reducible exact ih0 _ _)
   | (with_reducible exact LeO.refl _)
   | (with_reducible exact LeO.none _)
   | (with_reducible refine LeO.ite ?_ ?_)
   | (with_reducible refine LeO.bind ?_ (fun _ => ?_))
   | exact ih0 _ _
   | exact LeO.none _
   | refine LeO.ite ?_ ?_
   | refine LeO.bind ?_ (fun _ => ?_)
theorem tmesisref01_long.mono : ∀ a0 k, LeO (tmesisref01_long.f k a0) (tmesisref01_long.f (k + 1) a0) := by
 intro a0 k
 have ih0 := tmesisref01_long.mono_l k
 unfold tmesisref01_long.f
 repeat' first
   | (with_reducible exact ih0 _ _)
   | (with_reducible exact LeO.refl _)
   | (with_reducible exact LeO.none _)
   | (with_reducible refine LeO.ite ?_ ?_)
   | (with_reducible refine LeO.bind ?_ (fun _ => ?_))
   | exact ih0 _ _
   | exact LeO.none _
   | refine LeO.ite ?_ ?_
   | refine LeO.bind ?_ (fun _ => ?_)
set_option maxHeartbeats 8000000 in
set_option maxRecDepth 100000 in
theorem tmesisref01_long.calls (k : Nat) (a0 : Int) (r : Int) (w : World) (h : tmesisref01_long.f k a0 = some r) :
  Calls Tryd.prog 46 #[.int .u8 a0] w fun e w' => e = .returned (.int .i64 r) ∧ Drawn0 w w' := by
 have H : (if a0 < 128 then (some 1) else (if a0 < 194 then (tmesisref01_long.j0 k a0 true) else (tmesisref01_long.j0 k a0 (decide (a0 > 244))))) = some r := h
 clear h
 by_cases c2 : a0 < 128
 ·rw [if_pos c2] at H
  have c2b0 : decide (a0 < 128) = true := decide_eq_true c2
  clear c2
  obtain rfl := Option.some.inj H
  go_enter Tryd.func46, Tryd.ntmps46
  go_wp2
  go_ret
  exact ⟨by first | rfl | (simp; done) | (simp [*]; done), by repeat (first | exact Drawn0.refl _ | apply Drawn0.step)⟩
 ·rw [if_neg c2] at H
  have c2b0 : decide (a0 < 128) = false := decide_eq_false c2
  clear c2
  have HC3 := Aside0.mk H
  clear H
  go_enter Tryd.func46, Tryd.ntmps46
  go_upto_region 3 with (fail)
  go_cut [10] (fun v10 wc => ∃ (kq : Nat) (x10_2 : Bool), v10 = .bool x10_2 ∧ Aside0 (tmesisref01_long.j0 kq a0 x10_2 = some r) ∧ Aside0 (kq ≤ k) ∧ Drawn0 w wc)
  case first =>
   have H := HC3.out
   clear HC3
   by_cases c4 : a0 < 194
   ·rw [if_pos c4] at H
    have c4b0 : decide (a0 < 194) = true := decide_eq_true c4
    clear c4
    (first | rw [c4b0] | (simp only [i64_w, i32_w]; rw [c4b0]) | skip)
    have H' := Aside0.mk H
    clear H
    go_wp2
    go_meet
    case rel => exact ⟨_, (true), (by first | rfl | (simp; done) | (simp [*]; done)), H', ⟨by first | omega | exact Nat.le_refl _⟩, by repeat (first | exact Drawn0.refl _ | apply Drawn0.step)⟩
   ·rw [if_neg c4] at H
    have c4b0 : decide (a0 < 194) = false := decide_eq_false c4
    clear c4
    (first | rw [c4b0] | (simp only [i64_w, i32_w]; rw [c4b0]) | skip)
    have H' := Aside0.mk H
    clear H
    go_wp2
    go_meet
    case rel => exact ⟨_, (decide (a0 > 244)), (by first | rfl | (simp; done) | (simp [*]; done)), H', ⟨by first | omega | exact Nat.le_refl _⟩, by repeat (first | exact Drawn0.refl _ | apply Drawn0.step)⟩
  case rest =>
   clear HC3
   try clear c2
   try clear c2b0
   try clear p2
   try clear c4
   try clear c4b0
   obtain ⟨kq, x10_2, rfl, HA, HJ2, ⟨mc2, rfl⟩⟩ := hcut
   cases kq with
   | zero => exact absurd HA.out (by simp [tmesisref01_long.j0])
   | succ kj2 =>
    have H := HA.out
    clear HA
    simp only [tmesisref01_long.j0] at H
    by_cases c5 : x10_2 = true
    ·subst c5
     have H1 : (some 0) = some r := by rw [if_pos rfl] at H; exact H
     clear H
     have H := H1
     clear H1
     obtain rfl := Option.some.inj H
     go_wp2
     go_ret
     exact ⟨by first | rfl | (simp; done) | (simp [*]; done), by repeat (first | exact Drawn0.refl _ | apply Drawn0.step)⟩
    ·replace c5 := Bool.eq_false_iff.mpr c5
     subst c5
     have H1 : (if a0 < 224 then (some 2) else (if a0 < 240 then (some 3) else (some 4))) = some r := by rw [if_neg (show ¬ (false = true) by decide)] at H; exact H
     clear H
     have H := H1
     clear H1
     by_cases c6 : a0 < 224
     ·rw [if_pos c6] at H
      have c6b0 : decide (a0 < 224) = true := decide_eq_true c6
      clear c6
      obtain rfl := Option.some.inj H
      go_wp2
      go_ret
      exact ⟨by first | rfl | (simp; done) | (simp [*]; done), by repeat (first | exact Drawn0.refl _ | apply Drawn0.step)⟩
     ·rw [if_neg c6] at H
      have c6b0 : decide (a0 < 224) = false := decide_eq_false c6
      clear c6
      by_cases c7 : a0 < 240
      ·rw [if_pos c7] at H
       have c7b0 : decide (a0 < 240) = true := decide_eq_true c7
       clear c7
       obtain rfl := Option.some.inj H
       go_wp2
       go_ret
       exact ⟨by first | rfl | (simp; done) | (simp [*]; done), by repeat (first | exact Drawn0.refl _ | apply Drawn0.step)⟩
      ·rw [if_neg c7] at H
       have c7b0 : decide (a0 < 240) = false := decide_eq_false c7
       clear c7
       obtain rfl := Option.some.inj H
       go_wp2
       go_ret
       exact ⟨by first | rfl | (simp; done) | (simp [*]; done), by repeat (first | exact Drawn0.refl _ | apply Drawn0.step)⟩
def tmesisref01_second.f (a0 : Int) (a1 : Int) : Option (Bool) := if a0 = 224 then (if a1 ≥ 160 then (some (decide (a1 ≤ 191))) else (some false)) else (if a0 = 237 then (if a1 ≥ 128 then (some (decide (a1 ≤ 159))) else (some false)) else (if a0 = 240 then (if a1 ≥ 144 then (some (decide (a1 ≤ 191))) else (some false)) else (if a0 = 244 then (if a1 ≥ 128 then (some (decide (a1 ≤ 143))) else (some false)) else (if a1 ≥ 128 then (some (decide (a1 ≤ 191))) else (some false)))))
set_option maxHeartbeats 8000000 in
set_option maxRecDepth 100000 in
theorem tmesisref01_second.calls (a0 : Int) (a1 : Int) (r : Bool) (w : World) (h : tmesisref01_second.f a0 a1 = some r) :
  Calls Tryd.prog 47 #[.int .u8 a0, .int .u8 a1] w fun e w' => e = .returned (.bool r) ∧ Drawn0 w w' := by
 have H : (if a0 = 224 then (if a1 ≥ 160 then (some (decide (a1 ≤ 191))) else (some false)) else (if a0 = 237 then (if a1 ≥ 128 then (some (decide (a1 ≤ 159))) else (some false)) else (if a0 = 240 then (if a1 ≥ 144 then (some (decide (a1 ≤ 191))) else (some false)) else (if a0 = 244 then (if a1 ≥ 128 then (some (decide (a1 ≤ 143))) else (some false)) else (if a1 ≥ 128 then (some (decide (a1 ≤ 191))) else (some false)))))) = some r := h
 clear h
 by_cases c3 : a0 = 224
 ·rw [if_pos c3] at H
  have c3b0 : (a0 == 224) = true := beq_iff_eq.mpr c3
  have c3b1 : (a0 != 224) = false := bne_eq_false_iff_eq.mpr c3
  clear c3
  by_cases c4 : a1 ≥ 160
  ·rw [if_pos c4] at H
   have c4b0 : decide (160 ≤ a1) = true := decide_eq_true c4
   clear c4
   obtain rfl := Option.some.inj H
   go_enter Tryd.func47, Tryd.ntmps47
   go_wp2
   go_ret
   exact ⟨by first | rfl | (simp; done) | (simp [*]; done), by repeat (first | exact Drawn0.refl _ | apply Drawn0.step)⟩
  ·rw [if_neg c4] at H
   have c4b0 : decide (160 ≤ a1) = false := decide_eq_false c4
   clear c4
   obtain rfl := Option.some.inj H
   go_enter Tryd.func47, Tryd.ntmps47
   go_wp2
   go_ret
   exact ⟨by first | rfl | (simp; done) | (simp [*]; done), by repeat (first | exact Drawn0.refl _ | apply Drawn0.step)⟩
 ·rw [if_neg c3] at H
  have c3b0 : (a0 == 224) = false := beq_eq_false_iff_ne.mpr c3
  have c3b1 : (a0 != 224) = true := bne_iff_ne.mpr c3
  by_cases c5 : a0 = 237
  ·rw [if_pos c5] at H
   have c5b0 : (a0 == 237) = true := beq_iff_eq.mpr c5
   have c5b1 : (a0 != 237) = false := bne_eq_false_iff_eq.mpr c5
   clear c5
   by_cases c6 : a1 ≥ 128
   ·rw [if_pos c6] at H
    have c6b0 : decide (128 ≤ a1) = true := decide_eq_true c6
    clear c6
    obtain rfl := Option.some.inj H
    go_enter Tryd.func47, Tryd.ntmps47
    go_wp2
    go_ret
    exact ⟨by first | rfl | (simp; done) | (simp [*]; done), by repeat (first | exact Drawn0.refl _ | apply Drawn0.step)⟩
   ·rw [if_neg c6] at H
    have c6b0 : decide (128 ≤ a1) = false := decide_eq_false c6
    clear c6
    obtain rfl := Option.some.inj H
    go_enter Tryd.func47, Tryd.ntmps47
    go_wp2
    go_ret
    exact ⟨by first | rfl | (simp; done) | (simp [*]; done), by repeat (first | exact Drawn0.refl _ | apply Drawn0.step)⟩
  ·rw [if_neg c5] at H
   have c5b0 : (a0 == 237) = false := beq_eq_false_iff_ne.mpr c5
   have c5b1 : (a0 != 237) = true := bne_iff_ne.mpr c5
   by_cases c7 : a0 = 240
   ·rw [if_pos c7] at H
    have c7b0 : (a0 == 240) = true := beq_iff_eq.mpr c7
    have c7b1 : (a0 != 240) = false := bne_eq_false_iff_eq.mpr c7
    clear c7
    by_cases c8 : a1 ≥ 144
    ·rw [if_pos c8] at H
     have c8b0 : decide (144 ≤ a1) = true := decide_eq_true c8
     clear c8
     obtain rfl := Option.some.inj H
     go_enter Tryd.func47, Tryd.ntmps47
     go_wp2
     go_ret
     exact ⟨by first | rfl | (simp; done) | (simp [*]; done), by repeat (first | exact Drawn0.refl _ | apply Drawn0.step)⟩
    ·rw [if_neg c8] at H
     have c8b0 : decide (144 ≤ a1) = false := decide_eq_false c8
     clear c8
     obtain rfl := Option.some.inj H
     go_enter Tryd.func47, Tryd.ntmps47
     go_wp2
     go_ret
     exact ⟨by first | rfl | (simp; done) | (simp [*]; done), by repeat (first | exact Drawn0.refl _ | apply Drawn0.step)⟩
   ·rw [if_neg c7] at H
    have c7b0 : (a0 == 240) = false := beq_eq_false_iff_ne.mpr c7
    have c7b1 : (a0 != 240) = true := bne_iff_ne.mpr c7
    by_cases c9 : a0 = 244
    ·rw [if_pos c9] at H
     have c9b0 : (a0 == 244) = true := beq_iff_eq.mpr c9
     have c9b1 : (a0 != 244) = false := bne_eq_false_iff_eq.mpr c9
     clear c9
     by_cases c10 : a1 ≥ 128
     ·rw [if_pos c10] at H
      have c10b0 : decide (128 ≤ a1) = true := decide_eq_true c10
      clear c10
      obtain rfl := Option.some.inj H
      go_enter Tryd.func47, Tryd.ntmps47
      go_wp2
      go_ret
      exact ⟨by first | rfl | (simp; done) | (simp [*]; done), by repeat (first | exact Drawn0.refl _ | apply Drawn0.step)⟩
     ·rw [if_neg c10] at H
      have c10b0 : decide (128 ≤ a1) = false := decide_eq_false c10
      clear c10
      obtain rfl := Option.some.inj H
      go_enter Tryd.func47, Tryd.ntmps47
      go_wp2
      go_ret
      exact ⟨by first | rfl | (simp; done) | (simp [*]; done), by repeat (first | exact Drawn0.refl _ | apply Drawn0.step)⟩
    ·rw [if_neg c9] at H
     have c9b0 : (a0 == 244) = false := beq_eq_false_iff_ne.mpr c9
     have c9b1 : (a0 != 244) = true := bne_iff_ne.mpr c9
     by_cases c11 : a1 ≥ 128
     ·rw [if_pos c11] at H
      have c11b0 : decide (128 ≤ a1) = true := decide_eq_true c11
      clear c11
      obtain rfl := Option.some.inj H
      go_enter Tryd.func47, Tryd.ntmps47
      go_wp2
      go_ret
      exact ⟨by first | rfl | (simp; done) | (simp [*]; done), by repeat (first | exact Drawn0.refl _ | apply Drawn0.step)⟩
     ·rw [if_neg c11] at H
      have c11b0 : decide (128 ≤ a1) = false := decide_eq_false c11
      clear c11
      obtain rfl := Option.some.inj H
      go_enter Tryd.func47, Tryd.ntmps47
      go_wp2
      go_ret
      exact ⟨by first | rfl | (simp; done) | (simp [*]; done), by repeat (first | exact Drawn0.refl _ | apply Drawn0.step)⟩
end Go.Proofs.YtflekegjmjjdmaaDoor.P
