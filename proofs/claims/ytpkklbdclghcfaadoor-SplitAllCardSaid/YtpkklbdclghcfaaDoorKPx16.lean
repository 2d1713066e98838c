/- Part of the proof: what the theorem needs of this text. -/
import Derived.Test.YtpkklbdclghcfaaDoorKPx0
import Derived.Test.YtpkklbdclghcfaaDoorKPx15
namespace Go.Proofs.YtpkklbdclghcfaaDoor.P
open Go.RowKit Go.Proofs.YtpkklbdclghcfaaDoorW.PrintWords Go.Proofs.YtpkklbdclghcfaaDoorW.PrintLast Go.Proofs.YtpkklbdclghcfaaDoorW.PrintMore
attribute [local go_sem] max2_int min2_int max_two min_two max_three min_three max_four min_four   -- for this text's walks alone
set_option linter.unusedVariables false
set_option linter.unusedSimpArgs false
def tmesisref03_Take.l0 : Nat → List Int → Int → Int → Int → Option (Int × Int × Int)
 | 0, _, _, _, _ => none
 | k + 1, x0, x5, x6, x7 => if x7 < x5 then (if 0 ≤ x7 then (if x7 < (x0.length : Int) then (if (wrap64 ((wrap64 (x6 * 10)) + (((rd x0 x7) - 48) % 256))) > 2147483647 then (some (0, x5, 4)) else (tmesisref03_Take.l0 k x0 x5 (wrap64 ((wrap64 (x6 * 10)) + (((rd x0 x7) - 48) % 256))) (wrap64 (x7 + 1)))) else (none)) else (none)) else (some (x6, x5, 0))
def tmesisref03_Take.f (k : Nat) (l0 : List Int) : Option (Int × Int × Int) := (tmesisref02_Run.f k l0 4).bind fun t370 => (if t370 = 0 then (some (0, 0, 2)) else (tmesisref03_Take.l0 k l0 t370 0 0))
theorem tmesisref03_Take.mono_l : ∀ k, (∀ y0 y1 y2 y3, LeO (tmesisref03_Take.l0 k y0 y1 y2 y3) (tmesisref03_Take.l0 (k + 1) y0 y1 y2 y3))
 | 0 => fun _ _ _ _ r h => by simp [tmesisref03_Take.l0] at h
 | k + 1 => by
  have ih0 := tmesisref03_Take.mono_l k
  ·intro y0 y1 y2 y3
   unfold tmesisref03_Take.l0
   repeat' with_reducible first | exact ih0 _ _ _ _ | exact tmesisref02_Run.mono _ _ _ | exact LeO.refl _ | exact LeO.none _ | refine LeO.ite ?_ ?_ | refine LeO.bind ?_ (fun _ => ?_)
theorem tmesisref03_Take.mono : ∀ a0 k, LeO (tmesisref03_Take.f k a0) (tmesisref03_Take.f (k + 1) a0) := by
 intro a0 k
 have ih0 := tmesisref03_Take.mono_l k
 unfold tmesisref03_Take.f
 repeat' with_reducible first | exact ih0 _ _ _ _ | exact tmesisref02_Run.mono _ _ _ | exact LeO.refl _ | exact LeO.none _ | refine LeO.ite ?_ ?_ | refine LeO.bind ?_ (fun _ => ?_)
set_option maxHeartbeats 8000000 in
set_option maxRecDepth 100000 in
theorem tmesisref03_Take.calls (k : Nat) (A0 : Option Addr) (c0 : Nat) (l0 : List Int) (r1 : Int) (r2 : Int) (r3 : Int) (w : World) (hr0 : Kd.C (Kd.int .u8) w A0 l0.length l0) (hc0 : l0.length ≤ c0) (h : tmesisref03_Take.f k l0 = some (r1, r2, r3)) :
  Calls Tryd.prog 73 #[.slice A0 l0.length c0] w fun e w' => e = .returned (.tuple #[.int .i64 r1, .int .i64 r2, .int .i64 r3]) ∧ Drawn0 w w' := by
 have HR0 := Aside0.mk hr0
 have HC0 := Aside0.mk hc0
 clear hr0 hc0
 have H : ((tmesisref02_Run.f k l0 4).bind fun t370 => (if t370 = 0 then (some (0, 0, 2)) else (tmesisref03_Take.l0 k l0 t370 0 0))) = some (r1, r2, r3) := h
 clear h
 obtain ⟨t370, A2, H⟩ := bE H
 by_cases c3 : t370 = 0
 ·rw [if_pos c3] at H
  obtain ⟨c3b0, c3b1⟩ := eqB c3
  clear c3
  simp only [Option.some.injEq, Prod.mk.injEq] at H
  obtain ⟨rfl, rfl, rfl⟩ := H
  go_enter Tryd.func73, Tryd.ntmps73
  go_wp2_with (first | ((with_reducible refine gate_callee (f := 71) rfl ?_); refine gL (some 9) Tryd.func71 #[.slice A0 l0.length c0, .int .i64 4] rfl gA ?_; (with_reducible refine (tmesisref02_Run.calls k _ _ l0 4 t370 _ ?side1 ?side2 A2.out).mono ?_); (case side1 => exact CAt HR0.out); (case side2 => exact HC0.out); rintro e w' ⟨rfl, ⟨nd, rfl⟩⟩; refine ⟨_, rfl, ?_⟩))
  go_ret3
  exact ⟨by first | rfl | (simp; done) | (simp [*]; done), by repeat (first | exact Drawn0.refl _ | apply Drawn0.step)⟩
 ·rw [if_neg c3] at H
  obtain ⟨c3b0, c3b1⟩ := neB c3
  have H' := Aside0.mk H
  clear H
  go_enter Tryd.func73, Tryd.ntmps73
  go_wp2_with (first | ((with_reducible refine gate_callee (f := 71) rfl ?_); refine gL (some 9) Tryd.func71 #[.slice A0 l0.length c0, .int .i64 4] rfl gA ?_; (with_reducible refine (tmesisref02_Run.calls k _ _ l0 4 t370 _ ?side1 ?side2 A2.out).mono ?_); (case side1 => exact CAt HR0.out); (case side2 => exact HC0.out); rintro e w' ⟨rfl, ⟨nd, rfl⟩⟩; refine ⟨_, rfl, ?_⟩))
  go_loopg [6, 7] k (fun kq v6 v7 w' => ∃ (x6_1 : Int) (x7_1 : Int), v6 = .int .i64 x6_1 ∧ v7 = .int .i64 x7_1 ∧ Aside0 (tmesisref03_Take.l0 kq l0 t370 x6_1 x7_1 = some (r1, r2, r3)) ∧ Aside0 (kq ≤ k) ∧ Drawn0 w w')
  case atStart => exact ⟨(0), (0), sR, sR, H', ⟨Nat.le_refl _⟩, by repeat (first | exact Drawn0.refl _ | apply Drawn0.step)⟩
  case round =>
   clear H'
   try clear p2
   try clear c3
   try clear c3b0 c3b1
   obtain ⟨x6_1, x7_1, rfl, rfl, HA, HK1, ⟨m1, rfl⟩⟩ := hrel
   cases gk with
   | zero => exact absurd HA.out (by simp [tmesisref03_Take.l0])
   | succ k1 =>
    have H := HA.out
    clear HA
    simp only [tmesisref03_Take.l0] at H
    by_cases c4 : x7_1 < t370
    ·rw [if_pos c4] at H
     have c4b0 := decide_eq_true c4
     clear c4
     by_cases c5 : 0 ≤ x7_1
     ·rw [if_pos c5] at H
      have c5b0 := decide_eq_true c5
      clear c5
      by_cases c6 : x7_1 < (l0.length : Int)
      ·rw [if_pos c6] at H
       have c6b0 := decide_eq_true c6
       clear c6
       by_cases c7 : (wrap64 ((wrap64 (x6_1 * 10)) + (((rd l0 x7_1) - 48) % 256))) > 2147483647
       ·rw [if_pos c7] at H
        have c7b0 : decide (2147483647 < (wrap64 ((wrap64 (x6_1 * 10)) + (((rd l0 x7_1) - 48) % 256)))) = true := decide_eq_true c7
        clear c7
        simp only [Option.some.injEq, Prod.mk.injEq] at H
        obtain ⟨rfl, rfl, rfl⟩ := H
        have p371 : 0 ≤ (x7_1 : Int) := dt
        have q371 : x7_1 < (l0.length : Int) := dt
        obtain ⟨ad371, e371, hx371_0⟩ := Kd.at_int HR0.out x7_1 p371 q371
        cases e371
        replace p371 := eq_true p371
        replace q371 := eq_true q371
        go_wp2
        go_ret3
        exact ⟨by first | rfl | (simp; done) | (simp [*]; done), by repeat (first | exact Drawn0.refl _ | apply Drawn0.step)⟩
       ·rw [if_neg c7] at H
        have c7b0 : decide (2147483647 < (wrap64 ((wrap64 (x6_1 * 10)) + (((rd l0 x7_1) - 48) % 256)))) = false := decide_eq_false c7
        clear c7
        have H' := Aside0.mk H
        clear H
        have p371 : 0 ≤ (x7_1 : Int) := dt
        have q371 : x7_1 < (l0.length : Int) := dt
        obtain ⟨ad371, e371, hx371_0⟩ := Kd.at_int HR0.out x7_1 p371 q371
        cases e371
        replace p371 := eq_true p371
        replace q371 := eq_true q371
        go_wp2
        go_roundg k1
        case measure => have := HK1.out; omega
        case rel => exact ⟨(wrap64 ((wrap64 (x6_1 * 10)) + (((rd l0 x7_1) - 48) % 256))), (wrap64 (x7_1 + 1)), sR, sR, H', ⟨by have := HK1.out; omega⟩, by repeat (first | exact Drawn0.refl _ | apply Drawn0.step)⟩
      ·exact nB H c6
     ·exact nB H c5
    ·rw [if_neg c4] at H
     have c4b0 := decide_eq_false c4
     clear c4
     simp only [Option.some.injEq, Prod.mk.injEq] at H
     obtain ⟨rfl, rfl, rfl⟩ := H
     go_wp2
     go_ret3
     exact ⟨by first | rfl | (simp; done) | (simp [*]; done), by repeat (first | exact Drawn0.refl _ | apply Drawn0.step)⟩
def tmesisref04_at.f (l0 : List Int) (a1 : Int) : Option (Int) := if a1 < (l0.length : Int) then (if 0 ≤ a1 then (some (rd l0 a1)) else (none)) else (some 0)
set_option maxHeartbeats 8000000 in
set_option maxRecDepth 100000 in
theorem tmesisref04_at.calls (A0 : Option Addr) (c0 : Nat) (l0 : List Int) (a1 : Int) (r : Int) (w : World) (hr0 : Kd.C (Kd.int .u8) w A0 l0.length l0) (hc0 : l0.length ≤ c0) (h : tmesisref04_at.f l0 a1 = some r) :
  Calls Tryd.prog 87 #[.slice A0 l0.length c0, .int .i64 a1] w fun e w' => e = .returned (.int .u8 r) ∧ Drawn0 w w' := by
 have HR0 := Aside0.mk hr0
 have HC0 := Aside0.mk hc0
 clear hr0 hc0
 have H : (if a1 < (l0.length : Int) then (if 0 ≤ a1 then (some (rd l0 a1)) else (none)) else (some 0)) = some r := h
 clear h
 by_cases c3 : a1 < (l0.length : Int)
 ·rw [if_pos c3] at H
  have c3b0 := decide_eq_true c3
  clear c3
  by_cases c4 : 0 ≤ a1
  ·rw [if_pos c4] at H
   have c4b0 := decide_eq_true c4
   clear c4
   obtain rfl := Option.some.inj H
   have p372 : 0 ≤ (a1 : Int) := dt
   have q372 : a1 < (l0.length : Int) := dt
   obtain ⟨ad372, e372, hx372_0⟩ := Kd.at_int HR0.out a1 p372 q372
   cases e372
   replace p372 := eq_true p372
   replace q372 := eq_true q372
   go_enter Tryd.func87, Tryd.ntmps87
   go_wp2
   go_ret
   exact ⟨by first | rfl | (simp; done) | (simp [*]; done), by repeat (first | exact Drawn0.refl _ | apply Drawn0.step)⟩
  ·exact nB H c4
 ·rw [if_neg c3] at H
  have c3b0 := decide_eq_false c3
  clear c3
  obtain rfl := Option.some.inj H
  go_enter Tryd.func87, Tryd.ntmps87
  go_wp2
  go_ret
  exact ⟨by first | rfl | (simp; done) | (simp [*]; done), by repeat (first | exact Drawn0.refl _ | apply Drawn0.step)⟩
mutual
def tmesisref04_Take.l0 : Nat → List Int → List Int → Int → Option (List Int × Int × Int)
 | 0, _, _, _ => none
 | k + 1, x0, x5, x6 => if x6 < (x0.length : Int) then (if 0 ≤ x6 then (tmesisref04_Take.j1 k x0 x5 x6 ((rd x0 x6) != 10)) else (none)) else (tmesisref04_Take.j1 k x0 x5 x6 false)
def tmesisref04_Take.j1 : Nat → List Int → List Int → Int → Bool → Option (List Int × Int × Int)
 | 0, _, _, _, _ => none
 | k + 1, x0, x5, x6, x25 => if x25 = true then (if 0 ≤ x6 then (if x6 < (x0.length : Int) then ((tmesisref04_at.f x0 (wrap64 (x6 + 1))).bind fun t379 => (if (rd x0 x6) = 39 then (if t379 = 39 then (if x5.length < 140737488355328 then (tmesisref04_Take.l0 k x0 (x5 ++ [39]) (wrap64 (x6 + 2))) else (none)) else (some (x5, wrap64 (x6 + 1), 0))) else (if (rd x0 x6) = 92 then (if t379 = 110 then (tmesisref04_Take.j2 k x0 x5 x6 t379 false) else (if t379 = 92 then (tmesisref04_Take.j2 k x0 x5 x6 t379 false) else (tmesisref04_Take.j2 k x0 x5 x6 t379 (t379 != 39)))) else (if (rd x0 x6) < 32 then (tmesisref04_Take.j3 k x0 x5 x6 true) else (tmesisref04_Take.j3 k x0 x5 x6 ((rd x0 x6) == 127)))))) else (none)) else (none)) else (some (([] : List Int), x6, 12))
def tmesisref04_Take.j2 : Nat → List Int → List Int → Int → Int → Bool → Option (List Int × Int × Int)
 | 0, _, _, _, _, _ => none
 | k + 1, x0, x5, x6, x8, x57 => if x57 = true then (some (([] : List Int), x6, 13)) else (if x8 = 110 then (if x5.length < 140737488355328 then (tmesisref04_Take.l0 k x0 (x5 ++ [10]) (wrap64 (x6 + 2))) else (none)) else (if x5.length < 140737488355328 then (tmesisref04_Take.l0 k x0 (x5 ++ [x8]) (wrap64 (x6 + 2))) else (none)))
def tmesisref04_Take.j3 : Nat → List Int → List Int → Int → Bool → Option (List Int × Int × Int)
 | 0, _, _, _, _ => none
 | k + 1, x0, x5, x6, x72 => if x72 = true then (some (([] : List Int), x6, 11)) else (if 0 ≤ x6 then (if x6 ≤ (x0.length : Int) then ((tmesisref01_Take.f k (x0.drop (x6 : Int).toNat)).bind fun bt390 => (if bt390.2 = true then (if x6 ≤ (wrap64 (x6 + bt390.1)) then (if (wrap64 (x6 + bt390.1)) ≤ (x0.length : Int) then (if x5.length + ((x0.take ((wrap64 (x6 + bt390.1)) : Int).toNat).drop (x6 : Int).toNat).length < 140737488355328 then (tmesisref04_Take.l0 k x0 (x5 ++ ((x0.take ((wrap64 (x6 + bt390.1)) : Int).toNat).drop (x6 : Int).toNat)) (wrap64 (x6 + bt390.1))) else (none)) else (none)) else (none)) else (some (([] : List Int), x6, 10)))) else (none)) else (none))
end
def tmesisref04_Take.f (k : Nat) (l0 : List Int) : Option (List Int × Int × Int) := (tmesisref04_at.f l0 0).bind fun t373 => (if t373 = 39 then (tmesisref04_Take.l0 k l0 (([] : List Int)) 1) else (some (([] : List Int), 0, 2)))
theorem tmesisref04_Take.mono_l : ∀ k, (∀ y0 y1 y2, LeO (tmesisref04_Take.l0 k y0 y1 y2) (tmesisref04_Take.l0 (k + 1) y0 y1 y2)) ∧ (∀ y0 y1 y2 y3, LeO (tmesisref04_Take.j1 k y0 y1 y2 y3) (tmesisref04_Take.j1 (k + 1) y0 y1 y2 y3)) ∧ (∀ y0 y1 y2 y3 y4, LeO (tmesisref04_Take.j2 k y0 y1 y2 y3 y4) (tmesisref04_Take.j2 (k + 1) y0 y1 y2 y3 y4)) ∧ (∀ y0 y1 y2 y3, LeO (tmesisref04_Take.j3 k y0 y1 y2 y3) (tmesisref04_Take.j3 (k + 1) y0 y1 y2 y3))
 | 0 => ⟨fun _ _ _ r h => by simp [tmesisref04_Take.l0] at h, fun _ _ _ _ r h => by simp [tmesisref04_Take.j1] at h, fun _ _ _ _ _ r h => by simp [tmesisref04_Take.j2] at h, fun _ _ _ _ r h => by simp [tmesisref04_Take.j3] at h⟩
 | k + 1 => by
  obtain ⟨ih0, ih1, ih2, ih3⟩ := tmesisref04_Take.mono_l k
  refine ⟨?_, ?_, ?_, ?_⟩
  ·intro y0 y1 y2
   unfold tmesisref04_Take.l0
   repeat' with_reducible first | exact ih0 _ _ _ | exact ih1 _ _ _ _ | exact ih2 _ _ _ _ _ | exact ih3 _ _ _ _ | exact tmesisref01_Take.mono _ _ | exact LeO.refl _ | exact LeO.none _ | refine LeO.ite ?_ ?_ | refine LeO.bind ?_ (fun _ => ?_)
  ·intro y0 y1 y2 y3
   unfold tmesisref04_Take.j1
   repeat' with_reducible first | exact ih0 _ _ _ | exact ih1 _ _ _ _ | exact ih2 _ _ _ _ _ | exact ih3 _ _ _ _ | exact tmesisref01_Take.mono _ _ | exact LeO.refl _ | exact LeO.none _ | refine LeO.ite ?_ ?_ | refine LeO.bind ?_ (fun _ => ?_)
  ·intro y0 y1 y2 y3 y4
   unfold tmesisref04_Take.j2
   repeat' with_reducible first | exact ih0 _ _ _ | exact ih1 _ _ _ _ | exact ih2 _ _ _ _ _ | exact ih3 _ _ _ _ | exact tmesisref01_Take.mono _ _ | exact LeO.refl _ | exact LeO.none _ | refine LeO.ite ?_ ?_ | refine LeO.bind ?_ (fun _ => ?_)
  ·intro y0 y1 y2 y3
   unfold tmesisref04_Take.j3
   repeat' with_reducible first | exact ih0 _ _ _ | exact ih1 _ _ _ _ | exact ih2 _ _ _ _ _ | exact ih3 _ _ _ _ | exact tmesisref01_Take.mono _ _ | exact LeO.refl _ | exact LeO.none _ | refine LeO.ite ?_ ?_ | refine LeO.bind ?_ (fun _ => ?_)
theorem tmesisref04_Take.mono : ∀ a0 k, LeO (tmesisref04_Take.f k a0) (tmesisref04_Take.f (k + 1) a0) := by
 intro a0 k
 obtain ⟨ih0, ih1, ih2, ih3⟩ := tmesisref04_Take.mono_l k
 unfold tmesisref04_Take.f
 repeat' with_reducible first | exact ih0 _ _ _ | exact ih1 _ _ _ _ | exact ih2 _ _ _ _ _ | exact ih3 _ _ _ _ | exact tmesisref01_Take.mono _ _ | exact LeO.refl _ | exact LeO.none _ | refine LeO.ite ?_ ?_ | refine LeO.bind ?_ (fun _ => ?_)
set_option maxHeartbeats 8000000 in
set_option maxRecDepth 100000 in
theorem tmesisref04_Take.calls (k : Nat) (A0 : Option Addr) (c0 : Nat) (l0 : List Int) (r1 : List Int) (r2 : Int) (r3 : Int) (w : World) (hr0 : Kd.C (Kd.int .u8) w A0 l0.length l0) (hc0 : l0.length ≤ c0) (h : tmesisref04_Take.f k l0 = some (r1, r2, r3)) :
  Calls Tryd.prog 74 #[.slice A0 l0.length c0] w fun e w' => ∃ v0_ : Value, e = .returned (.tuple #[v0_, .int .i64 r2, .int .i64 r3]) ∧ Kd.R (Kd.int .u8) 5 w' w.heap.size (fun _ => True) v0_ r1 ∧ Below w.heap.size w w' := by
 have HR0 := Aside0.mk hr0
 have HC0 := Aside0.mk hc0
 clear hr0 hc0
 have HB := Aside0.mk (Below.refl w.heap.size w)
 have H : ((tmesisref04_at.f l0 0).bind fun t373 => (if t373 = 39 then (tmesisref04_Take.l0 k l0 (([] : List Int)) 1) else (some (([] : List Int), 0, 2)))) = some (r1, r2, r3) := h
 clear h
 obtain ⟨t373, A2, H⟩ := bE H
 by_cases c3 : t373 = 39
 ·rw [if_pos c3] at H
  obtain ⟨c3b0, c3b1⟩ := eqB c3
  clear c3
  obtain ⟨y374, hy374⟩ : ∃ y_ : List Int, y_ = (([] : List Int)) := ⟨_, rfl⟩
  replace H : (tmesisref04_Take.l0 k l0 y374 1) = some (r1, r2, r3) := by first | (rw [hy374]; with_reducible exact H) | (have H2_ := (Option.bind_some _ _).symm.trans H; rw [hy374]; with_reducible exact H2_) | (have H2_ := (Option.bind_some _ _).symm.trans H; with_reducible exact H2_) | with_reducible exact H | (rw [hy374]; exact H) | exact H
  have Ny374 := Aside0.mk hy374
  clear hy374
  have H' := Aside0.mk H
  clear H
  go_enter Tryd.func74, Tryd.ntmps74
  go_wp2_with (first | ((with_reducible refine gate_callee (f := 87) rfl ?_); refine gL (some 12) Tryd.func87 #[.slice A0 l0.length c0, .int .i64 0] rfl gA ?_; (with_reducible refine (tmesisref04_at.calls _ _ l0 0 t373 _ ?side1 ?side2 A2.out).mono ?_); (case side1 => exact CAt HR0.out); (case side2 => exact HC0.out); rintro e w' ⟨rfl, ⟨nd, rfl⟩⟩; refine ⟨_, rfl, ?_⟩) | ((with_reducible refine gate_dst (N := 14) rfl ?_); refine Kd.R_lit (Kd.int .u8) _ 5 ?hg (N := 14) ?hd (xs := ([] : List Int)) (inner := []) (ok := fun _ => True) (okp := fun _ => True) ?hr ?hp (fun _ hk => hk) trivial (Below.refl _ _) (Nat.le_refl _) (by simp) ?_; (case hd => rfl); (case hg => rfl); (case hr => first | (go_simp; done) | (go_simp; rfl)); (case hp => exact (Reps.none _ _)); intro v375 w4 ho5 hb hg_ hnew_; clear hg_ hnew_; (first | rw [← Ny374.out] at ho5 | (simp only [Int.reduceToNat] at ho5; rw [← Ny374.out] at ho5)); have HO376 := Aside0.mk (Kd.R_lower ho5 (below_size (bAt HB.out))); replace HB := Aside0.mk (below_step (bAt HB.out) hb); clear hb ho5))
  go_loopg [5, 6] k (fun kq v5 v6 w' => ∃ (x5_1 : List Int) (x6_1 : Int), v6 = .int .i64 x6_1 ∧ Aside0 (tmesisref04_Take.l0 kq l0 x5_1 x6_1 = some (r1, r2, r3)) ∧ Aside0 (kq ≤ k) ∧ Aside0 (Kd.R (Kd.int .u8) 5 w' w.heap.size (fun _ => True) v5 x5_1) ∧ Aside0 (Below w.heap.size w w'))
  case atStart => exact ⟨(y374), (1), sR, H', ⟨Nat.le_refl _⟩, ⟨RAt HO376.out⟩, ⟨bAt HB.out⟩⟩
  case round =>
   clear H'
   try clear p2
   try clear c3
   try clear c3b0 c3b1
   obtain ⟨x5_1, x6_1, rfl, HA, HK1, HO_5, HB⟩ := hrel
   cases gk with
   | zero => exact absurd HA.out (by simp [tmesisref04_Take.l0])
   | succ k1 =>
    have H := HA.out
    clear HA
    simp only [tmesisref04_Take.l0] at H
    have HC6 := Aside0.mk H
    clear H
    go_upto_region 5 with (fail)
    go_cut [25] (fun v25 wc => ∃ (kq : Nat) (x25_5 : Bool), v25 = .bool x25_5 ∧ Aside0 (tmesisref04_Take.j1 kq l0 x5_1 x6_1 x25_5 = some (r1, r2, r3)) ∧ Aside0 (kq ≤ k1) ∧ Aside0 (Kd.R (Kd.int .u8) 5 wc w.heap.size (fun _ => True) u5 x5_1) ∧ Aside0 (Below w.heap.size w wc))
    case first =>
     have H := HC6.out
     clear HC6
     by_cases c7 : x6_1 < (l0.length : Int)
     ·rw [if_pos c7] at H
      have c7b0 := decide_eq_true c7
      clear c7
      (first | rw [c7b0] | (simp only [i64_w, i32_w]; rw [c7b0]) | skip)
      by_cases c8 : 0 ≤ x6_1
      ·rw [if_pos c8] at H
       have c8b0 := decide_eq_true c8
       clear c8
       have H' := Aside0.mk H
       clear H
       have p377 : 0 ≤ (x6_1 : Int) := dt
       have q377 : x6_1 < (l0.length : Int) := dt
       obtain ⟨ad377, e377, hx377_0⟩ := Kd.at_int HR0.out x6_1 p377 q377
       cases e377
       replace hx377_0 := pw_cell_below HB.out hx377_0
       replace p377 := eq_true p377
       replace q377 := eq_true q377
       go_wp2
       go_meet
       case rel => exact ⟨_, (((rd l0 x6_1) != 10)), sR, H', ⟨by have := HK1.out; first | omega | exact Nat.le_refl _⟩, ⟨RAt HO_5.out⟩, ⟨bAt HB.out⟩⟩
      ·exact nB H c8
     ·rw [if_neg c7] at H
      have c7b0 := decide_eq_false c7
      clear c7
      (first | rw [c7b0] | (simp only [i64_w, i32_w]; rw [c7b0]) | skip)
      have H' := Aside0.mk H
      clear H
      go_wp2
      go_meet
      case rel => exact ⟨_, (false), sR, H', ⟨by have := HK1.out; first | omega | exact Nat.le_refl _⟩, ⟨RAt HO_5.out⟩, ⟨bAt HB.out⟩⟩
    case rest =>
     clear HC6
     try clear p2
     try clear c3
     try clear c3b0 c3b1
     try clear p3
     try clear q3
     try clear hx3
     try clear c7
     try clear c7b0
     try clear c8
     try clear c8b0
     try clear hx377_0
     try clear p2
     try clear p377
     try clear q377
     obtain ⟨kq, x25_5, rfl, HA, HJ5, HO_5, HB⟩ := hcut
     cases kq with
     | zero => exact absurd HA.out (by simp [tmesisref04_Take.j1])
     | succ kj5 =>
      have H := HA.out
      clear HA
      simp only [tmesisref04_Take.j1] at H
      by_cases c9 : x25_5 = true
      ·subst c9
       replace H := tP H
       by_cases c10 : 0 ≤ x6_1
       ·rw [if_pos c10] at H
        have c10b0 := decide_eq_true c10
        clear c10
        by_cases c11 : x6_1 < (l0.length : Int)
        ·rw [if_pos c11] at H
         have c11b0 := decide_eq_true c11
         clear c11
         obtain ⟨t379, A12, H⟩ := bE H
         by_cases c13 : (rd l0 x6_1) = 39
         ·rw [if_pos c13] at H
          obtain ⟨c13b0, c13b1⟩ := eqB c13
          clear c13
          by_cases c14 : t379 = 39
          ·rw [if_pos c14] at H
           obtain ⟨c14b0, c14b1⟩ := eqB c14
           clear c14
           by_cases c15 : x5_1.length < 140737488355328
           ·rw [if_pos c15] at H
            have LMc15 := Aside0.mk c15
            clear c15
            obtain ⟨y380, hy380⟩ : ∃ y_ : List Int, y_ = (x5_1 ++ [39]) := ⟨_, rfl⟩
            replace H : (tmesisref04_Take.l0 kj5 l0 y380 (wrap64 (x6_1 + 2))) = some (r1, r2, r3) := by first | (rw [hy380]; with_reducible exact H) | (have H2_ := (Option.bind_some _ _).symm.trans H; rw [hy380]; with_reducible exact H2_) | (have H2_ := (Option.bind_some _ _).symm.trans H; with_reducible exact H2_) | with_reducible exact H | (rw [hy380]; exact H) | exact H
            have Ny380 := Aside0.mk hy380
            clear hy380
            have H' := Aside0.mk H
            clear H
            have p378 : 0 ≤ (x6_1 : Int) := dt
            have q378 : x6_1 < (l0.length : Int) := dt
            obtain ⟨ad378, e378, hx378_0⟩ := Kd.at_int HR0.out x6_1 p378 q378
            cases e378
            replace hx378_0 := pw_cell_below HB.out hx378_0
            replace p378 := eq_true p378
            replace q378 := eq_true q378
            go_wp2_with (first | ((with_reducible refine gate_callee (f := 87) rfl ?_); refine gL (some 33) Tryd.func87 #[.slice (some ad378) l0.length c0, .int .i64 (wrap64 (x6_1 + 1))] rfl gA ?_; (with_reducible refine (tmesisref04_at.calls _ _ l0 (wrap64 (x6_1 + 1)) t379 _ ?side1 ?side2 A12.out).mono ?_); (case side1 => exact CAt (Kd.C_below HR0.out HB.out)); (case side2 => exact HC0.out); rintro e w' ⟨rfl, ⟨nd, rfl⟩⟩; refine ⟨_, rfl, ?_⟩) | ((with_reducible refine gate_builtin (b := .append) (xs := #[.tmp 41, .tmp 42]) rfl ?_); at_builtin; refine Kd.R_append (Kd.int .u8) (w0 := w) w.heap.size rfl (.tmp 41) (.tmp 42) 22 5 (.int .u8 0) 1 rfl Tryd.underlying22 info5 rfl (by decide) (by omega) u5 x5_1 39 [.int .u8 39] (fun _ => True) (fun _ => False) rfl rfl ?aP (fun _ hk => hk.elim) ?aF ?aO ?aB ?aS ?aL ?_; (case aP => exact rfl); (case aB => exact (bAt HB.out)); (case aF => exact (fun _ _ => trivial)); (case aO => exact (RAt HO_5.out)); (case aS => exact (below_size (bAt HB.out))); (case aL => have := LMc15.out; omega); intro v381 w16 ho hb hg hat; rw [← Ny380.out] at ho; replace HB := Aside0.mk (hb); have HO382 := Aside0.mk (ho); clear HO_5; clear ho hb hg hat))
            go_roundg kj5
            case measure => have := HK1.out; have := HJ5.out; omega
            case rel => exact ⟨(y380), (wrap64 (x6_1 + 2)), sR, H', ⟨by have := HK1.out; have := HJ5.out; omega⟩, ⟨RAt HO382.out⟩, ⟨bAt HB.out⟩⟩
           ·exact nB H c15
          ·rw [if_neg c14] at H
           obtain ⟨c14b0, c14b1⟩ := neB c14
           simp only [Option.some.injEq, Prod.mk.injEq] at H
           obtain ⟨rfl, rfl, rfl⟩ := H
           have p378 : 0 ≤ (x6_1 : Int) := dt
           have q378 : x6_1 < (l0.length : Int) := dt
           obtain ⟨ad378, e378, hx378_0⟩ := Kd.at_int HR0.out x6_1 p378 q378
           cases e378
           replace hx378_0 := pw_cell_below HB.out hx378_0
           replace p378 := eq_true p378
           replace q378 := eq_true q378
           go_wp2_with (first | ((with_reducible refine gate_callee (f := 87) rfl ?_); refine gL (some 33) Tryd.func87 #[.slice (some ad378) l0.length c0, .int .i64 (wrap64 (x6_1 + 1))] rfl gA ?_; (with_reducible refine (tmesisref04_at.calls _ _ l0 (wrap64 (x6_1 + 1)) t379 _ ?side1 ?side2 A12.out).mono ?_); (case side1 => exact CAt (Kd.C_below HR0.out HB.out)); (case side2 => exact HC0.out); rintro e w' ⟨rfl, ⟨nd, rfl⟩⟩; refine ⟨_, rfl, ?_⟩))
           go_ret3
           exact ⟨_, eR, RAt HO_5.out, bAt HB.out⟩
         ·rw [if_neg c13] at H
          obtain ⟨c13b0, c13b1⟩ := neB c13
          by_cases c17 : (rd l0 x6_1) = 92
          ·rw [if_pos c17] at H
           obtain ⟨c17b0, c17b1⟩ := eqB c17
           clear c17
           have HC18 := Aside0.mk H
           clear H
           have p378 : 0 ≤ (x6_1 : Int) := dt
           have q378 : x6_1 < (l0.length : Int) := dt
           obtain ⟨ad378, e378, hx378_0⟩ := Kd.at_int HR0.out x6_1 p378 q378
           cases e378
           replace hx378_0 := pw_cell_below HB.out hx378_0
           replace p378 := eq_true p378
           replace q378 := eq_true q378
           go_upto_region 14 with (first | ((with_reducible refine gate_callee (f := 87) rfl ?_); refine gL (some 33) Tryd.func87 #[.slice (some ad378) l0.length c0, .int .i64 (wrap64 (x6_1 + 1))] rfl gA ?_; (with_reducible refine (tmesisref04_at.calls _ _ l0 (wrap64 (x6_1 + 1)) t379 _ ?side1 ?side2 A12.out).mono ?_); (case side1 => exact CAt (Kd.C_below HR0.out HB.out)); (case side2 => exact HC0.out); rintro e w' ⟨rfl, ⟨nd, rfl⟩⟩; refine ⟨_, rfl, ?_⟩))
           (try simp only [Act.put, List.setIfInBounds_toArray, List.set_cons_zero, List.set_cons_succ])
           go_cut [57] (fun v57 wc => ∃ (kq : Nat) (x57_17 : Bool), v57 = .bool x57_17 ∧ Aside0 (tmesisref04_Take.j2 kq l0 x5_1 x6_1 t379 x57_17 = some (r1, r2, r3)) ∧ Aside0 (kq ≤ kj5) ∧ Aside0 (Kd.R (Kd.int .u8) 5 wc w.heap.size (fun _ => True) u5 x5_1) ∧ Aside0 (Below w.heap.size w wc))
           case first =>
            have H := HC18.out
            clear HC18
            by_cases c19 : t379 = 110
            ·rw [if_pos c19] at H
             obtain ⟨c19b0, c19b1⟩ := eqB c19
             clear c19
             (first | rw [c19b0] | (simp only [i64_w, i32_w]; rw [c19b0]) | skip)
             have H' := Aside0.mk H
             clear H
             go_wp2
             go_meet
             case rel => exact ⟨_, (false), sR, H', ⟨by have := HK1.out; have := HJ5.out; first | omega | exact Nat.le_refl _⟩, ⟨RAt HO_5.out⟩, ⟨bAt HB.out⟩⟩
            ·rw [if_neg c19] at H
             obtain ⟨c19b0, c19b1⟩ := neB c19
             (first | rw [c19b0] | (simp only [i64_w, i32_w]; rw [c19b0]) | skip)
             by_cases c20 : t379 = 92
             ·rw [if_pos c20] at H
              obtain ⟨c20b0, c20b1⟩ := eqB c20
              clear c20
              have H' := Aside0.mk H
              clear H
              go_wp2
              go_meet
              case rel => exact ⟨_, (false), sR, H', ⟨by have := HK1.out; have := HJ5.out; first | omega | exact Nat.le_refl _⟩, ⟨RAt HO_5.out⟩, ⟨bAt HB.out⟩⟩
             ·rw [if_neg c20] at H
              obtain ⟨c20b0, c20b1⟩ := neB c20
              have H' := Aside0.mk H
              clear H
              go_wp2
              go_meet
              case rel => exact ⟨_, ((t379 != 39)), sR, H', ⟨by have := HK1.out; have := HJ5.out; first | omega | exact Nat.le_refl _⟩, ⟨RAt HO_5.out⟩, ⟨bAt HB.out⟩⟩
           case rest =>
            clear HC18
            try clear c1
            try clear c2
            try clear p2
            try clear c3
            try clear c3b0 c3b1
            try clear p3
            try clear q3
            try clear hx3
            try clear p6
            try clear c7
            try clear c7b0
            try clear c8
            try clear c8b0
            try clear c9
            try clear c10
            try clear c10b0
            try clear c11
            try clear c11b0
            try clear c13
            try clear c13b0 c13b1
            try clear c14
            try clear c14b0 c14b1
            try clear c15
            try clear c17
            try clear c17b0 c17b1
            try clear c19
            try clear c19b0 c19b1
            try clear c20
            try clear c20b0 c20b1
            try clear hx377_0
            try clear hx378_0
            try clear p2
            try clear p3
            try clear p377
            try clear p378
            try clear q3
            try clear q377
            try clear q378
            obtain ⟨kq, x57_17, rfl, HA, HJ17, HO_5, HB⟩ := hcut
            cases kq with
            | zero => exact absurd HA.out (by simp [tmesisref04_Take.j2])
            | succ kj17 =>
             have H := HA.out
             clear HA
             simp only [tmesisref04_Take.j2] at H
             by_cases c21 : x57_17 = true
             ·subst c21
              replace H := tP H
              simp only [Option.some.injEq, Prod.mk.injEq] at H
              obtain ⟨rfl, rfl, rfl⟩ := H
              go_wp2
              go_ret3
              exact ⟨_, eR, by first | exact Kd.R_nil _ _ _ _ _ | exact Kd.N_nil _ _ _ _ _ | exact Kd.V_nil _ _ _ _ _ | exact Kd.Q_nil _ _ _ _ _ | exact Kd.S_nil _ _ _ _ _, bAt HB.out⟩
             ·replace c21 := Bool.eq_false_iff.mpr c21
              subst c21
              replace H := fP H
              by_cases c22 : t379 = 110
              ·rw [if_pos c22] at H
               obtain ⟨c22b0, c22b1⟩ := eqB c22
               clear c22
               by_cases c23 : x5_1.length < 140737488355328
               ·rw [if_pos c23] at H
                have LMc23 := Aside0.mk c23
                clear c23
                obtain ⟨y383, hy383⟩ : ∃ y_ : List Int, y_ = (x5_1 ++ [10]) := ⟨_, rfl⟩
                replace H : (tmesisref04_Take.l0 kj17 l0 y383 (wrap64 (x6_1 + 2))) = some (r1, r2, r3) := by first | (rw [hy383]; with_reducible exact H) | (have H2_ := (Option.bind_some _ _).symm.trans H; rw [hy383]; with_reducible exact H2_) | (have H2_ := (Option.bind_some _ _).symm.trans H; with_reducible exact H2_) | with_reducible exact H | (rw [hy383]; exact H) | exact H
                have Ny383 := Aside0.mk hy383
                clear hy383
                have H' := Aside0.mk H
                clear H
                go_wp2_with (first | ((with_reducible refine gate_builtin (b := .append) (xs := #[.tmp 61, .tmp 63]) rfl ?_); at_builtin; refine Kd.R_append (Kd.int .u8) (w0 := w) w.heap.size rfl (.tmp 61) (.tmp 63) 22 5 (.int .u8 0) 1 rfl Tryd.underlying22 info5 rfl (by decide) (by omega) u5 x5_1 10 [.int .u8 10] (fun _ => True) (fun _ => False) rfl rfl ?aP (fun _ hk => hk.elim) ?aF ?aO ?aB ?aS ?aL ?_; (case aP => exact rfl); (case aB => exact (bAt HB.out)); (case aF => exact (fun _ _ => trivial)); (case aO => exact (RAt HO_5.out)); (case aS => exact (below_size (bAt HB.out))); (case aL => have := LMc23.out; omega); intro v384 w24 ho hb hg hat; rw [← Ny383.out] at ho; replace HB := Aside0.mk (hb); have HO385 := Aside0.mk (ho); clear HO_5; clear ho hb hg hat))
                go_roundg kj17
                case measure => have := HK1.out; have := HJ5.out; have := HJ17.out; omega
                case rel => exact ⟨(y383), (wrap64 (x6_1 + 2)), sR, H', ⟨by have := HK1.out; have := HJ5.out; have := HJ17.out; omega⟩, ⟨RAt HO385.out⟩, ⟨bAt HB.out⟩⟩
               ·exact nB H c23
              ·rw [if_neg c22] at H
               obtain ⟨c22b0, c22b1⟩ := neB c22
               by_cases c25 : x5_1.length < 140737488355328
               ·rw [if_pos c25] at H
                have LMc25 := Aside0.mk c25
                clear c25
                obtain ⟨y386, hy386⟩ : ∃ y_ : List Int, y_ = (x5_1 ++ [t379]) := ⟨_, rfl⟩
                replace H : (tmesisref04_Take.l0 kj17 l0 y386 (wrap64 (x6_1 + 2))) = some (r1, r2, r3) := by first | (rw [hy386]; with_reducible exact H) | (have H2_ := (Option.bind_some _ _).symm.trans H; rw [hy386]; with_reducible exact H2_) | (have H2_ := (Option.bind_some _ _).symm.trans H; with_reducible exact H2_) | with_reducible exact H | (rw [hy386]; exact H) | exact H
                have Ny386 := Aside0.mk hy386
                clear hy386
                have H' := Aside0.mk H
                clear H
                go_wp2_with (first | ((with_reducible refine gate_builtin (b := .append) (xs := #[.tmp 61, .tmp 63]) rfl ?_); at_builtin; refine Kd.R_append (Kd.int .u8) (w0 := w) w.heap.size rfl (.tmp 61) (.tmp 63) 22 5 (.int .u8 0) 1 rfl Tryd.underlying22 info5 rfl (by decide) (by omega) u5 x5_1 t379 [.int .u8 t379] (fun _ => True) (fun _ => False) rfl rfl ?aP (fun _ hk => hk.elim) ?aF ?aO ?aB ?aS ?aL ?_; (case aP => exact rfl); (case aB => exact (bAt HB.out)); (case aF => exact (fun _ _ => trivial)); (case aO => exact (RAt HO_5.out)); (case aS => exact (below_size (bAt HB.out))); (case aL => have := LMc25.out; omega); intro v387 w26 ho hb hg hat; rw [← Ny386.out] at ho; replace HB := Aside0.mk (hb); have HO388 := Aside0.mk (ho); clear HO_5; clear ho hb hg hat))
                go_roundg kj17
                case measure => have := HK1.out; have := HJ5.out; have := HJ17.out; omega
                case rel => exact ⟨(y386), (wrap64 (x6_1 + 2)), sR, H', ⟨by have := HK1.out; have := HJ5.out; have := HJ17.out; omega⟩, ⟨RAt HO388.out⟩, ⟨bAt HB.out⟩⟩
               ·exact nB H c25
          ·rw [if_neg c17] at H
           obtain ⟨c17b0, c17b1⟩ := neB c17
           have HC27 := Aside0.mk H
           clear H
           have p378 : 0 ≤ (x6_1 : Int) := dt
           have q378 : x6_1 < (l0.length : Int) := dt
           obtain ⟨ad378, e378, hx378_0⟩ := Kd.at_int HR0.out x6_1 p378 q378
           cases e378
           replace hx378_0 := pw_cell_below HB.out hx378_0
           replace p378 := eq_true p378
           replace q378 := eq_true q378
           go_upto_region 20 with (first | ((with_reducible refine gate_callee (f := 87) rfl ?_); refine gL (some 33) Tryd.func87 #[.slice (some ad378) l0.length c0, .int .i64 (wrap64 (x6_1 + 1))] rfl gA ?_; (with_reducible refine (tmesisref04_at.calls _ _ l0 (wrap64 (x6_1 + 1)) t379 _ ?side1 ?side2 A12.out).mono ?_); (case side1 => exact CAt (Kd.C_below HR0.out HB.out)); (case side2 => exact HC0.out); rintro e w' ⟨rfl, ⟨nd, rfl⟩⟩; refine ⟨_, rfl, ?_⟩))
           (try simp only [Act.put, List.setIfInBounds_toArray, List.set_cons_zero, List.set_cons_succ])
           go_cut [72] (fun v72 wc => ∃ (kq : Nat) (x72_26 : Bool), v72 = .bool x72_26 ∧ Aside0 (tmesisref04_Take.j3 kq l0 x5_1 x6_1 x72_26 = some (r1, r2, r3)) ∧ Aside0 (kq ≤ kj5) ∧ Aside0 (Kd.R (Kd.int .u8) 5 wc w.heap.size (fun _ => True) u5 x5_1) ∧ Aside0 (Below w.heap.size w wc))
           case first =>
            have H := HC27.out
            clear HC27
            by_cases c28 : (rd l0 x6_1) < 32
            ·rw [if_pos c28] at H
             have c28b0 := decide_eq_true c28
             clear c28
             (first | rw [c28b0] | (simp only [i64_w, i32_w]; rw [c28b0]) | skip)
             have H' := Aside0.mk H
             clear H
             go_wp2
             go_meet
             case rel => exact ⟨_, (true), sR, H', ⟨by have := HK1.out; have := HJ5.out; first | omega | exact Nat.le_refl _⟩, ⟨RAt HO_5.out⟩, ⟨bAt HB.out⟩⟩
            ·rw [if_neg c28] at H
             have c28b0 := decide_eq_false c28
             clear c28
             (first | rw [c28b0] | (simp only [i64_w, i32_w]; rw [c28b0]) | skip)
             have H' := Aside0.mk H
             clear H
             go_wp2
             go_meet
             case rel => exact ⟨_, (((rd l0 x6_1) == 127)), sR, H', ⟨by have := HK1.out; have := HJ5.out; first | omega | exact Nat.le_refl _⟩, ⟨RAt HO_5.out⟩, ⟨bAt HB.out⟩⟩
           case rest =>
            clear HC27
            try clear c1
            try clear c2
            try clear p2
            try clear c3
            try clear c3b0 c3b1
            try clear p3
            try clear q3
            try clear hx3
            try clear p6
            try clear c7
            try clear c7b0
            try clear c8
            try clear c8b0
            try clear c9
            try clear c10
            try clear c10b0
            try clear c11
            try clear c11b0
            try clear c13
            try clear c13b0 c13b1
            try clear c14
            try clear c14b0 c14b1
            try clear c15
            try clear c17
            try clear c17b0 c17b1
            try clear c19
            try clear c19b0 c19b1
            try clear c20
            try clear c20b0 c20b1
            try clear c21
            try clear c22
            try clear c22b0 c22b1
            try clear c23
            try clear c25
            try clear c28
            try clear c28b0
            try clear hx377_0
            try clear hx378_0
            try clear p2
            try clear p3
            try clear p377
            try clear p378
            try clear p6
            try clear q3
            try clear q377
            try clear q378
            obtain ⟨kq, x72_26, rfl, HA, HJ26, HO_5, HB⟩ := hcut
            cases kq with
            | zero => exact absurd HA.out (by simp [tmesisref04_Take.j3])
            | succ kj26 =>
             have H := HA.out
             clear HA
             simp only [tmesisref04_Take.j3] at H
             by_cases c29 : x72_26 = true
             ·subst c29
              replace H := tP H
              simp only [Option.some.injEq, Prod.mk.injEq] at H
              obtain ⟨rfl, rfl, rfl⟩ := H
              go_wp2
              go_ret3
              exact ⟨_, eR, by first | exact Kd.R_nil _ _ _ _ _ | exact Kd.N_nil _ _ _ _ _ | exact Kd.V_nil _ _ _ _ _ | exact Kd.Q_nil _ _ _ _ _ | exact Kd.S_nil _ _ _ _ _, bAt HB.out⟩
             ·replace c29 := Bool.eq_false_iff.mpr c29
              subst c29
              replace H := fP H
              by_cases c30 : 0 ≤ x6_1
              ·rw [if_pos c30] at H
               have c30b0 := eq_true c30
               have c30b1 := decide_eq_true c30
               clear c30
               by_cases c31 : x6_1 ≤ (l0.length : Int)
               ·rw [if_pos c31] at H
                have c31b0 := eq_true c31
                have c31b1 := decide_eq_true c31
                clear c31
                obtain ⟨⟨t390, t391⟩, A32, H⟩ := bE H
                replace H : (if t391 = true then (if x6_1 ≤ (wrap64 (x6_1 + t390)) then (if (wrap64 (x6_1 + t390)) ≤ (l0.length : Int) then (if x5_1.length + ((l0.take ((wrap64 (x6_1 + t390)) : Int).toNat).drop (x6_1 : Int).toNat).length < 140737488355328 then (tmesisref04_Take.l0 kj26 l0 (x5_1 ++ ((l0.take ((wrap64 (x6_1 + t390)) : Int).toNat).drop (x6_1 : Int).toNat)) (wrap64 (x6_1 + t390))) else (none)) else (none)) else (none)) else (some (([] : List Int), x6_1, 10))) = some (r1, r2, r3) := H
                by_cases c33 : t391 = true
                ·subst c33
                 replace H := tP H
                 have c34b0 := eq_true (dt : 0 ≤ x6_1)
                 by_cases c35 : x6_1 ≤ (wrap64 (x6_1 + t390))
                 ·rw [if_pos c35] at H
                  have c35b0 := eq_true c35
                  have c35b1 := decide_eq_true c35
                  by_cases c36 : (wrap64 (x6_1 + t390)) ≤ (l0.length : Int)
                  ·rw [if_pos c36] at H
                   have c36b0 := eq_true c36
                   have c36b1 := decide_eq_true c36
                   by_cases c37 : x5_1.length + ((l0.take ((wrap64 (x6_1 + t390)) : Int).toNat).drop (x6_1 : Int).toNat).length < 140737488355328
                   ·rw [if_pos c37] at H
                    have LMc37 := Aside0.mk c37
                    clear c37
                    obtain ⟨y393, hy393⟩ : ∃ y_ : List Int, y_ = (x5_1 ++ ((l0.take ((wrap64 (x6_1 + t390)) : Int).toNat).drop (x6_1 : Int).toNat)) := ⟨_, rfl⟩
                    replace H : (tmesisref04_Take.l0 kj26 l0 y393 (wrap64 (x6_1 + t390))) = some (r1, r2, r3) := by first | (rw [hy393]; with_reducible exact H) | (have H2_ := (Option.bind_some _ _).symm.trans H; rw [hy393]; with_reducible exact H2_) | (have H2_ := (Option.bind_some _ _).symm.trans H; with_reducible exact H2_) | with_reducible exact H | (rw [hy393]; exact H) | exact H
                    have Ny393 := Aside0.mk hy393
                    clear hy393
                    have H' := Aside0.mk H
                    clear H
                    obtain ⟨i038, hi038, _, hsz38, _⟩ := info_parts info5
                    obtain ⟨A38, hcut38, hA38, hC38⟩ := print_drop_of (P := Tryd.prog) (Value.int .u8) 0 22 5 .i64 Tryd.underlying22 hi038 hsz38 (some ad378) c0 l0 x6_1 dt dt HC0.out
                    have HR389 := Aside0.mk (Kd.C_of_reads (h1 := fun _ => rfl) (hA38 _ (Kd.reads_of_C HR0.out)))
                    have HC389 := Aside0.mk hC38
                    clear hA38 hC38 hi038 hsz38
                    go_wp2_with (first | ((with_reducible refine gate_callee (f := 69) rfl ?_); refine gL (some 78) Tryd.func69 #[.slice A38 (l0.drop (x6_1 : Int).toNat).length (c0 - x6_1.toNat)] rfl (gD l0 (x6_1 : Int).toNat) ?_; (with_reducible refine (tmesisref01_Take.calls kj26 _ _ (l0.drop (x6_1 : Int).toNat) t390 true _ ?side1 ?side2 A32.out).mono ?_); (case side1 => exact CAt (Kd.C_below HR389.out HB.out)); (case side2 => exact HC389.out); rintro e w' ⟨rfl, ⟨nd, rfl⟩⟩; refine ⟨_, rfl, ?_⟩; obtain ⟨i039, hi039, _, hsz39, _⟩ := info_parts info5; obtain ⟨A39, hcut39, hA39, hC39⟩ := print_mid_of (P := Tryd.prog) (Value.int .u8) 0 22 5 .i64 .i64 Tryd.underlying22 hi039 hsz39 (some ad378) c0 l0 x6_1 (wrap64 (x6_1 + t390)) dt (by first | omega | exact dt) dt HC0.out; have HR392 := Aside0.mk (Kd.C_of_reads (h1 := fun _ => rfl) (hA39 _ (Kd.reads_of_C HR0.out))); have HC392 := Aside0.mk hC39; clear hA39 hC39 hi039 hsz39) | ((with_reducible refine gate_builtin (b := .append) (xs := #[.tmp 84, .tmp 90]) rfl ?_); at_builtin; refine Kd.R_append_rows (Kd.int .u8) (w0 := w) w.heap.size rfl (.tmp 84) (.tmp 90) 22 5 (.int .u8 0) 1 rfl Tryd.underlying22 info5 rfl (by decide) (by omega) u5 x5_1 ((l0.take ((wrap64 (x6_1 + t390)) : Int).toNat).drop (x6_1 : Int).toNat) _ _ _ (fun _ => True) (fun _ => False) rfl rfl ?aO ?aR (fun _ _ h => h) (fun _ h => h.elim) ?aF ?aB ?aS ?aL ?_; (case aR => first | (refine C_cast (show ((l0.take ((wrap64 (x6_1 + t390)) : Int).toNat).drop (x6_1 : Int).toNat).length = ((wrap64 (x6_1 + t390)).toNat - x6_1.toNat) from (by rw [List.length_drop, List.length_take]; have h_ : ((wrap64 (x6_1 + t390)) : Int) ≤ (l0.length : Int) := dt; omega)) ?_; repeat (first | exact (Kd.C_below HR392.out (bAt HB.out)) | (with_reducible refine Kd.C_alloc ?_ _) | (with_reducible refine Kd.C_drewN ?_ _) | (with_reducible refine Kd.C_drew ?_))) | (rw [← show ((l0.take ((wrap64 (x6_1 + t390)) : Int).toNat).drop (x6_1 : Int).toNat).length = ((wrap64 (x6_1 + t390)).toNat - x6_1.toNat) from (by rw [List.length_drop, List.length_take]; have h_ : ((wrap64 (x6_1 + t390)) : Int) ≤ (l0.length : Int) := dt; omega)]; repeat (first | exact (Kd.C_below HR392.out (bAt HB.out)) | (with_reducible refine Kd.C_alloc ?_ _) | (with_reducible refine Kd.C_drewN ?_ _) | (with_reducible refine Kd.C_drew ?_))) | (repeat (first | exact (Kd.C_below HR392.out (bAt HB.out)) | (with_reducible refine Kd.C_alloc ?_ _) | (with_reducible refine Kd.C_drewN ?_ _) | (with_reducible refine Kd.C_drew ?_)))); (case aB => exact (bAt HB.out)); (case aF => exact (fun _ _ => trivial)); (case aO => exact (RAt HO_5.out)); (case aS => exact (below_size (bAt HB.out))); (case aL => have := LMc37.out; have hlx_ := (show ((l0.take ((wrap64 (x6_1 + t390)) : Int).toNat).drop (x6_1 : Int).toNat).length = ((wrap64 (x6_1 + t390)).toNat - x6_1.toNat) from (by rw [List.length_drop, List.length_take]; have h_ : ((wrap64 (x6_1 + t390)) : Int) ≤ (l0.length : Int) := dt; omega)); omega); intro v394 w40 ho hb hg hat; rw [← Ny393.out] at ho; replace HB := Aside0.mk (hb); have HO395 := Aside0.mk (ho); clear HO_5; clear ho hb hg hat))
                    go_roundg kj26
                    case measure => have := HK1.out; have := HJ5.out; have := HJ26.out; omega
                    case rel => exact ⟨(y393), (wrap64 (x6_1 + t390)), sR, H', ⟨by have := HK1.out; have := HJ5.out; have := HJ26.out; omega⟩, ⟨RAt HO395.out⟩, ⟨bAt HB.out⟩⟩
                   ·exact nB H c37
                  ·exact nB H c36
                 ·exact nB H c35
                ·replace c33 := Bool.eq_false_iff.mpr c33
                 subst c33
                 replace H := fP H
                 simp only [Option.some.injEq, Prod.mk.injEq] at H
                 obtain ⟨rfl, rfl, rfl⟩ := H
                 obtain ⟨i041, hi041, _, hsz41, _⟩ := info_parts info5
                 obtain ⟨A41, hcut41, hA41, hC41⟩ := print_drop_of (P := Tryd.prog) (Value.int .u8) 0 22 5 .i64 Tryd.underlying22 hi041 hsz41 (some ad378) c0 l0 x6_1 dt dt HC0.out
                 have HR389 := Aside0.mk (Kd.C_of_reads (h1 := fun _ => rfl) (hA41 _ (Kd.reads_of_C HR0.out)))
                 have HC389 := Aside0.mk hC41
                 clear hA41 hC41 hi041 hsz41
                 go_wp2_with (first | ((with_reducible refine gate_callee (f := 69) rfl ?_); refine gL (some 78) Tryd.func69 #[.slice A41 (l0.drop (x6_1 : Int).toNat).length (c0 - x6_1.toNat)] rfl (gD l0 (x6_1 : Int).toNat) ?_; (with_reducible refine (tmesisref01_Take.calls kj26 _ _ (l0.drop (x6_1 : Int).toNat) t390 false _ ?side1 ?side2 A32.out).mono ?_); (case side1 => exact CAt (Kd.C_below HR389.out HB.out)); (case side2 => exact HC389.out); rintro e w' ⟨rfl, ⟨nd, rfl⟩⟩; refine ⟨_, rfl, ?_⟩))
                 go_ret3
                 exact ⟨_, eR, by first | exact Kd.R_nil _ _ _ _ _ | exact Kd.N_nil _ _ _ _ _ | exact Kd.V_nil _ _ _ _ _ | exact Kd.Q_nil _ _ _ _ _ | exact Kd.S_nil _ _ _ _ _, bAt HB.out⟩
               ·exact nB H c31
              ·exact nB H c30
        ·exact nB H c11
       ·exact nB H c10
      ·replace c9 := Bool.eq_false_iff.mpr c9
       subst c9
       replace H := fP H
       simp only [Option.some.injEq, Prod.mk.injEq] at H
       obtain ⟨rfl, rfl, rfl⟩ := H
       go_wp2
       go_ret3
       exact ⟨_, eR, by first | exact Kd.R_nil _ _ _ _ _ | exact Kd.N_nil _ _ _ _ _ | exact Kd.V_nil _ _ _ _ _ | exact Kd.Q_nil _ _ _ _ _ | exact Kd.S_nil _ _ _ _ _, bAt HB.out⟩
 ·rw [if_neg c3] at H
  obtain ⟨c3b0, c3b1⟩ := neB c3
  simp only [Option.some.injEq, Prod.mk.injEq] at H
  obtain ⟨rfl, rfl, rfl⟩ := H
  go_enter Tryd.func74, Tryd.ntmps74
  go_wp2_with (first | ((with_reducible refine gate_callee (f := 87) rfl ?_); refine gL (some 12) Tryd.func87 #[.slice A0 l0.length c0, .int .i64 0] rfl gA ?_; (with_reducible refine (tmesisref04_at.calls _ _ l0 0 t373 _ ?side1 ?side2 A2.out).mono ?_); (case side1 => exact CAt HR0.out); (case side2 => exact HC0.out); rintro e w' ⟨rfl, ⟨nd, rfl⟩⟩; refine ⟨_, rfl, ?_⟩))
  go_ret3
  exact ⟨_, eR, by first | exact Kd.R_nil _ _ _ _ _ | exact Kd.N_nil _ _ _ _ _ | exact Kd.V_nil _ _ _ _ _ | exact Kd.Q_nil _ _ _ _ _ | exact Kd.S_nil _ _ _ _ _, bAt HB.out⟩
end Go.Proofs.YtpkklbdclghcfaaDoor.P
