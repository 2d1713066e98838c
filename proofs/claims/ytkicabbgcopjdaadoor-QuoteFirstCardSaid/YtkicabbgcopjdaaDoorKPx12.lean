/- Part of the proof: what the theorem needs of this text. -/
import Derived.Test.YtkicabbgcopjdaaDoorKHG
import Derived.Test.YtkicabbgcopjdaaDoorKPx0
import Derived.Test.YtkicabbgcopjdaaDoorKPx2
import Derived.Test.YtkicabbgcopjdaaDoorKPx3
import Derived.Test.YtkicabbgcopjdaaDoorKPx6
namespace Go.Proofs.YtkicabbgcopjdaaDoor.P
open Go.RowKit Go.Proofs.YtkicabbgcopjdaaDoorW.PrintWords Go.Proofs.YtkicabbgcopjdaaDoorW.PrintLast Go.Proofs.YtkicabbgcopjdaaDoorW.PrintMore
attribute [local go_sem] max2_int min2_int max_two min_two max_three min_three max_four min_four   -- for this text's walks alone
set_option linter.unusedVariables false
set_option linter.unusedSimpArgs false
mutual
def tmesislaw04_QuoteFirst.j0 : Nat → Int → List Int → Bool → List Int → Option (Bool)
 | 0, _, _, _, _ => none
 | k + 1, x1, x2, x7, x8 => if (x8.length : Int) < 2 then (some false) else ((some (([] : List Int) : List Int)).bind fun y432 => (if 0 ≤ (wrap64 ((x8.length : Int) - 1)) then (if (wrap64 ((x8.length : Int) - 1)) ≤ (x8.length : Int) then ((some (x8.take ((wrap64 ((x8.length : Int) - 1)) : Int).toNat : List Int)).bind fun y435 => (if y432.length + y435.length < 140737488355328 then ((some (y432 ++ y435 : List Int)).bind fun y440 => (if (Int.tmod x1 5) = 0 then (if y440.length + 2 < 140737488355328 then ((some (y440 ++ bytesOf (⟨#[92, 116]⟩ : ByteArray) : List Int)).bind fun y443 => ((tmesislaw04_few.f x2).bind fun t446 => (if y443.length + t446.length < 140737488355328 then ((quote_Take.f k (y443 ++ t446)).bind fun bt452 => (if x7 = true then (if (bt452.1.length : Int) = 0 then (if bt452.2.1 = (wrap64 ((x8.length : Int) - 1)) then (tmesislaw04_QuoteFirst.j1 k (bt452.2.2 == 13)) else (tmesislaw04_QuoteFirst.j1 k false)) else (tmesislaw04_QuoteFirst.j1 k false)) else (tmesislaw04_QuoteFirst.j1 k false))) else (none)))) else (none)) else (if (Int.tmod x1 5) = 1 then (if y440.length + 1 < 140737488355328 then ((some (y440 ++ bytesOf (⟨#[10]⟩ : ByteArray) : List Int)).bind fun y457 => ((tmesislaw04_few.f x2).bind fun t460 => (if y457.length + t460.length < 140737488355328 then ((quote_Take.f k (y457 ++ t460)).bind fun bt466 => (if x7 = true then (if (bt466.1.length : Int) = 0 then (if bt466.2.1 = (wrap64 ((x8.length : Int) - 1)) then (tmesislaw04_QuoteFirst.j2 k (bt466.2.2 == 12)) else (tmesislaw04_QuoteFirst.j2 k false)) else (tmesislaw04_QuoteFirst.j2 k false)) else (tmesislaw04_QuoteFirst.j2 k false))) else (none)))) else (none)) else (if (Int.tmod x1 5) = 2 then (if y440.length + 1 < 140737488355328 then ((some (y440 ++ bytesOf (⟨#[1]⟩ : ByteArray) : List Int)).bind fun y471 => ((tmesislaw04_few.f x2).bind fun t474 => (if y471.length + t474.length < 140737488355328 then ((quote_Take.f k (y471 ++ t474)).bind fun bt480 => (if x7 = true then (if (bt480.1.length : Int) = 0 then (if bt480.2.1 = (wrap64 ((x8.length : Int) - 1)) then (tmesislaw04_QuoteFirst.j3 k (bt480.2.2 == 11)) else (tmesislaw04_QuoteFirst.j3 k false)) else (tmesislaw04_QuoteFirst.j3 k false)) else (tmesislaw04_QuoteFirst.j3 k false))) else (none)))) else (none)) else (if (Int.tmod x1 5) = 3 then (if y440.length + 1 < 140737488355328 then ((some (y440 ++ bytesOf (⟨#[127]⟩ : ByteArray) : List Int)).bind fun y485 => ((tmesislaw04_few.f x2).bind fun t488 => (if y485.length + t488.length < 140737488355328 then ((quote_Take.f k (y485 ++ t488)).bind fun bt494 => (if x7 = true then (if (bt494.1.length : Int) = 0 then (if bt494.2.1 = (wrap64 ((x8.length : Int) - 1)) then (tmesislaw04_QuoteFirst.j4 k (bt494.2.2 == 11)) else (tmesislaw04_QuoteFirst.j4 k false)) else (tmesislaw04_QuoteFirst.j4 k false)) else (tmesislaw04_QuoteFirst.j4 k false))) else (none)))) else (none)) else (if (Int.tmod x1 5) = 4 then (if y440.length + 1 < 140737488355328 then ((some (y440 ++ bytesOf (⟨#[255]⟩ : ByteArray) : List Int)).bind fun y499 => ((tmesislaw04_few.f x2).bind fun t502 => (if y499.length + t502.length < 140737488355328 then ((quote_Take.f k (y499 ++ t502)).bind fun bt508 => (if x7 = true then (if (bt508.1.length : Int) = 0 then (if bt508.2.1 = (wrap64 ((x8.length : Int) - 1)) then (tmesislaw04_QuoteFirst.j5 k (bt508.2.2 == 10)) else (tmesislaw04_QuoteFirst.j5 k false)) else (tmesislaw04_QuoteFirst.j5 k false)) else (tmesislaw04_QuoteFirst.j5 k false))) else (none)))) else (none)) else (none))))))) else (none))) else (none)) else (none)))
def tmesislaw04_QuoteFirst.j1 : Nat → Bool → Option (Bool)
 | 0, _ => none
 | k + 1, x6 => some x6
def tmesislaw04_QuoteFirst.j2 : Nat → Bool → Option (Bool)
 | 0, _ => none
 | k + 1, x6 => some x6
def tmesislaw04_QuoteFirst.j3 : Nat → Bool → Option (Bool)
 | 0, _ => none
 | k + 1, x6 => some x6
def tmesislaw04_QuoteFirst.j4 : Nat → Bool → Option (Bool)
 | 0, _ => none
 | k + 1, x6 => some x6
def tmesislaw04_QuoteFirst.j5 : Nat → Bool → Option (Bool)
 | 0, _ => none
 | k + 1, x6 => some x6
end
def tmesislaw04_QuoteFirst.f (k : Nat) (l0 : List Int) (a1 : Int) (l2 : List Int) : Option (Bool) := (tmesislaw04_shown.f k).bind fun t419 => ((tmesislaw04_few.f l0).bind fun t420 => ((quote_Put.f k t420).bind fun bt423 => (if bt423.2 = 0 then (tmesislaw04_QuoteFirst.j0 k a1 l2 t419 bt423.1) else (tmesislaw04_QuoteFirst.j0 k a1 l2 t419 (([39, 39] : List Int))))))
theorem tmesislaw04_QuoteFirst.mono_l : ∀ k, (∀ y0 y1 y2 y3, LeO (tmesislaw04_QuoteFirst.j0 k y0 y1 y2 y3) (tmesislaw04_QuoteFirst.j0 (k + 1) y0 y1 y2 y3)) ∧ (∀ y0, LeO (tmesislaw04_QuoteFirst.j1 k y0) (tmesislaw04_QuoteFirst.j1 (k + 1) y0)) ∧ (∀ y0, LeO (tmesislaw04_QuoteFirst.j2 k y0) (tmesislaw04_QuoteFirst.j2 (k + 1) y0)) ∧ (∀ y0, LeO (tmesislaw04_QuoteFirst.j3 k y0) (tmesislaw04_QuoteFirst.j3 (k + 1) y0)) ∧ (∀ y0, LeO (tmesislaw04_QuoteFirst.j4 k y0) (tmesislaw04_QuoteFirst.j4 (k + 1) y0)) ∧ (∀ y0, LeO (tmesislaw04_QuoteFirst.j5 k y0) (tmesislaw04_QuoteFirst.j5 (k + 1) y0))
 | 0 => ⟨fun _ _ _ _ r h => by simp [tmesislaw04_QuoteFirst.j0] at h, fun _ r h => by simp [tmesislaw04_QuoteFirst.j1] at h, fun _ r h => by simp [tmesislaw04_QuoteFirst.j2] at h, fun _ r h => by simp [tmesislaw04_QuoteFirst.j3] at h, fun _ r h => by simp [tmesislaw04_QuoteFirst.j4] at h, fun _ r h => by simp [tmesislaw04_QuoteFirst.j5] at h⟩
 | k + 1 => by
  obtain ⟨ih0, ih1, ih2, ih3, ih4, ih5⟩ := tmesislaw04_QuoteFirst.mono_l k
  refine ⟨?_, ?_, ?_, ?_, ?_, ?_⟩
  ·intro y0 y1 y2 y3
   unfold tmesislaw04_QuoteFirst.j0
   repeat' first
   | (with_reducible exact ih0 _ _ _ _)
   | (with_reducible exact ih1 _)
   | (with_reducible exact ih2 _)
   | (with_reducible exact ih3 _)
   | (with_reducible exact ih4 _)
   | (with_reducible exact ih5 _)
   | (with_reducible exact quote_Put.mono _ _)
   | (with_reducible exact quote_Take.mono _ _)
   | (with_reducible exact tmesislaw04_shown.mono _)
   | (with_reducible exact LeO.refl _)
   | (with_reducible exact LeO.none _)
   | (with_reducible refine LeO.ite ?_ ?_)
   | (with_reducible refine LeO.bind ?_ (fun _ => ?_))
   | exact ih0 _ _ _ _
   | exact ih1 _
   | exact ih2 _
   | exact ih3 _
   | exact ih4 _
   | exact ih5 _
   | exact quote_Put.mono _ _
   | exact quote_Take.mono _ _
   | exact tmesislaw04_shown.mono _
   | exact LeO.none _
   | refine LeO.ite ?_ ?_
   | refine LeO.bind ?_ (fun _ => ?_)
  ·intro y0
   unfold tmesislaw04_QuoteFirst.j1
   repeat' first
   | (with_reducible exact ih0 _ _ _ _)
   | (with_reducible exact ih1 _)
   | (with_reducible exact ih2 _)
   | (with_reducible exact ih3 _)
   | (with_reducible exact ih4 _)
   | (with_reducible exact ih5 _)
   | (with_reducible exact quote_Put.mono _ _)
   | (with_reducible exact quote_Take.mono _ _)
   | (with_reducible exact tmesislaw04_shown.mono _)
   | (with_reducible exact LeO.refl _)
   | (with_reducible exact LeO.none _)
   | (with_reducible refine LeO.ite ?_ ?_)
   | (with_reducible refine LeO.bind ?_ (fun _ => ?_))
   | exact ih0 _ _ _ _
   | exact ih1 _
   | exact ih2 _
   | exact ih3 _
   | exact ih4 _
   | exact ih5 _
   | exact quote_Put.mono _ _
   | exact quote_Take.mono _ _
   | exact tmesislaw04_shown.mono _
   | exact LeO.none _
   | refine LeO.ite ?_ ?_
   | refine LeO.bind ?_ (fun _ => ?_)
  ·intro y0
   unfold tmesislaw04_QuoteFirst.j2
   repeat' first
   | (with_reducible exact ih0 _ _ _ _)
   | (with_reducible exact ih1 _)
   | (with_reducible exact ih2 _)
   | (with_reducible exact ih3 _)
   | (with_reducible exact ih4 _)
   | (with_reducible exact ih5 _)
   | (with_reducible exact quote_Put.mono _ _)
   | (with_reducible exact quote_Take.mono _ _)
   | (with_reducible exact tmesislaw04_shown.mono _)
   | (with_reducible exact LeO.refl _)
   | (with_reducible exact LeO.none _)
   | (with_reducible refine LeO.ite ?_ ?_)
   | (with_reducible refine LeO.bind ?_ (fun _ => ?_))
   | exact ih0 _ _ _ _
   | exact ih1 _
   | exact ih2 _
   | exact ih3 _
   | exact ih4 _
   | exact ih5 _
   | exact quote_Put.mono _ _
   | exact quote_Take.mono _ _
   | exact tmesislaw04_shown.mono _
   | exact LeO.none _
   | refine LeO.ite ?_ ?_
   | refine LeO.bind ?_ (fun _ => ?_)
  ·intro y0
   unfold tmesislaw04_QuoteFirst.j3
   repeat' first
   | (with_reducible exact ih0 _ _ _ _)
   | (with_reducible exact ih1 _)
   | (with_reducible exact ih2 _)
   | (with_reducible exact ih3 _)
   | (with_reducible exact ih4 _)
   | (with_reducible exact ih5 _)
   | (with_reducible exact quote_Put.mono _ _)
   | (with_reducible exact quote_Take.mono _ _)
   | (with_reducible exact tmesislaw04_shown.mono _)
   | (with_reducible exact LeO.refl _)
   | (with_reducible exact LeO.none _)
   | (with_reducible refine LeO.ite ?_ ?_)
   | (with_reducible refine LeO.bind ?_ (fun _ => ?_))
   | exact ih0 _ _ _ _
   | exact ih1 _
   | exact ih2 _
   | exact ih3 _
   | exact ih4 _
   | exact ih5 _
   | exact quote_Put.mono _ _
   | exact quote_Take.mono _ _
   | exact tmesislaw04_shown.mono _
   | exact LeO.none _
   | refine LeO.ite ?_ ?_
   | refine LeO.bind ?_ (fun _ => ?_)
  ·intro y0
   unfold tmesislaw04_QuoteFirst.j4
   repeat' first
   | (with_reducible exact ih0 _ _ _ _)
   | (with_reducible exact ih1 _)
   | (with_reducible exact ih2 _)
   | (with_reducible exact ih3 _)
   | (with_reducible exact ih4 _)
   | (with_reducible exact ih5 _)
   | (with_reducible exact quote_Put.mono _ _)
   | (with_reducible exact quote_Take.mono _ _)
   | (with_reducible exact tmesislaw04_shown.mono _)
   | (with_reducible exact LeO.refl _)
   | (with_reducible exact LeO.none _)
   | (with_reducible refine LeO.ite ?_ ?_)
   | (with_reducible refine LeO.bind ?_ (fun _ => ?_))
   | exact ih0 _ _ _ _
   | exact ih1 _
   | exact ih2 _
   | exact ih3 _
   | exact ih4 _
   | exact ih5 _
   | exact quote_Put.mono _ _
   | exact quote_Take.mono _ _
   | exact tmesislaw04_shown.mono _
   | exact LeO.none _
   | refine LeO.ite ?_ ?_
   | refine LeO.bind ?_ (fun _ => ?_)
  ·intro y0
   unfold tmesislaw04_QuoteFirst.j5
   repeat' first
   | (with_reducible exact ih0 _ _ _ _)
   | (with_reducible exact ih1 _)
   | (with_reducible exact ih2 _)
   | (with_reducible exact ih3 _)
   | (with_reducible exact ih4 _)
   | (with_reducible exact ih5 _)
   | (with_reducible exact quote_Put.mono _ _)
   | (with_reducible exact quote_Take.mono _ _)
   | (with_reducible exact tmesislaw04_shown.mono _)
   | (with_reducible exact LeO.refl _)
   | (with_reducible exact LeO.none _)
   | (with_reducible refine LeO.ite ?_ ?_)
   | (with_reducible refine LeO.bind ?_ (fun _ => ?_))
   | exact ih0 _ _ _ _
   | exact ih1 _
   | exact ih2 _
   | exact ih3 _
   | exact ih4 _
   | exact ih5 _
   | exact quote_Put.mono _ _
   | exact quote_Take.mono _ _
   | exact tmesislaw04_shown.mono _
   | exact LeO.none _
   | refine LeO.ite ?_ ?_
   | refine LeO.bind ?_ (fun _ => ?_)
theorem tmesislaw04_QuoteFirst.mono : ∀ a0 a1 a2 k, LeO (tmesislaw04_QuoteFirst.f k a0 a1 a2) (tmesislaw04_QuoteFirst.f (k + 1) a0 a1 a2) := by
 intro a0 a1 a2 k
 obtain ⟨ih0, ih1, ih2, ih3, ih4, ih5⟩ := tmesislaw04_QuoteFirst.mono_l k
 unfold tmesislaw04_QuoteFirst.f
 repeat' first
   | (with_reducible exact ih0 _ _ _ _)
   | (with_reducible exact ih1 _)
   | (with_reducible exact ih2 _)
   | (with_reducible exact ih3 _)
   | (with_reducible exact ih4 _)
   | (with_reducible exact ih5 _)
   | (with_reducible exact quote_Put.mono _ _)
   | (with_reducible exact quote_Take.mono _ _)
   | (with_reducible exact tmesislaw04_shown.mono _)
   | (with_reducible exact LeO.refl _)
   | (with_reducible exact LeO.none _)
   | (with_reducible refine LeO.ite ?_ ?_)
   | (with_reducible refine LeO.bind ?_ (fun _ => ?_))
   | exact ih0 _ _ _ _
   | exact ih1 _
   | exact ih2 _
   | exact ih3 _
   | exact ih4 _
   | exact ih5 _
   | exact quote_Put.mono _ _
   | exact quote_Take.mono _ _
   | exact tmesislaw04_shown.mono _
   | exact LeO.none _
   | refine LeO.ite ?_ ?_
   | refine LeO.bind ?_ (fun _ => ?_)
def tmesislaw04_QuoteFirst.T10 : Bool × List (List Nat × List Nat) := (true, [([], []), ([], []), ([], []), ([2], [2]), ([3], [3]), ([1, 4], [1, 4]), ([0, 5], [0, 5]), ([], []), ([7], [7]), ([8], [8]), ([6, 9, 6], [6, 9]), ([], []), ([11, 10], [11]), ([10, 12, 12], [10, 12]), ([13, 13, 0, 1, 2, 3, 4, 5, 6, 7, 8, 9, 10, 11, 12, 13], [13])])
def tmesislaw04_QuoteFirst.B10 : List Nat := [0, 0, 0, 4, 12, 30, 63, 0, 128, 384, 1023, 0, 4095, 8191, 16383]
theorem tmesislaw04_QuoteFirst.tab10 : rtab .any (opsOf Tryd.f6 10) = tmesislaw04_QuoteFirst.T10 := by kernel_rfl
theorem tmesislaw04_QuoteFirst.bits10 : waitsOk tmesislaw04_QuoteFirst.T10.2 tmesislaw04_QuoteFirst.B10 = true := by kernel_rfl
set_option maxHeartbeats 8000000 in
set_option maxRecDepth 100000 in
theorem tmesislaw04_QuoteFirst.calls (k : Nat) (A0 : Option Addr) (c0 : Nat) (l0 : List Int) (a1 : Int) (A2 : Option Addr) (c2 : Nat) (l2 : List Int) (r : Bool) (w : World) (hG : Gl w) (hr0 : Kd.C (Kd.int .u8) w A0 l0.length l0) (hc0 : l0.length ≤ c0) (hr2 : Kd.C (Kd.int .u8) w A2 l2.length l2) (hc2 : l2.length ≤ c2) (h : tmesislaw04_QuoteFirst.f k l0 a1 l2 = some r) :
  Calls Tryd.prog 6 #[.slice A0 l0.length c0, .int .u8 a1, .slice A2 l2.length c2] w fun e w' => e = .returned (.bool r) ∧ Below w.heap.size w w' := by
 have hu34 := Tryd.underlying34
 have hu35 := Tryd.underlying35
 have HR0 := Aside0.mk hr0
 have HC0 := Aside0.mk hc0
 clear hr0 hc0
 have HR2 := Aside0.mk hr2
 have HC2 := Aside0.mk hc2
 clear hr2 hc2
 have HB := Aside0.mk (Below.refl w.heap.size w)
 have HG := Aside0.mk hG
 clear hG
 have H : ((tmesislaw04_shown.f k).bind fun t419 => ((tmesislaw04_few.f l0).bind fun t420 => ((quote_Put.f k t420).bind fun bt423 => (if bt423.2 = 0 then (tmesislaw04_QuoteFirst.j0 k a1 l2 t419 bt423.1) else (tmesislaw04_QuoteFirst.j0 k a1 l2 t419 (([39, 39] : List Int))))))) = some r := h
 clear h
 replace H := Option.bind_eq_some_iff.mp H
 obtain ⟨t419, A40, H⟩ := H
 replace H : ((tmesislaw04_few.f l0).bind fun t420 => ((quote_Put.f k t420).bind fun bt423 => (if bt423.2 = 0 then (tmesislaw04_QuoteFirst.j0 k a1 l2 t419 bt423.1) else (tmesislaw04_QuoteFirst.j0 k a1 l2 t419 (([39, 39] : List Int)))))) = some r := H
 have A4 := Aside0.mk A40
 clear A40
 replace H := Option.bind_eq_some_iff.mp H
 obtain ⟨t420, A50, H⟩ := H
 replace H : ((quote_Put.f k t420).bind fun bt423 => (if bt423.2 = 0 then (tmesislaw04_QuoteFirst.j0 k a1 l2 t419 bt423.1) else (tmesislaw04_QuoteFirst.j0 k a1 l2 t419 (([39, 39] : List Int))))) = some r := H
 have A5 := Aside0.mk A50
 clear A50
 replace H := Option.bind_eq_some_iff.mp H
 obtain ⟨⟨t423, t424⟩, A60, H⟩ := H
 replace H : (if t424 = 0 then (tmesislaw04_QuoteFirst.j0 k a1 l2 t419 t423) else (tmesislaw04_QuoteFirst.j0 k a1 l2 t419 (([39, 39] : List Int)))) = some r := H
 have A6 := Aside0.mk A60
 clear A60
 have HC7 := Aside0.mk H
 clear H
 go_enter Tryd.func6, Tryd.ntmps6
 go_upto_if 25 with (first | ((with_reducible refine gate_callee (f := 8) rfl ?_); refine goesL_ (some 17) rfl rfl Tryd.func8 (by kernel_rfl) rfl #[] rfl (by (try simp only [List.map_toArray, List.map_cons, List.map_nil]); first | done | rfl | (simp only [List.length_drop, List.length_take]; rfl)) ?_; (with_reducible refine (tmesislaw04_shown.calls k  t419 _ A4.out).mono ?_); rintro e w8 ⟨rfl, hb⟩; refine ⟨_, rfl, ?_⟩; have n0_ := Aside0.mk (below_step (by repeat (first | (with_reducible first | exact HB.out | apply below_alloc | apply pw_below_drewN | apply below_drew1) | exact HB.out)) hb); clear HB; have HB := n0_; clear n0_; (try clear hb); (try clear hb2); (try clear hk); (try clear hi)) | ((with_reducible refine gate_callee (f := 10) rfl ?_); refine goesL_ (some 20) rfl rfl Tryd.func10 (by kernel_rfl) rfl #[.slice A0 l0.length c0] rfl (by (try simp only [List.map_toArray, List.map_cons, List.map_nil]); first | done | rfl | (simp only [List.length_drop, List.length_take]; rfl)) ?_; (with_reducible refine (tmesislaw04_few.calls (fun k_ => k_ < w.heap.size) _ _ l0 t420 _ ?side1 A5.out).mono ?_); (case side1 => exact Kd.V_mk HC0.out (Kd.F_below (Kd.C_F (Kd.heap_int .u8) HR0.out) (by repeat (first | (with_reducible first | exact HB.out | apply below_alloc | apply pw_below_drewN | apply below_drew1) | exact HB.out)))); rintro e w9 ⟨v421, rfl, ho0, hb⟩; refine ⟨_, rfl, ?_⟩; have n0_ := Aside0.mk (Kd.V_lower (Kd.V_mono (ok' := fun k_ => True) ho0 (fun k_ hk_ => trivial)) (below_size (by repeat (first | (with_reducible first | exact HB.out | apply below_alloc | apply pw_below_drewN | apply below_drew1) | exact HB.out)))); have n1_ := Aside0.mk (below_step (by repeat (first | (with_reducible first | exact HB.out | apply below_alloc | apply pw_below_drewN | apply below_drew1) | exact HB.out)) hb); clear HB; have HO422 := n0_; have HB := n1_; clear n0_ n1_; (try clear hb); (try clear hb2); (try clear hk); (try clear hi); (try clear ho0); obtain ⟨Ao10, co10, eo10⟩ := Kd.V_slice HO422.out; subst eo10) | ((with_reducible refine gate_callee (f := 12) rfl ?_); refine goesL_ (some 21) rfl rfl Tryd.func12 (by kernel_rfl) rfl #[.slice Ao10 t420.length co10] rfl (by (try simp only [List.map_toArray, List.map_cons, List.map_nil]); first | done | rfl | (simp only [List.length_drop, List.length_take]; rfl)) ?_; (with_reducible refine (quote_Put.calls k _ _ t420 t423 t424 _ ?side1 ?side2 ?side3 A6.out).mono ?_); (case side1 => exact Gl.below HG.out (by repeat (first | (with_reducible first | exact HB.out | apply below_alloc | apply pw_below_drewN | apply below_drew1) | exact HB.out))); (case side2 => repeat (first | exact (Kd.V_reads' HO422.out).2.2 | (with_reducible refine Kd.C_alloc ?_ _) | (with_reducible refine Kd.C_drewN ?_ _) | (with_reducible refine Kd.C_drew ?_))); (case side3 => exact (Kd.V_reads' HO422.out).2.1); rintro e w11 ⟨v425, rfl, ho0, hb⟩; refine ⟨_, rfl, ?_⟩; have n0_ := Aside0.mk (Kd.V_elder' (by (with_reducible repeat (first | apply Kd.V_alloc | apply Kd.V_drewN | apply Kd.V_drew)); exact HO422.out) (Kd.R_base ho0) hb); have n1_ := Aside0.mk (Kd.R_lower ho0 (below_size (by repeat (first | (with_reducible first | exact HB.out | apply below_alloc | apply pw_below_drewN | apply below_drew1) | exact HB.out)))); have n2_ := Aside0.mk (below_step (by repeat (first | (with_reducible first | exact HB.out | apply below_alloc | apply pw_below_drewN | apply below_drew1) | exact HB.out)) hb); clear HO422; clear HB; have HO422 := n0_; have HO426 := n1_; have HB := n2_; clear n0_ n1_ n2_; (try clear hb); (try clear hb2); (try clear hk); (try clear hi); (try clear ho0)))
 (try simp only [Act.put, List.setIfInBounds_toArray, List.set_cons_zero, List.set_cons_succ])
 go_cut [8] (fun v8 wc => ∃ (kq : Nat) (x8_6 : List Int), Aside0 (tmesislaw04_QuoteFirst.j0 kq a1 l2 t419 x8_6 = some r) ∧ Aside0 (kq ≤ k) ∧ Aside0 (Kd.V (Kd.int .u8) 5 wc w.heap.size (fun _ => True) v8 x8_6) ∧ Aside0 (Below w.heap.size w wc))
 case first =>
  have H := HC7.out
  clear HC7
  by_cases c12 : t424 = 0
  ·rw [if_pos c12] at H
   have c12b0 : (t424 == 0) = true := beq_iff_eq.mpr c12
   have c12b1 : (t424 != 0) = false := bne_eq_false_iff_eq.mpr c12
   clear c12
   (first | rw [c12b0] | (simp only [i64_w, i32_w]; rw [c12b0]) | skip)
   have H' := Aside0.mk H
   clear H
   go_wp2
   go_meet
   case rel => exact ⟨_, (t423), H', ⟨by first | omega | exact Nat.le_refl _⟩, ⟨Kd.R_V (by (with_reducible repeat (first | apply Kd.R_alloc | apply Kd.R_drewN | apply Kd.R_drew)); exact HO426.out)⟩, ⟨by repeat (first | (with_reducible first | exact HB.out | apply below_alloc | apply pw_below_drewN | apply below_drew1) | exact HB.out)⟩⟩
  ·rw [if_neg c12] at H
   have c12b0 : (t424 == 0) = false := beq_eq_false_iff_ne.mpr c12
   have c12b1 : (t424 != 0) = true := bne_iff_ne.mpr c12
   (first | rw [c12b0] | (simp only [i64_w, i32_w]; rw [c12b0]) | skip)
   obtain ⟨y427, hy427⟩ : ∃ y_ : List Int, y_ = (([39, 39] : List Int)) := ⟨_, rfl⟩
   replace H : (tmesislaw04_QuoteFirst.j0 k a1 l2 t419 y427) = some r := by first | (rw [hy427]; with_reducible exact H) | (have H2_ := (Option.bind_some _ _).symm.trans H; rw [hy427]; with_reducible exact H2_) | (have H2_ := (Option.bind_some _ _).symm.trans H; with_reducible exact H2_) | with_reducible exact H | (rw [hy427]; exact H) | exact H
   have Ny427 := Aside0.mk hy427
   clear hy427
   have H' := Aside0.mk H
   clear H
   go_wp2_with (first | ((with_reducible refine gate_dst (N := 26) rfl ?_); (try (refine gate_guard (by rfl) ?_; dsimp only)); refine V_litsG _ 5 ?hg (N := 26) ?hd (xs := ([39, 39] : List Int)) ?hr ?hw2 ?hr2 (Below.refl _ _) (Nat.le_refl _) (by simp) ?_; (case hd => rfl); (case hg => rfl); (case hr => intro W_; first | (go_simp; done) | (go_simp; rfl)); (case hw2 => rfl); (case hr2 => intro W_; go_simp; rw [run_convert_lit _ 22 5 _ _ _ Tryd.underlying22 Tryd.underlying5]; rfl); intro v428 w13 ho14 hb hg_ hnew_; clear hg_ hnew_; (first | rw [← Ny427.out] at ho14 | (simp only [Int.reduceToNat] at ho14; rw [← Ny427.out] at ho14)); have n0_ := Aside0.mk (Kd.V_below (by (with_reducible repeat (first | apply Kd.V_alloc | apply Kd.V_drewN | apply Kd.V_drew)); exact HO422.out) hb); have n1_ := Aside0.mk (Kd.R_below (by (with_reducible repeat (first | apply Kd.R_alloc | apply Kd.R_drewN | apply Kd.R_drew)); exact HO426.out) hb); have n2_ := Aside0.mk (Kd.V_lower (Kd.V_mono (ok' := fun k_ => some k_ ≠ (v425 : Value).ownBlock) ho14 (fun k_ hk_ => (Kd.fresh' (Kd.R_lt (by (with_reducible repeat (first | apply Kd.R_alloc | apply Kd.R_drewN | apply Kd.R_drew)); exact HO426.out)) k_ hk_))) (below_size (by repeat (first | (with_reducible first | exact HB.out | apply below_alloc | apply pw_below_drewN | apply below_drew1) | exact HB.out)))); have n3_ := Aside0.mk (below_step (by repeat (first | (with_reducible first | exact HB.out | apply below_alloc | apply pw_below_drewN | apply below_drew1) | exact HB.out)) hb); clear HO422; clear HO426; clear HB; have HO422 := n0_; have HO426 := n1_; have HO429 := n2_; have HB := n3_; clear n0_ n1_ n2_ n3_; clear hb ho14))
   go_meet
   case rel => exact ⟨_, (y427), H', ⟨by first | omega | exact Nat.le_refl _⟩, ⟨by (with_reducible repeat (first | apply Kd.V_alloc | apply Kd.V_drewN | apply Kd.V_drew)); exact Kd.V_mono HO429.out (fun _ hk => trivial)⟩, ⟨by repeat (first | (with_reducible first | exact HB.out | apply below_alloc | apply pw_below_drewN | apply below_drew1) | exact HB.out)⟩⟩
 case rest =>
  clear HC7
  (try clear c1); (try clear c2); (try clear p2); (try clear c6); (try clear c8); (try clear c10); (try clear c12); (try clear c12b0); (try clear c12b1)
  obtain ⟨kq, x8_6, HA, HJ6, HO_8, HB⟩ := hcut
  cases kq with
  | zero => exact absurd HA.out (by simp [tmesislaw04_QuoteFirst.j0])
  | succ kj6 =>
   have H := HA.out
   clear HA
   simp only [tmesislaw04_QuoteFirst.j0] at H
   by_cases c15 : (x8_6.length : Int) < 2
   ·rw [if_pos c15] at H
    have c15b0 : decide ((x8_6.length : Int) < 2) = true := decide_eq_true c15
    have c15b1 : decide (x8_6.length < 2) = true := decide_eq_true (by omega)
    clear c15
    obtain rfl := Option.some.inj H
    obtain ⟨Ao16, co16, eo16⟩ := Kd.V_slice HO_8.out
    subst eo16
    go_wp2
    go_ret
    exact ⟨by first | rfl | (simp [errW_none, errW_some] <;> rfl) | (simp [*, errW_none, errW_some] <;> rfl), by repeat (first | (with_reducible first | exact HB.out | apply below_alloc | apply pw_below_drewN | apply below_drew1) | exact HB.out)⟩
   ·rw [if_neg c15] at H
    have c15b0 : decide ((x8_6.length : Int) < 2) = false := decide_eq_false c15
    have c15b1 : decide (x8_6.length < 2) = false := decide_eq_false (by omega)
    clear c15
    obtain ⟨y432, hy432⟩ : ∃ y_ : List Int, y_ = (([] : List Int)) := ⟨_, rfl⟩
    replace H : (if 0 ≤ (wrap64 ((x8_6.length : Int) - 1)) then (if (wrap64 ((x8_6.length : Int) - 1)) ≤ (x8_6.length : Int) then ((some (x8_6.take ((wrap64 ((x8_6.length : Int) - 1)) : Int).toNat : List Int)).bind fun y435 => (if y432.length + y435.length < 140737488355328 then ((some (y432 ++ y435 : List Int)).bind fun y440 => (if (Int.tmod a1 5) = 0 then (if y440.length + 2 < 140737488355328 then ((some (y440 ++ bytesOf (⟨#[92, 116]⟩ : ByteArray) : List Int)).bind fun y443 => ((tmesislaw04_few.f l2).bind fun t446 => (if y443.length + t446.length < 140737488355328 then ((quote_Take.f kj6 (y443 ++ t446)).bind fun bt452 => (if t419 = true then (if (bt452.1.length : Int) = 0 then (if bt452.2.1 = (wrap64 ((x8_6.length : Int) - 1)) then (tmesislaw04_QuoteFirst.j1 kj6 (bt452.2.2 == 13)) else (tmesislaw04_QuoteFirst.j1 kj6 false)) else (tmesislaw04_QuoteFirst.j1 kj6 false)) else (tmesislaw04_QuoteFirst.j1 kj6 false))) else (none)))) else (none)) else (if (Int.tmod a1 5) = 1 then (if y440.length + 1 < 140737488355328 then ((some (y440 ++ bytesOf (⟨#[10]⟩ : ByteArray) : List Int)).bind fun y457 => ((tmesislaw04_few.f l2).bind fun t460 => (if y457.length + t460.length < 140737488355328 then ((quote_Take.f kj6 (y457 ++ t460)).bind fun bt466 => (if t419 = true then (if (bt466.1.length : Int) = 0 then (if bt466.2.1 = (wrap64 ((x8_6.length : Int) - 1)) then (tmesislaw04_QuoteFirst.j2 kj6 (bt466.2.2 == 12)) else (tmesislaw04_QuoteFirst.j2 kj6 false)) else (tmesislaw04_QuoteFirst.j2 kj6 false)) else (tmesislaw04_QuoteFirst.j2 kj6 false))) else (none)))) else (none)) else (if (Int.tmod a1 5) = 2 then (if y440.length + 1 < 140737488355328 then ((some (y440 ++ bytesOf (⟨#[1]⟩ : ByteArray) : List Int)).bind fun y471 => ((tmesislaw04_few.f l2).bind fun t474 => (if y471.length + t474.length < 140737488355328 then ((quote_Take.f kj6 (y471 ++ t474)).bind fun bt480 => (if t419 = true then (if (bt480.1.length : Int) = 0 then (if bt480.2.1 = (wrap64 ((x8_6.length : Int) - 1)) then (tmesislaw04_QuoteFirst.j3 kj6 (bt480.2.2 == 11)) else (tmesislaw04_QuoteFirst.j3 kj6 false)) else (tmesislaw04_QuoteFirst.j3 kj6 false)) else (tmesislaw04_QuoteFirst.j3 kj6 false))) else (none)))) else (none)) else (if (Int.tmod a1 5) = 3 then (if y440.length + 1 < 140737488355328 then ((some (y440 ++ bytesOf (⟨#[127]⟩ : ByteArray) : List Int)).bind fun y485 => ((tmesislaw04_few.f l2).bind fun t488 => (if y485.length + t488.length < 140737488355328 then ((quote_Take.f kj6 (y485 ++ t488)).bind fun bt494 => (if t419 = true then (if (bt494.1.length : Int) = 0 then (if bt494.2.1 = (wrap64 ((x8_6.length : Int) - 1)) then (tmesislaw04_QuoteFirst.j4 kj6 (bt494.2.2 == 11)) else (tmesislaw04_QuoteFirst.j4 kj6 false)) else (tmesislaw04_QuoteFirst.j4 kj6 false)) else (tmesislaw04_QuoteFirst.j4 kj6 false))) else (none)))) else (none)) else (if (Int.tmod a1 5) = 4 then (if y440.length + 1 < 140737488355328 then ((some (y440 ++ bytesOf (⟨#[255]⟩ : ByteArray) : List Int)).bind fun y499 => ((tmesislaw04_few.f l2).bind fun t502 => (if y499.length + t502.length < 140737488355328 then ((quote_Take.f kj6 (y499 ++ t502)).bind fun bt508 => (if t419 = true then (if (bt508.1.length : Int) = 0 then (if bt508.2.1 = (wrap64 ((x8_6.length : Int) - 1)) then (tmesislaw04_QuoteFirst.j5 kj6 (bt508.2.2 == 10)) else (tmesislaw04_QuoteFirst.j5 kj6 false)) else (tmesislaw04_QuoteFirst.j5 kj6 false)) else (tmesislaw04_QuoteFirst.j5 kj6 false))) else (none)))) else (none)) else (none))))))) else (none))) else (none)) else (none)) = some r := by first | (rw [hy432]; with_reducible exact H) | (have H2_ := (Option.bind_some _ _).symm.trans H; rw [hy432]; with_reducible exact H2_) | (have H2_ := (Option.bind_some _ _).symm.trans H; with_reducible exact H2_) | with_reducible exact H | (rw [hy432]; exact H) | exact H
    have Ny432 := Aside0.mk hy432
    clear hy432
    obtain ⟨ji17, hji17⟩ : ∃ j_ : Int, (wrap64 ((x8_6.length : Int) - 1)) = j_ := ⟨_, rfl⟩
    replace H : (if 0 ≤ (ji17) then (if (ji17) ≤ (x8_6.length : Int) then ((some (x8_6.take ((ji17) : Int).toNat : List Int)).bind fun y435 => (if y432.length + y435.length < 140737488355328 then ((some (y432 ++ y435 : List Int)).bind fun y440 => (if (Int.tmod a1 5) = 0 then (if y440.length + 2 < 140737488355328 then ((some (y440 ++ bytesOf (⟨#[92, 116]⟩ : ByteArray) : List Int)).bind fun y443 => ((tmesislaw04_few.f l2).bind fun t446 => (if y443.length + t446.length < 140737488355328 then ((quote_Take.f kj6 (y443 ++ t446)).bind fun bt452 => (if t419 = true then (if (bt452.1.length : Int) = 0 then (if bt452.2.1 = (ji17) then (tmesislaw04_QuoteFirst.j1 kj6 (bt452.2.2 == 13)) else (tmesislaw04_QuoteFirst.j1 kj6 false)) else (tmesislaw04_QuoteFirst.j1 kj6 false)) else (tmesislaw04_QuoteFirst.j1 kj6 false))) else (none)))) else (none)) else (if (Int.tmod a1 5) = 1 then (if y440.length + 1 < 140737488355328 then ((some (y440 ++ bytesOf (⟨#[10]⟩ : ByteArray) : List Int)).bind fun y457 => ((tmesislaw04_few.f l2).bind fun t460 => (if y457.length + t460.length < 140737488355328 then ((quote_Take.f kj6 (y457 ++ t460)).bind fun bt466 => (if t419 = true then (if (bt466.1.length : Int) = 0 then (if bt466.2.1 = (ji17) then (tmesislaw04_QuoteFirst.j2 kj6 (bt466.2.2 == 12)) else (tmesislaw04_QuoteFirst.j2 kj6 false)) else (tmesislaw04_QuoteFirst.j2 kj6 false)) else (tmesislaw04_QuoteFirst.j2 kj6 false))) else (none)))) else (none)) else (if (Int.tmod a1 5) = 2 then (if y440.length + 1 < 140737488355328 then ((some (y440 ++ bytesOf (⟨#[1]⟩ : ByteArray) : List Int)).bind fun y471 => ((tmesislaw04_few.f l2).bind fun t474 => (if y471.length + t474.length < 140737488355328 then ((quote_Take.f kj6 (y471 ++ t474)).bind fun bt480 => (if t419 = true then (if (bt480.1.length : Int) = 0 then (if bt480.2.1 = (ji17) then (tmesislaw04_QuoteFirst.j3 kj6 (bt480.2.2 == 11)) else (tmesislaw04_QuoteFirst.j3 kj6 false)) else (tmesislaw04_QuoteFirst.j3 kj6 false)) else (tmesislaw04_QuoteFirst.j3 kj6 false))) else (none)))) else (none)) else (if (Int.tmod a1 5) = 3 then (if y440.length + 1 < 140737488355328 then ((some (y440 ++ bytesOf (⟨#[127]⟩ : ByteArray) : List Int)).bind fun y485 => ((tmesislaw04_few.f l2).bind fun t488 => (if y485.length + t488.length < 140737488355328 then ((quote_Take.f kj6 (y485 ++ t488)).bind fun bt494 => (if t419 = true then (if (bt494.1.length : Int) = 0 then (if bt494.2.1 = (ji17) then (tmesislaw04_QuoteFirst.j4 kj6 (bt494.2.2 == 11)) else (tmesislaw04_QuoteFirst.j4 kj6 false)) else (tmesislaw04_QuoteFirst.j4 kj6 false)) else (tmesislaw04_QuoteFirst.j4 kj6 false))) else (none)))) else (none)) else (if (Int.tmod a1 5) = 4 then (if y440.length + 1 < 140737488355328 then ((some (y440 ++ bytesOf (⟨#[255]⟩ : ByteArray) : List Int)).bind fun y499 => ((tmesislaw04_few.f l2).bind fun t502 => (if y499.length + t502.length < 140737488355328 then ((quote_Take.f kj6 (y499 ++ t502)).bind fun bt508 => (if t419 = true then (if (bt508.1.length : Int) = 0 then (if bt508.2.1 = (ji17) then (tmesislaw04_QuoteFirst.j5 kj6 (bt508.2.2 == 10)) else (tmesislaw04_QuoteFirst.j5 kj6 false)) else (tmesislaw04_QuoteFirst.j5 kj6 false)) else (tmesislaw04_QuoteFirst.j5 kj6 false))) else (none)))) else (none)) else (none))))))) else (none))) else (none)) else (none)) = some r := by first | (rw [hji17] at H; exact H) | (simp only [hji17] at H ⊢; exact H)
    have hji17w : (IntKind.i64.wrap ((x8_6.length : Int) - 1)) = ji17 := (i64_w _).trans hji17
    by_cases c18 : 0 ≤ (ji17)
    ·rw [if_pos c18] at H
     have c18b0 := eq_true c18
     have c18b1 : decide (0 ≤ (ji17)) = true := decide_eq_true c18
     clear c18
     by_cases c19 : (ji17) ≤ (x8_6.length : Int)
     ·rw [if_pos c19] at H
      have c19b0 := eq_true c19
      have c19b1 : decide ((ji17) ≤ (x8_6.length : Int)) = true := decide_eq_true c19
      clear c19
      obtain ⟨y435, hy435⟩ : ∃ y_ : List Int, y_ = (x8_6.take ((ji17) : Int).toNat) := ⟨_, rfl⟩
      replace H : (if y432.length + y435.length < 140737488355328 then ((some (y432 ++ y435 : List Int)).bind fun y440 => (if (Int.tmod a1 5) = 0 then (if y440.length + 2 < 140737488355328 then ((some (y440 ++ bytesOf (⟨#[92, 116]⟩ : ByteArray) : List Int)).bind fun y443 => ((tmesislaw04_few.f l2).bind fun t446 => (if y443.length + t446.length < 140737488355328 then ((quote_Take.f kj6 (y443 ++ t446)).bind fun bt452 => (if t419 = true then (if (bt452.1.length : Int) = 0 then (if bt452.2.1 = (ji17) then (tmesislaw04_QuoteFirst.j1 kj6 (bt452.2.2 == 13)) else (tmesislaw04_QuoteFirst.j1 kj6 false)) else (tmesislaw04_QuoteFirst.j1 kj6 false)) else (tmesislaw04_QuoteFirst.j1 kj6 false))) else (none)))) else (none)) else (if (Int.tmod a1 5) = 1 then (if y440.length + 1 < 140737488355328 then ((some (y440 ++ bytesOf (⟨#[10]⟩ : ByteArray) : List Int)).bind fun y457 => ((tmesislaw04_few.f l2).bind fun t460 => (if y457.length + t460.length < 140737488355328 then ((quote_Take.f kj6 (y457 ++ t460)).bind fun bt466 => (if t419 = true then (if (bt466.1.length : Int) = 0 then (if bt466.2.1 = (ji17) then (tmesislaw04_QuoteFirst.j2 kj6 (bt466.2.2 == 12)) else (tmesislaw04_QuoteFirst.j2 kj6 false)) else (tmesislaw04_QuoteFirst.j2 kj6 false)) else (tmesislaw04_QuoteFirst.j2 kj6 false))) else (none)))) else (none)) else (if (Int.tmod a1 5) = 2 then (if y440.length + 1 < 140737488355328 then ((some (y440 ++ bytesOf (⟨#[1]⟩ : ByteArray) : List Int)).bind fun y471 => ((tmesislaw04_few.f l2).bind fun t474 => (if y471.length + t474.length < 140737488355328 then ((quote_Take.f kj6 (y471 ++ t474)).bind fun bt480 => (if t419 = true then (if (bt480.1.length : Int) = 0 then (if bt480.2.1 = (ji17) then (tmesislaw04_QuoteFirst.j3 kj6 (bt480.2.2 == 11)) else (tmesislaw04_QuoteFirst.j3 kj6 false)) else (tmesislaw04_QuoteFirst.j3 kj6 false)) else (tmesislaw04_QuoteFirst.j3 kj6 false))) else (none)))) else (none)) else (if (Int.tmod a1 5) = 3 then (if y440.length + 1 < 140737488355328 then ((some (y440 ++ bytesOf (⟨#[127]⟩ : ByteArray) : List Int)).bind fun y485 => ((tmesislaw04_few.f l2).bind fun t488 => (if y485.length + t488.length < 140737488355328 then ((quote_Take.f kj6 (y485 ++ t488)).bind fun bt494 => (if t419 = true then (if (bt494.1.length : Int) = 0 then (if bt494.2.1 = (ji17) then (tmesislaw04_QuoteFirst.j4 kj6 (bt494.2.2 == 11)) else (tmesislaw04_QuoteFirst.j4 kj6 false)) else (tmesislaw04_QuoteFirst.j4 kj6 false)) else (tmesislaw04_QuoteFirst.j4 kj6 false))) else (none)))) else (none)) else (if (Int.tmod a1 5) = 4 then (if y440.length + 1 < 140737488355328 then ((some (y440 ++ bytesOf (⟨#[255]⟩ : ByteArray) : List Int)).bind fun y499 => ((tmesislaw04_few.f l2).bind fun t502 => (if y499.length + t502.length < 140737488355328 then ((quote_Take.f kj6 (y499 ++ t502)).bind fun bt508 => (if t419 = true then (if (bt508.1.length : Int) = 0 then (if bt508.2.1 = (ji17) then (tmesislaw04_QuoteFirst.j5 kj6 (bt508.2.2 == 10)) else (tmesislaw04_QuoteFirst.j5 kj6 false)) else (tmesislaw04_QuoteFirst.j5 kj6 false)) else (tmesislaw04_QuoteFirst.j5 kj6 false))) else (none)))) else (none)) else (none))))))) else (none)) = some r := by first | (rw [hy435]; with_reducible exact H) | (have H2_ := (Option.bind_some _ _).symm.trans H; rw [hy435]; with_reducible exact H2_) | (have H2_ := (Option.bind_some _ _).symm.trans H; with_reducible exact H2_) | with_reducible exact H | (rw [hy435]; exact H) | exact H
      have Ny435 := Aside0.mk hy435
      clear hy435
      by_cases c20 : y432.length + y435.length < 140737488355328
      ·rw [if_pos c20] at H
       have LMc20 := Aside0.mk c20
       clear c20
       obtain ⟨y440, hy440⟩ : ∃ y_ : List Int, y_ = (y432 ++ y435) := ⟨_, rfl⟩
       replace H : (if (Int.tmod a1 5) = 0 then (if y440.length + 2 < 140737488355328 then ((some (y440 ++ bytesOf (⟨#[92, 116]⟩ : ByteArray) : List Int)).bind fun y443 => ((tmesislaw04_few.f l2).bind fun t446 => (if y443.length + t446.length < 140737488355328 then ((quote_Take.f kj6 (y443 ++ t446)).bind fun bt452 => (if t419 = true then (if (bt452.1.length : Int) = 0 then (if bt452.2.1 = (ji17) then (tmesislaw04_QuoteFirst.j1 kj6 (bt452.2.2 == 13)) else (tmesislaw04_QuoteFirst.j1 kj6 false)) else (tmesislaw04_QuoteFirst.j1 kj6 false)) else (tmesislaw04_QuoteFirst.j1 kj6 false))) else (none)))) else (none)) else (if (Int.tmod a1 5) = 1 then (if y440.length + 1 < 140737488355328 then ((some (y440 ++ bytesOf (⟨#[10]⟩ : ByteArray) : List Int)).bind fun y457 => ((tmesislaw04_few.f l2).bind fun t460 => (if y457.length + t460.length < 140737488355328 then ((quote_Take.f kj6 (y457 ++ t460)).bind fun bt466 => (if t419 = true then (if (bt466.1.length : Int) = 0 then (if bt466.2.1 = (ji17) then (tmesislaw04_QuoteFirst.j2 kj6 (bt466.2.2 == 12)) else (tmesislaw04_QuoteFirst.j2 kj6 false)) else (tmesislaw04_QuoteFirst.j2 kj6 false)) else (tmesislaw04_QuoteFirst.j2 kj6 false))) else (none)))) else (none)) else (if (Int.tmod a1 5) = 2 then (if y440.length + 1 < 140737488355328 then ((some (y440 ++ bytesOf (⟨#[1]⟩ : ByteArray) : List Int)).bind fun y471 => ((tmesislaw04_few.f l2).bind fun t474 => (if y471.length + t474.length < 140737488355328 then ((quote_Take.f kj6 (y471 ++ t474)).bind fun bt480 => (if t419 = true then (if (bt480.1.length : Int) = 0 then (if bt480.2.1 = (ji17) then (tmesislaw04_QuoteFirst.j3 kj6 (bt480.2.2 == 11)) else (tmesislaw04_QuoteFirst.j3 kj6 false)) else (tmesislaw04_QuoteFirst.j3 kj6 false)) else (tmesislaw04_QuoteFirst.j3 kj6 false))) else (none)))) else (none)) else (if (Int.tmod a1 5) = 3 then (if y440.length + 1 < 140737488355328 then ((some (y440 ++ bytesOf (⟨#[127]⟩ : ByteArray) : List Int)).bind fun y485 => ((tmesislaw04_few.f l2).bind fun t488 => (if y485.length + t488.length < 140737488355328 then ((quote_Take.f kj6 (y485 ++ t488)).bind fun bt494 => (if t419 = true then (if (bt494.1.length : Int) = 0 then (if bt494.2.1 = (ji17) then (tmesislaw04_QuoteFirst.j4 kj6 (bt494.2.2 == 11)) else (tmesislaw04_QuoteFirst.j4 kj6 false)) else (tmesislaw04_QuoteFirst.j4 kj6 false)) else (tmesislaw04_QuoteFirst.j4 kj6 false))) else (none)))) else (none)) else (if (Int.tmod a1 5) = 4 then (if y440.length + 1 < 140737488355328 then ((some (y440 ++ bytesOf (⟨#[255]⟩ : ByteArray) : List Int)).bind fun y499 => ((tmesislaw04_few.f l2).bind fun t502 => (if y499.length + t502.length < 140737488355328 then ((quote_Take.f kj6 (y499 ++ t502)).bind fun bt508 => (if t419 = true then (if (bt508.1.length : Int) = 0 then (if bt508.2.1 = (ji17) then (tmesislaw04_QuoteFirst.j5 kj6 (bt508.2.2 == 10)) else (tmesislaw04_QuoteFirst.j5 kj6 false)) else (tmesislaw04_QuoteFirst.j5 kj6 false)) else (tmesislaw04_QuoteFirst.j5 kj6 false))) else (none)))) else (none)) else (none)))))) = some r := by first | (rw [hy440]; with_reducible exact H) | (have H2_ := (Option.bind_some _ _).symm.trans H; rw [hy440]; with_reducible exact H2_) | (have H2_ := (Option.bind_some _ _).symm.trans H; with_reducible exact H2_) | with_reducible exact H | (rw [hy440]; exact H) | exact H
       have Ny440 := Aside0.mk hy440
       clear hy440
       by_cases c21 : (Int.tmod a1 5) = 0
       ·rw [if_pos c21] at H
        have c21b0 : ((Int.tmod a1 5) == 0) = true := beq_iff_eq.mpr c21
        have c21b1 : ((Int.tmod a1 5) != 0) = false := bne_eq_false_iff_eq.mpr c21
        have hixc21 : (Int.tmod a1 5) = 0 := c21
        clear c21
        by_cases c22 : y440.length + 2 < 140737488355328
        ·rw [if_pos c22] at H
         have LMc22 := Aside0.mk c22
         clear c22
         obtain ⟨y443, hy443⟩ : ∃ y_ : List Int, y_ = (y440 ++ bytesOf (⟨#[92, 116]⟩ : ByteArray)) := ⟨_, rfl⟩
         replace H : ((tmesislaw04_few.f l2).bind fun t446 => (if y443.length + t446.length < 140737488355328 then ((quote_Take.f kj6 (y443 ++ t446)).bind fun bt452 => (if t419 = true then (if (bt452.1.length : Int) = 0 then (if bt452.2.1 = (ji17) then (tmesislaw04_QuoteFirst.j1 kj6 (bt452.2.2 == 13)) else (tmesislaw04_QuoteFirst.j1 kj6 false)) else (tmesislaw04_QuoteFirst.j1 kj6 false)) else (tmesislaw04_QuoteFirst.j1 kj6 false))) else (none))) = some r := by first | (rw [hy443]; with_reducible exact H) | (have H2_ := (Option.bind_some _ _).symm.trans H; rw [hy443]; with_reducible exact H2_) | (have H2_ := (Option.bind_some _ _).symm.trans H; with_reducible exact H2_) | with_reducible exact H | (rw [hy443]; exact H) | exact H
         have Ny443 := Aside0.mk hy443
         clear hy443
         replace H := Option.bind_eq_some_iff.mp H
         obtain ⟨t446, A230, H⟩ := H
         replace H : (if y443.length + t446.length < 140737488355328 then ((quote_Take.f kj6 (y443 ++ t446)).bind fun bt452 => (if t419 = true then (if (bt452.1.length : Int) = 0 then (if bt452.2.1 = (ji17) then (tmesislaw04_QuoteFirst.j1 kj6 (bt452.2.2 == 13)) else (tmesislaw04_QuoteFirst.j1 kj6 false)) else (tmesislaw04_QuoteFirst.j1 kj6 false)) else (tmesislaw04_QuoteFirst.j1 kj6 false))) else (none)) = some r := H
         have A23 := Aside0.mk A230
         clear A230
         by_cases c24 : y443.length + t446.length < 140737488355328
         ·rw [if_pos c24] at H
          have LMc24 := Aside0.mk c24
          clear c24
          obtain ⟨y449, hy449⟩ : ∃ y_ : List Int, y_ = (y443 ++ t446) := ⟨_, rfl⟩
          replace H : ((quote_Take.f kj6 y449).bind fun bt452 => (if t419 = true then (if (bt452.1.length : Int) = 0 then (if bt452.2.1 = (ji17) then (tmesislaw04_QuoteFirst.j1 kj6 (bt452.2.2 == 13)) else (tmesislaw04_QuoteFirst.j1 kj6 false)) else (tmesislaw04_QuoteFirst.j1 kj6 false)) else (tmesislaw04_QuoteFirst.j1 kj6 false))) = some r := by first | (rw [hy449]; with_reducible exact H) | (have H2_ := (Option.bind_some _ _).symm.trans H; rw [hy449]; with_reducible exact H2_) | (have H2_ := (Option.bind_some _ _).symm.trans H; with_reducible exact H2_) | with_reducible exact H | (rw [hy449]; exact H) | exact H
          have Ny449 := Aside0.mk hy449
          clear hy449
          replace H := Option.bind_eq_some_iff.mp H
          obtain ⟨⟨t452, t453, t454⟩, A250, H⟩ := H
          replace H : (if t419 = true then (if (t452.length : Int) = 0 then (if t453 = (ji17) then (tmesislaw04_QuoteFirst.j1 kj6 (t454 == 13)) else (tmesislaw04_QuoteFirst.j1 kj6 false)) else (tmesislaw04_QuoteFirst.j1 kj6 false)) else (tmesislaw04_QuoteFirst.j1 kj6 false)) = some r := H
          have A25 := Aside0.mk A250
          clear A250
          have HC26 := Aside0.mk H
          clear H
          obtain ⟨Ao27, co27, eo27⟩ := Kd.V_slice HO_8.out
          subst eo27
          try go_wp2_with (first | ((with_reducible refine gate_dst (N := 10) rfl ?_); (try (refine gate_guard (by rfl) ?_; dsimp only)); refine box_event ?hg (N := 10) ?hd (cs := #[.string ⟨#[]⟩, .string ⟨#[]⟩, .string ⟨#[]⟩, .string ⟨#[]⟩, .string ⟨#[]⟩]) (t := 34) ?hr ?_; (case hd => rfl); (case hg => rfl); (case hr => first | (go_simp; done) | (go_simp; rfl)); intro gA hg w28 hbox hb; have n0_ := Aside0.mk (Kd.V_below (Kd.V_elderB (by (with_reducible repeat (first | apply Kd.V_alloc | apply Kd.V_drewN | apply Kd.V_drew)); exact HO_8.out) gA (Nat.le_of_eq hg.symm)) hb); have n1_ := Aside0.mk (below_step (by repeat (first | (with_reducible first | exact HB.out | apply below_alloc | apply pw_below_drewN | apply below_drew1) | exact HB.out)) hb); have n2_ := Aside0.mk (hbox); have n3_ := Aside0.mk ((by rw [hg]; exact (below_size (by repeat (first | (with_reducible first | exact HB.out | apply below_alloc | apply pw_below_drewN | apply below_drew1) | exact HB.out))) : w.heap.size ≤ gA)); have n4_ := Aside0.mk ((by rw [hg]; exact (below_size (by repeat (first | (with_reducible first | exact HB.out | apply below_alloc | apply pw_below_drewN | apply below_drew1) | exact HB.out))) : w.heap.size ≤ gA)); clear HO_8; clear HB; have HO_8 := n0_; have HB := n1_; have BA := n2_; have GM := n3_; have GA := n4_; clear n0_ n1_ n2_ n3_ n4_; clear hb hbox hg; have hcz29_0 : w28.cell? ⟨gA, 0, none⟩ = some (.string ⟨#[]⟩) := (blk_cell BA.out 0).trans rfl; have hcz29_1 : w28.cell? ⟨gA, 1, none⟩ = some (.string ⟨#[]⟩) := (blk_cell BA.out 1).trans rfl; have hcz29_2 : w28.cell? ⟨gA, 2, none⟩ = some (.string ⟨#[]⟩) := (blk_cell BA.out 2).trans rfl; have hcz29_3 : w28.cell? ⟨gA, 3, none⟩ = some (.string ⟨#[]⟩) := (blk_cell BA.out 3).trans rfl; have hcz29_4 : w28.cell? ⟨gA, 4, none⟩ = some (.string ⟨#[]⟩) := (blk_cell BA.out 4).trans rfl; have hfz29_0 := blk_frozen BA.out 0; have hfz29_1 := blk_frozen BA.out 1; have hfz29_2 := blk_frozen BA.out 2; have hfz29_3 := blk_frozen BA.out 3; have hfz29_4 := blk_frozen BA.out 4) | ((with_reducible refine gate_dst (N := 11) rfl ?_); (try (refine gate_guard (by rfl) ?_; dsimp only)); refine box_event ?hg (N := 11) ?hd (cs := #[.int .i64 0, .int .i64 0, .int .i64 0, .int .i64 0, .int .i64 0]) (t := 35) ?hr ?_; (case hd => rfl); (case hg => rfl); (case hr => first | (go_simp; done) | (go_simp; rfl)); intro gB hg w30 hbox hb; have n0_ := Aside0.mk (Kd.V_below (Kd.V_elderB (by (with_reducible repeat (first | apply Kd.V_alloc | apply Kd.V_drewN | apply Kd.V_drew)); exact (Kd.V_mono (Kd.V_far (p := ⟨gA, 4, none⟩) (Kd.V_far (p := ⟨gA, 3, none⟩) (Kd.V_far (p := ⟨gA, 2, none⟩) (Kd.V_far (p := ⟨gA, 1, none⟩) (Kd.V_far (p := ⟨gA, 0, none⟩) (Kd.V_mono HO_8.out (fun k_ hk => (⟨hk, hk.2⟩ : _ ∧ k_ ≠ gA))) (fun _ hk => hk.2) (.string ⟨#[92, 116]⟩)) (fun _ hk => hk.2) (.string ⟨#[10]⟩)) (fun _ hk => hk.2) (.string ⟨#[1]⟩)) (fun _ hk => hk.2) (.string ⟨#[127]⟩)) (fun _ hk => hk.2) (.string ⟨#[255]⟩)) (fun _ h_ => h_.1))) gB (Nat.le_of_eq hg.symm)) hb); have n1_ := Aside0.mk (blk_below (g := gA) (o := .cells #[.string ⟨#[92, 116]⟩, .string ⟨#[10]⟩, .string ⟨#[1]⟩, .string ⟨#[127]⟩, .string ⟨#[255]⟩] 34 (0, 0)) (by refine blk_put (cs := #[.string ⟨#[92, 116]⟩, .string ⟨#[10]⟩, .string ⟨#[1]⟩, .string ⟨#[127]⟩, .string ⟨#[]⟩]) ?_ 4 _ rfl; refine blk_put (cs := #[.string ⟨#[92, 116]⟩, .string ⟨#[10]⟩, .string ⟨#[1]⟩, .string ⟨#[]⟩, .string ⟨#[]⟩]) ?_ 3 _ rfl; refine blk_put (cs := #[.string ⟨#[92, 116]⟩, .string ⟨#[10]⟩, .string ⟨#[]⟩, .string ⟨#[]⟩, .string ⟨#[]⟩]) ?_ 2 _ rfl; refine blk_put (cs := #[.string ⟨#[92, 116]⟩, .string ⟨#[]⟩, .string ⟨#[]⟩, .string ⟨#[]⟩, .string ⟨#[]⟩]) ?_ 1 _ rfl; refine blk_put (cs := #[.string ⟨#[]⟩, .string ⟨#[]⟩, .string ⟨#[]⟩, .string ⟨#[]⟩, .string ⟨#[]⟩]) ?_ 0 _ rfl; exact BA.out) hb); have n2_ := Aside0.mk (below_step (by repeat (first | (with_reducible first | exact HB.out | apply below_alloc | apply pw_below_drewN | apply below_drew1 | refine below_set ?_ GA.out) | exact HB.out)) hb); have n3_ := Aside0.mk (hbox); have n4_ := Aside0.mk ((by rw [hg]; exact (below_size (by repeat (first | (with_reducible first | exact HB.out | apply below_alloc | apply pw_below_drewN | apply below_drew1 | refine below_set ?_ GA.out) | exact HB.out))) : w.heap.size ≤ gB)); have n5_ := Aside0.mk ((by rw [hg]; exact (below_size (by repeat (first | (with_reducible first | exact HB.out | apply below_alloc | apply pw_below_drewN | apply below_drew1 | refine below_set ?_ GA.out) | exact HB.out))) : w.heap.size ≤ gB)); have n6_ := Aside0.mk ((by rw [hg]; exact Nat.ne_of_lt (blk_lt (g := gA) (o := .cells #[.string ⟨#[92, 116]⟩, .string ⟨#[10]⟩, .string ⟨#[1]⟩, .string ⟨#[127]⟩, .string ⟨#[255]⟩] 34 (0, 0)) (by refine blk_put (cs := #[.string ⟨#[92, 116]⟩, .string ⟨#[10]⟩, .string ⟨#[1]⟩, .string ⟨#[127]⟩, .string ⟨#[]⟩]) ?_ 4 _ rfl; refine blk_put (cs := #[.string ⟨#[92, 116]⟩, .string ⟨#[10]⟩, .string ⟨#[1]⟩, .string ⟨#[]⟩, .string ⟨#[]⟩]) ?_ 3 _ rfl; refine blk_put (cs := #[.string ⟨#[92, 116]⟩, .string ⟨#[10]⟩, .string ⟨#[]⟩, .string ⟨#[]⟩, .string ⟨#[]⟩]) ?_ 2 _ rfl; refine blk_put (cs := #[.string ⟨#[92, 116]⟩, .string ⟨#[]⟩, .string ⟨#[]⟩, .string ⟨#[]⟩, .string ⟨#[]⟩]) ?_ 1 _ rfl; refine blk_put (cs := #[.string ⟨#[]⟩, .string ⟨#[]⟩, .string ⟨#[]⟩, .string ⟨#[]⟩, .string ⟨#[]⟩]) ?_ 0 _ rfl; exact BA.out)) : gA ≠ gB)); have n7_ := Aside0.mk ((by rw [hg]; exact Nat.ne_of_gt (blk_lt (g := gA) (o := .cells #[.string ⟨#[92, 116]⟩, .string ⟨#[10]⟩, .string ⟨#[1]⟩, .string ⟨#[127]⟩, .string ⟨#[255]⟩] 34 (0, 0)) (by refine blk_put (cs := #[.string ⟨#[92, 116]⟩, .string ⟨#[10]⟩, .string ⟨#[1]⟩, .string ⟨#[127]⟩, .string ⟨#[]⟩]) ?_ 4 _ rfl; refine blk_put (cs := #[.string ⟨#[92, 116]⟩, .string ⟨#[10]⟩, .string ⟨#[1]⟩, .string ⟨#[]⟩, .string ⟨#[]⟩]) ?_ 3 _ rfl; refine blk_put (cs := #[.string ⟨#[92, 116]⟩, .string ⟨#[10]⟩, .string ⟨#[]⟩, .string ⟨#[]⟩, .string ⟨#[]⟩]) ?_ 2 _ rfl; refine blk_put (cs := #[.string ⟨#[92, 116]⟩, .string ⟨#[]⟩, .string ⟨#[]⟩, .string ⟨#[]⟩, .string ⟨#[]⟩]) ?_ 1 _ rfl; refine blk_put (cs := #[.string ⟨#[]⟩, .string ⟨#[]⟩, .string ⟨#[]⟩, .string ⟨#[]⟩, .string ⟨#[]⟩]) ?_ 0 _ rfl; exact BA.out)) : gB ≠ gA)); clear HO_8; clear BA; clear HB; have HO_8 := n0_; have BA := n1_; have HB := n2_; have BB := n3_; have GN := n4_; have GD := n5_; have NA := n6_; have NC := n7_; clear n0_ n1_ n2_ n3_ n4_ n5_ n6_ n7_; clear hb hbox hg; have hnb31 := NC.out; have hnc31 := NA.out; have hcz32_0 : w30.cell? ⟨gB, 0, none⟩ = some (.int .i64 0) := (blk_cell BB.out 0).trans rfl; have hcz32_1 : w30.cell? ⟨gB, 1, none⟩ = some (.int .i64 0) := (blk_cell BB.out 1).trans rfl; have hcz32_2 : w30.cell? ⟨gB, 2, none⟩ = some (.int .i64 0) := (blk_cell BB.out 2).trans rfl; have hcz32_3 : w30.cell? ⟨gB, 3, none⟩ = some (.int .i64 0) := (blk_cell BB.out 3).trans rfl; have hcz32_4 : w30.cell? ⟨gB, 4, none⟩ = some (.int .i64 0) := (blk_cell BB.out 4).trans rfl; have hfz32_0 := blk_frozen BB.out 0; have hfz32_1 := blk_frozen BB.out 1; have hfz32_2 := blk_frozen BB.out 2; have hfz32_3 := blk_frozen BB.out 3; have hfz32_4 := blk_frozen BB.out 4))
          have n0_ : Aside0 (Kd.V (Kd.int .u8) 5 (((((w30.setCell ⟨gB, 0, none⟩ (.int .i64 13)).setCell ⟨gB, 1, none⟩ (.int .i64 12)).setCell ⟨gB, 2, none⟩ (.int .i64 11)).setCell ⟨gB, 3, none⟩ (.int .i64 11)).setCell ⟨gB, 4, none⟩ (.int .i64 10)) w.heap.size (fun k_ => k_ ≠ gA ∧ k_ ≠ gB) (.slice Ao27 x8_6.length co27) x8_6) := ⟨by (with_reducible repeat (first | apply Kd.V_alloc | apply Kd.V_drewN | apply Kd.V_drew)); exact Kd.V_mono (Kd.V_far (p := ⟨gB, 4, none⟩) (Kd.V_far (p := ⟨gB, 3, none⟩) (Kd.V_far (p := ⟨gB, 2, none⟩) (Kd.V_far (p := ⟨gB, 1, none⟩) (Kd.V_far (p := ⟨gB, 0, none⟩) (Kd.V_mono HO_8.out (fun k_ hk => (⟨hk, hk.2⟩ : _ ∧ k_ ≠ gB))) (fun _ hk => hk.2) (.int .i64 13)) (fun _ hk => hk.2) (.int .i64 12)) (fun _ hk => hk.2) (.int .i64 11)) (fun _ hk => hk.2) (.int .i64 11)) (fun _ hk => hk.2) (.int .i64 10)) (fun _ hk => ⟨hk.1.1.2, hk.1.2⟩)⟩
          have n1_ : Aside0 ((((((w30.setCell ⟨gB, 0, none⟩ (.int .i64 13)).setCell ⟨gB, 1, none⟩ (.int .i64 12)).setCell ⟨gB, 2, none⟩ (.int .i64 11)).setCell ⟨gB, 3, none⟩ (.int .i64 11)).setCell ⟨gB, 4, none⟩ (.int .i64 10)).heap[gA]? = some (.cells #[.string ⟨#[92, 116]⟩, .string ⟨#[10]⟩, .string ⟨#[1]⟩, .string ⟨#[127]⟩, .string ⟨#[255]⟩] 34 (0, 0))) := ⟨by (with_reducible repeat (first | apply blk_drewN | apply blk_drew | apply blk_alloc | refine blk_far ?_ NA.out _)); exact BA.out⟩
          have n2_ : Aside0 ((((((w30.setCell ⟨gB, 0, none⟩ (.int .i64 13)).setCell ⟨gB, 1, none⟩ (.int .i64 12)).setCell ⟨gB, 2, none⟩ (.int .i64 11)).setCell ⟨gB, 3, none⟩ (.int .i64 11)).setCell ⟨gB, 4, none⟩ (.int .i64 10)).heap[gB]? = some (.cells #[.int .i64 13, .int .i64 12, .int .i64 11, .int .i64 11, .int .i64 10] 35 (0, 0))) := ⟨by refine blk_put (cs := #[.int .i64 13, .int .i64 12, .int .i64 11, .int .i64 11, .int .i64 0]) ?_ 4 _ rfl; refine blk_put (cs := #[.int .i64 13, .int .i64 12, .int .i64 11, .int .i64 0, .int .i64 0]) ?_ 3 _ rfl; refine blk_put (cs := #[.int .i64 13, .int .i64 12, .int .i64 0, .int .i64 0, .int .i64 0]) ?_ 2 _ rfl; refine blk_put (cs := #[.int .i64 13, .int .i64 0, .int .i64 0, .int .i64 0, .int .i64 0]) ?_ 1 _ rfl; refine blk_put (cs := #[.int .i64 0, .int .i64 0, .int .i64 0, .int .i64 0, .int .i64 0]) ?_ 0 _ rfl; exact BB.out⟩
          have n3_ : Aside0 (Below w.heap.size w (((((w30.setCell ⟨gB, 0, none⟩ (.int .i64 13)).setCell ⟨gB, 1, none⟩ (.int .i64 12)).setCell ⟨gB, 2, none⟩ (.int .i64 11)).setCell ⟨gB, 3, none⟩ (.int .i64 11)).setCell ⟨gB, 4, none⟩ (.int .i64 10))) := ⟨by repeat (first | (with_reducible first | exact HB.out | apply below_alloc | apply pw_below_drewN | apply below_drew1 | refine below_set ?_ GA.out | refine below_set ?_ GD.out) | exact HB.out)⟩
          (try clear HO_8)
          (try clear BA)
          (try clear BB)
          (try clear HB)
          generalize (((((w30.setCell ⟨gB, 0, none⟩ (.int .i64 13)).setCell ⟨gB, 1, none⟩ (.int .i64 12)).setCell ⟨gB, 2, none⟩ (.int .i64 11)).setCell ⟨gB, 3, none⟩ (.int .i64 11)).setCell ⟨gB, 4, none⟩ (.int .i64 10)) = w33 at n0_ n1_ n2_ n3_ ⊢
          have HO_8 := n0_
          have BA := n1_
          have BB := n2_
          have HB := n3_
          clear n0_ n1_ n2_ n3_
          have n0_ := Aside0.mk (Kd.V_drew HO_8.out)
          have n1_ := Aside0.mk (blk_drew BA.out)
          have n2_ := Aside0.mk (blk_drew BB.out)
          have n3_ := Aside0.mk (below_drew1 HB.out)
          clear HO_8
          clear BA
          clear BB
          clear HB
          have HO_8 := n0_
          have BA := n1_
          have BB := n2_
          have HB := n3_
          clear n0_ n1_ n2_ n3_
          have q35 : ((ji17) : Int) ≤ ((x8_6.length : Int) : Int) := of_decide_eq_true (by first | (with_reducible assumption) | assumption)
          obtain ⟨i035, hi035, _, hsz35, _⟩ := info_parts info5
          have hroom35 : x8_6.length ≤ co27 := (Kd.V_reads' HO_8.out).2.1
          have hC35 : Kd.F (Kd.int .u8) _ _ Ao27 x8_6.length x8_6 := (Kd.V_at (base := w.heap.size) HO_8.out).2.2
          have hcut35 := cut_to (P := Tryd.prog) 22 5 .i64 Tryd.underlying22 hi035 Ao27 x8_6.length co27 (ji17) (of_decide_eq_true (by first | (with_reducible assumption) | assumption)) q35 hroom35
          have hr35 := Kd.F_take (m := ((ji17) : Int).toNat) hC35 (by omega)
          have hy35 : y435.length = ((ji17) : Int).toNat := (by rw [Ny435.out, List.length_take]; omega)
          rw [← Ny435.out] at hr35
          rw [← hy35] at hcut35
          have H9 := Aside0.mk (show Kd.V (Kd.int .u8) 5 _ w.heap.size _ (.slice Ao27 y435.length co27) y435 from Kd.V_mk (by omega) hr35)
          have HC439 := Aside0.mk (show y435.length ≤ co27 from by omega)
          clear hr35 hC35 hroom35 hi035 hsz35
          have KY35 := Aside0.mk hy35
          clear hy35
          replace q35 := eq_true q35
          refine start_ (n := 15) (S := fun w' => w'.cell? ⟨gA, 0, none⟩ = some (.string ⟨#[92, 116]⟩) ∧ w'.cell? ⟨gA, 1, none⟩ = some (.string ⟨#[10]⟩) ∧ w'.cell? ⟨gA, 2, none⟩ = some (.string ⟨#[1]⟩) ∧ w'.cell? ⟨gA, 3, none⟩ = some (.string ⟨#[127]⟩) ∧ w'.cell? ⟨gA, 4, none⟩ = some (.string ⟨#[255]⟩)) (ds := []) #[false, false, false, false, false, false, false, false, false, false, false, false, false, false, false] (by kernel_rfl) rfl rfl ⟨(blk_cell BA.out 0).trans rfl, (blk_cell BA.out 1).trans rfl, (blk_cell BA.out 2).trans rfl, (blk_cell BA.out 3).trans rfl, (blk_cell BA.out 4).trans rfl⟩ (fun hHeld => ?_); refine with_tabW tmesislaw04_QuoteFirst.tab10 tmesislaw04_QuoteFirst.bits10 (fun HT_ HW_ => ?_)
          generalize w33.drew = w34 at HO_8 BA BB HB H9 hHeld ⊢
          refine pure_ (i := 1) (N := some 36) (v := ?_) (a' := ?_) #[false, true, false, false, false, false, false, false, false, false, false, false, false, false, false] rfl rfl (any_of HT_.out (by kernel_rfl)) (fun _ _ _ h => h) (Or.inl ⟨by rfl, ?_⟩) ?_ ?_
          rotate_left
          ·intro w'
           go_simp
           with_reducible rfl
          rotate_left
          ·simp only [Act.put, List.setIfInBounds_toArray, List.set_cons_zero, List.set_cons_succ, i64_w, i32_w]
           rfl
          refine pure_ (i := 2) (N := some 37) (v := ?_) (a' := ?_) #[false, true, true, false, false, false, false, false, false, false, false, false, false, false, false] rfl rfl (any_of HT_.out (by kernel_rfl)) (fun _ _ _ h => h) (Or.inl ⟨by rfl, ?_⟩) ?_ ?_
          rotate_left
          ·intro w'
           go_simp
           with_reducible rfl
          rotate_left
          ·simp only [Act.put, List.setIfInBounds_toArray, List.set_cons_zero, List.set_cons_succ, i64_w, i32_w]
           rfl
          refine pure_ (i := 3) (N := some 38) (v := ?_) (a' := ?_) #[false, true, true, true, false, false, false, false, false, false, false, false, false, false, false] rfl rfl (any_of HT_.out (by kernel_rfl)) (fun _ _ _ h => h) (Or.inl ⟨by rfl, ?_⟩) ?_ ?_
          rotate_left
          ·intro w'
           go_simp
           with_reducible rfl
          rotate_left
          ·simp only [Act.put, List.setIfInBounds_toArray, List.set_cons_zero, List.set_cons_succ, i64_w, i32_w]
           rfl
          refine pure_ (i := 4) (N := some 39) (v := ?_) (a' := ?_) #[false, true, true, true, true, false, false, false, false, false, false, false, false, false, false] rfl rfl (any_of HT_.out (by kernel_rfl)) (fun _ _ _ h => h) (Or.inl ⟨by rfl, ?_⟩) ?_ ?_
          rotate_left
          ·intro w'
           go_simp
           with_reducible rfl
          rotate_left
          ·simp only [Act.put, List.setIfInBounds_toArray, List.set_cons_zero, List.set_cons_succ, i64_w, i32_w]
           rfl
          refine pure_ (i := 5) (N := some 40) (v := ?_) (a' := ?_) #[false, true, true, true, true, true, false, false, false, false, false, false, false, false, false] rfl rfl (any_of HT_.out (by kernel_rfl)) (fun _ _ _ h => h) (Or.inl ⟨by rfl, ?_⟩) ?_ ?_
          rotate_left
          ·intro w'
           go_simp
           with_reducible rfl
          rotate_left
          ·simp only [Act.put, List.setIfInBounds_toArray, List.set_cons_zero, List.set_cons_succ, i64_w, i32_w]
           rfl
          refine pure_ (i := 7) (N := some 42) (v := ?_) (a' := ?_) #[false, true, true, true, true, true, false, true, false, false, false, false, false, false, false] rfl rfl (any_of HT_.out (by kernel_rfl)) (fun _ _ _ h => h) (Or.inl ⟨by rfl, ?_⟩) ?_ ?_
          rotate_left
          ·intro w'
           go_simp
           with_reducible rfl
          rotate_left
          ·simp only [Act.put, List.setIfInBounds_toArray, List.set_cons_zero, List.set_cons_succ, i64_w, i32_w]
           rfl
          refine pure_ (i := 8) (N := some 43) (v := ?_) (a' := ?_) #[false, true, true, true, true, true, false, true, true, false, false, false, false, false, false] rfl rfl (any_of HT_.out (by kernel_rfl)) (fun _ _ _ h => h) (Or.inl ⟨by rfl, ?_⟩) ?_ ?_
          rotate_left
          ·intro w'
           go_simp
           with_reducible rfl
          rotate_left
          ·simp only [Act.put, List.setIfInBounds_toArray, List.set_cons_zero, List.set_cons_succ, i64_w, i32_w]
           rfl
          refine pure_ (i := 11) (N := some 46) (v := ?_) (a' := ?_) #[false, true, true, true, true, true, false, true, true, false, false, true, false, false, false] rfl rfl (any_of HT_.out (by kernel_rfl)) (fun _ _ _ h => h) (Or.inl ⟨by rfl, ?_⟩) ?_ ?_
          rotate_left
          ·intro w'
           go_simp
           with_reducible rfl
          rotate_left
          ·simp only [Act.put, List.setIfInBounds_toArray, List.set_cons_zero, List.set_cons_succ, i64_w, i32_w]
           rfl
          refine take_ (i := 9) (N := some 44) (v := ?_) (a' := ?_) #[false, true, true, true, true, true, false, true, true, true, false, true, false, false, false] rfl rfl (take_ofW HT_.out HW_.out (by kernel_rfl)) (fun _ _ _ h => h) (Or.inl ⟨by rfl, ?_⟩) hHeld ?_ ?_
          rotate_left
          ·rintro w' ⟨s0, s1, s2, s3, s4⟩
           go_simp
           with_reducible rfl
          rotate_left
          ·simp only [Act.put, List.setIfInBounds_toArray, List.set_cons_zero, List.set_cons_succ, i64_w, i32_w]
           rfl
          refine one_ (i := 0) (N := some 35) #[true, true, true, true, true, true, false, true, true, true, false, true, false, false, false] rfl rfl (one_of HT_.out (by kernel_rfl)) (by decide) (fun K hK => ?_)
          refine Kd.R_lit_step (Kd.int .u8) _ 5 ?hg (N := 35) ?hd (xs := ([] : List Int)) (inner := []) (ok := fun _ => True) (okp := fun _ => True) ?hr ?hp (fun _ hk => hk) trivial (Below.refl _ _) (Nat.le_refl _) (by simp) ?_; (case hd => rfl); (case hg => rfl); (case hr => first | (go_simp; done) | (go_simp; rfl)); (case hp => exact (Reps.none _ _))
          intro v433 w36 ho37 hb hg_ hnew_
          clear hg_ hnew_
          (first | rw [← Ny432.out] at ho37 | (simp only [Int.reduceToNat] at ho37; rw [← Ny432.out] at ho37))
          have n0_ := Aside0.mk (Kd.V_elder' (by (with_reducible repeat (first | apply Kd.V_alloc | apply Kd.V_drewN | apply Kd.V_drew)); exact HO_8.out) (Kd.R_base ho37) hb)
          have n1_ := Aside0.mk (Kd.V_elder' (by (with_reducible repeat (first | apply Kd.V_alloc | apply Kd.V_drewN | apply Kd.V_drew)); exact H9.out) (Kd.R_base ho37) hb)
          have n2_ := Aside0.mk (Kd.R_lower ho37 (below_size (by repeat (first | (with_reducible first | exact HB.out | apply below_alloc | apply pw_below_drewN | apply below_drew1 | refine below_set ?_ GA.out | refine below_set ?_ GD.out) | exact HB.out))))
          have n3_ := Aside0.mk (blk_below (g := gA) (o := .cells #[.string ⟨#[92, 116]⟩, .string ⟨#[10]⟩, .string ⟨#[1]⟩, .string ⟨#[127]⟩, .string ⟨#[255]⟩] 34 (0, 0)) (by exact BA.out) hb)
          have n4_ := Aside0.mk (blk_below (g := gB) (o := .cells #[.int .i64 13, .int .i64 12, .int .i64 11, .int .i64 11, .int .i64 10] 35 (0, 0)) (by exact BB.out) hb)
          have n5_ := Aside0.mk (below_step (by repeat (first | (with_reducible first | exact HB.out | apply below_alloc | apply pw_below_drewN | apply below_drew1 | refine below_set ?_ GA.out | refine below_set ?_ GD.out) | exact HB.out)) hb)
          clear HO_8
          clear H9
          clear BA
          clear BB
          clear HB
          have HO_8 := n0_
          have H9 := n1_
          have HO434 := n2_
          have BA := n3_
          have BB := n4_
          have HB := n5_
          clear n0_ n1_ n2_ n3_ n4_ n5_
          clear hb ho37
          refine hK.out _ _ ⟨(blk_cell BA.out 0).trans rfl, (blk_cell BA.out 1).trans rfl, (blk_cell BA.out 2).trans rfl, (blk_cell BA.out 3).trans rfl, (blk_cell BA.out 4).trans rfl⟩ (fun hHeld => ?_)
          clear hK K
          refine norm_ (a' := ?_) ?_ ?_
          rotate_left
          ·show Act.put _ (some 35) _ = _
           simp only [Act.put, List.setIfInBounds_toArray, List.set_cons_zero, List.set_cons_succ, i64_w, i32_w]
           rfl
          refine one_ (i := 6) (N := some 41) #[true, true, true, true, true, true, true, true, true, true, false, true, false, false, false] rfl rfl (one_of HT_.out (by kernel_rfl)) (by decide) (fun K hK => ?_)
          refine Kd.R_append_rows_step (Kd.int .u8) (w0 := w) w.heap.size (by rfl) (.tmp 35) (.tmp 40) 22 5 (.int .u8 0) 1 rfl Tryd.underlying22 info5 rfl (by decide) (by omega) v433 y432 y435 _ _ _ (fun _ => True) (fun _ => False) rfl rfl ?aO ?aR (fun _ _ h => h) (fun _ h => h.elim) ?aF ?aB ?aS ?aL ?_
          (case aR => repeat (first | exact (Kd.V_reads' H9.out).2.2 | (with_reducible refine Kd.C_alloc ?_ _) | (with_reducible refine Kd.C_drewN ?_ _) | (with_reducible refine Kd.C_drew ?_)))
          (case aB => exact (by repeat (first | (with_reducible first | exact HB.out | apply below_alloc | apply pw_below_drewN | apply below_drew1 | refine below_set ?_ GA.out | refine below_set ?_ GD.out) | exact HB.out)))
          (case aF => exact (fun _ _ => trivial))
          (case aO => exact (by (with_reducible repeat (first | apply Kd.R_alloc | apply Kd.R_drewN | apply Kd.R_drew)); exact HO434.out))
          (case aS => exact (below_size (by repeat (first | (with_reducible first | exact HB.out | apply below_alloc | apply pw_below_drewN | apply below_drew1 | refine below_set ?_ GA.out | refine below_set ?_ GD.out) | exact HB.out))))
          (case aL => have := LMc20.out; omega)
          intro v441 w38 ho hb hg hat
          rw [← Ny440.out] at ho
          have n0_ := Aside0.mk (Kd.V_afterv (ok := (fun k_ => k_ ≠ gA ∧ k_ ≠ gB)) (by (with_reducible repeat (first | apply Kd.V_alloc | apply Kd.V_drewN | apply Kd.V_drew)); exact HO_8.out) hg hat)
          have n1_ := Aside0.mk (blk_grown (g := gA) (o := .cells #[.string ⟨#[92, 116]⟩, .string ⟨#[10]⟩, .string ⟨#[1]⟩, .string ⟨#[127]⟩, .string ⟨#[255]⟩] 34 (0, 0)) (by exact BA.out) hg (Kd.R_ne HO434.out BA.out (by decide)))
          have n2_ := Aside0.mk (blk_grown (g := gB) (o := .cells #[.int .i64 13, .int .i64 12, .int .i64 11, .int .i64 11, .int .i64 10] 35 (0, 0)) (by exact BB.out) hg (Kd.R_ne HO434.out BB.out (by decide)))
          have n3_ := Aside0.mk (Kd.V_afterv (ok := (fun k_ => k_ ≠ gA ∧ k_ ≠ gB)) (by (with_reducible repeat (first | apply Kd.V_alloc | apply Kd.V_drewN | apply Kd.V_drew)); exact H9.out) hg hat)
          have n4_ := Aside0.mk (hb)
          have n5_ := Aside0.mk (ho)
          clear HO_8
          clear BA
          clear BB
          clear H9
          clear HB
          clear HO434
          have HO_8 := n0_
          have BA := n1_
          have BB := n2_
          have H9 := n3_
          have HB := n4_
          have HO442 := n5_
          clear n0_ n1_ n2_ n3_ n4_ n5_
          clear ho hb hg hat
          refine hK.out _ _ ⟨(blk_cell BA.out 0).trans rfl, (blk_cell BA.out 1).trans rfl, (blk_cell BA.out 2).trans rfl, (blk_cell BA.out 3).trans rfl, (blk_cell BA.out 4).trans rfl⟩ (fun hHeld => ?_)
          clear hK K
          refine norm_ (a' := ?_) ?_ ?_
          rotate_left
          ·show Act.put _ (some 41) _ = _
           simp only [Act.put, List.setIfInBounds_toArray, List.set_cons_zero, List.set_cons_succ, i64_w, i32_w]
           rfl
          refine one_ (i := 10) (N := some 45) #[true, true, true, true, true, true, true, true, true, true, true, true, false, false, false] rfl rfl (one_of HT_.out (by kernel_rfl)) (by decide) (fun K hK => ?_)
          refine R_append_str_step (w0 := w) w.heap.size (by rfl) (.tmp 41) _ 22 9 5 rfl Tryd.underlying22 Tryd.underlying9 info5 v441 y440 (⟨#[92, 116]⟩ : ByteArray) (fun _ => True) rfl rfl ?aO ?aF ?aB ?aS ?aL ?_
          (case aB => exact (by repeat (first | (with_reducible first | exact HB.out | apply below_alloc | apply pw_below_drewN | apply below_drew1 | refine below_set ?_ GA.out | refine below_set ?_ GD.out) | exact HB.out)))
          (case aF => exact (fun _ _ => trivial))
          (case aO => exact (by (with_reducible repeat (first | apply Kd.R_alloc | apply Kd.R_drewN | apply Kd.R_drew)); exact HO442.out))
          (case aS => exact (below_size (by repeat (first | (with_reducible first | exact HB.out | apply below_alloc | apply pw_below_drewN | apply below_drew1 | refine below_set ?_ GA.out | refine below_set ?_ GD.out) | exact HB.out))))
          (case aL => have := LMc22.out; have zs_ : (⟨#[92, 116]⟩ : ByteArray).size = 2 := rfl; omega)
          intro v444 w39 ho hb hg hat
          rw [← Ny443.out] at ho
          have n0_ := Aside0.mk (Kd.V_afterv (ok := (fun k_ => k_ ≠ gA ∧ k_ ≠ gB)) (by (with_reducible repeat (first | apply Kd.V_alloc | apply Kd.V_drewN | apply Kd.V_drew)); exact HO_8.out) hg hat)
          have n1_ := Aside0.mk (blk_grown (g := gA) (o := .cells #[.string ⟨#[92, 116]⟩, .string ⟨#[10]⟩, .string ⟨#[1]⟩, .string ⟨#[127]⟩, .string ⟨#[255]⟩] 34 (0, 0)) (by exact BA.out) hg (Kd.R_ne HO442.out BA.out (by decide)))
          have n2_ := Aside0.mk (blk_grown (g := gB) (o := .cells #[.int .i64 13, .int .i64 12, .int .i64 11, .int .i64 11, .int .i64 10] 35 (0, 0)) (by exact BB.out) hg (Kd.R_ne HO442.out BB.out (by decide)))
          have n3_ := Aside0.mk (Kd.V_afterv (ok := (fun k_ => k_ ≠ gA ∧ k_ ≠ gB)) (by (with_reducible repeat (first | apply Kd.V_alloc | apply Kd.V_drewN | apply Kd.V_drew)); exact H9.out) hg hat)
          have n4_ := Aside0.mk (hb)
          have n5_ := Aside0.mk (ho)
          clear HO_8
          clear BA
          clear BB
          clear H9
          clear HB
          clear HO442
          have HO_8 := n0_
          have BA := n1_
          have BB := n2_
          have H9 := n3_
          have HB := n4_
          have HO445 := n5_
          clear n0_ n1_ n2_ n3_ n4_ n5_
          clear ho hb hg hat
          refine hK.out _ _ ⟨(blk_cell BA.out 0).trans rfl, (blk_cell BA.out 1).trans rfl, (blk_cell BA.out 2).trans rfl, (blk_cell BA.out 3).trans rfl, (blk_cell BA.out 4).trans rfl⟩ (fun hHeld => ?_)
          clear hK K
          refine norm_ (a' := ?_) ?_ ?_
          rotate_left
          ·show Act.put _ (some 45) _ = _
           simp only [Act.put, List.setIfInBounds_toArray, List.set_cons_zero, List.set_cons_succ, i64_w, i32_w]
           rfl
          refine one_ (i := 12) (N := some 47) #[true, true, true, true, true, true, true, true, true, true, true, true, true, false, false] rfl rfl (one_of HT_.out (by kernel_rfl)) (by decide) (fun K hK => ?_)
          refine goes_ Tryd.func10 (by kernel_rfl) rfl #[.slice A2 l2.length c2] (by rfl) rfl rfl (by (try simp only [List.map_toArray, List.map_cons, List.map_nil]); first | done | rfl | (simp only [List.length_drop, List.length_take]; rfl)) ?_
          with_reducible refine (tmesislaw04_few.calls (fun k_ => k_ < w.heap.size) _ _ l2 t446 _ ?side1 A23.out).mono ?_
          (case side1 => exact Kd.V_mk HC2.out (Kd.F_below (Kd.C_F (Kd.heap_int .u8) HR2.out) (by repeat (first | (with_reducible first | exact HB.out | apply below_alloc | apply pw_below_drewN | apply below_drew1 | refine below_set ?_ GA.out | refine below_set ?_ GD.out) | exact HB.out))))
          rintro e w40 ⟨v447, rfl, ho0, hb⟩
          refine ⟨_, rfl, ?_⟩
          have n0_ := Aside0.mk (Kd.V_below (by (with_reducible repeat (first | apply Kd.V_alloc | apply Kd.V_drewN | apply Kd.V_drew)); exact HO_8.out) hb)
          have n1_ := Aside0.mk (Kd.V_below (by (with_reducible repeat (first | apply Kd.V_alloc | apply Kd.V_drewN | apply Kd.V_drew)); exact H9.out) hb)
          have n2_ := Aside0.mk (Kd.R_below (by (with_reducible repeat (first | apply Kd.R_alloc | apply Kd.R_drewN | apply Kd.R_drew)); exact HO445.out) hb)
          have n3_ := Aside0.mk (Kd.V_lower (Kd.V_mono (ok' := fun k_ => some k_ ≠ (v444 : Value).ownBlock ∧ k_ ≠ gA ∧ k_ ≠ gB) ho0 (fun k_ hk_ => ⟨Or.elim hk_ (fun hs_ => fun e_ => Nat.not_le.2 hs_ (Kd.R_base HO445.out k_ e_.symm)) (fun hn_ => (Kd.fresh' (Kd.R_lt (by (with_reducible repeat (first | apply Kd.R_alloc | apply Kd.R_drewN | apply Kd.R_drew)); exact HO445.out)) k_ hn_)), Or.elim hk_ (fun hs_ => fun e_ => Nat.not_le.2 hs_ (by rw [e_]; exact GM.out)) (fun hn_ => (Kd.freshB (g := gA) (o := .cells #[.string ⟨#[92, 116]⟩, .string ⟨#[10]⟩, .string ⟨#[1]⟩, .string ⟨#[127]⟩, .string ⟨#[255]⟩] 34 (0, 0)) (by exact BA.out) k_ hn_)), Or.elim hk_ (fun hs_ => fun e_ => Nat.not_le.2 hs_ (by rw [e_]; exact GN.out)) (fun hn_ => (Kd.freshB (g := gB) (o := .cells #[.int .i64 13, .int .i64 12, .int .i64 11, .int .i64 11, .int .i64 10] 35 (0, 0)) (by exact BB.out) k_ hn_))⟩)) (below_size (by repeat (first | (with_reducible first | exact HB.out | apply below_alloc | apply pw_below_drewN | apply below_drew1 | refine below_set ?_ GA.out | refine below_set ?_ GD.out) | exact HB.out))))
          have n4_ := Aside0.mk (blk_below (g := gA) (o := .cells #[.string ⟨#[92, 116]⟩, .string ⟨#[10]⟩, .string ⟨#[1]⟩, .string ⟨#[127]⟩, .string ⟨#[255]⟩] 34 (0, 0)) (by exact BA.out) hb)
          have n5_ := Aside0.mk (blk_below (g := gB) (o := .cells #[.int .i64 13, .int .i64 12, .int .i64 11, .int .i64 11, .int .i64 10] 35 (0, 0)) (by exact BB.out) hb)
          have n6_ := Aside0.mk (below_step (by repeat (first | (with_reducible first | exact HB.out | apply below_alloc | apply pw_below_drewN | apply below_drew1 | refine below_set ?_ GA.out | refine below_set ?_ GD.out) | exact HB.out)) hb)
          clear HO_8
          clear H9
          clear HO445
          clear BA
          clear BB
          clear HB
          have HO_8 := n0_
          have H9 := n1_
          have HO445 := n2_
          have HO448 := n3_
          have BA := n4_
          have BB := n5_
          have HB := n6_
          clear n0_ n1_ n2_ n3_ n4_ n5_ n6_
          (try clear hb)
          (try clear hb2)
          (try clear hk)
          (try clear hi)
          (try clear ho0)
          obtain ⟨Ao42, co42, eo42⟩ := Kd.V_slice HO448.out
          (first | subst eo42 | (injection eo42 with f1_ f2_ f3_; have f4_ := f1_.symm; have f5_ := f3_.symm; clear f1_ f2_ f3_; subst f4_; subst f5_))
          refine hK.out _ _ ⟨(blk_cell BA.out 0).trans rfl, (blk_cell BA.out 1).trans rfl, (blk_cell BA.out 2).trans rfl, (blk_cell BA.out 3).trans rfl, (blk_cell BA.out 4).trans rfl⟩ (fun hHeld => ?_)
          clear hK K
          refine norm_ (a' := ?_) ?_ ?_
          rotate_left
          ·show Act.put _ (some 47) _ = _
           simp only [Act.put, List.setIfInBounds_toArray, List.set_cons_zero, List.set_cons_succ, i64_w, i32_w]
           rfl
          refine one_ (i := 13) (N := some 48) #[true, true, true, true, true, true, true, true, true, true, true, true, true, true, false] rfl rfl (one_of HT_.out (by kernel_rfl)) (by decide) (fun K hK => ?_)
          refine Kd.R_append_rows_step (Kd.int .u8) (w0 := w) w.heap.size (by rfl) (.tmp 45) (.tmp 47) 22 5 (.int .u8 0) 1 rfl Tryd.underlying22 info5 rfl (by decide) (by omega) v444 y443 t446 _ _ _ (fun _ => True) (fun _ => False) rfl rfl ?aO ?aR (fun _ _ h => h) (fun _ h => h.elim) ?aF ?aB ?aS ?aL ?_
          (case aR => repeat (first | exact (Kd.V_reads' HO448.out).2.2 | (with_reducible refine Kd.C_alloc ?_ _) | (with_reducible refine Kd.C_drewN ?_ _) | (with_reducible refine Kd.C_drew ?_)))
          (case aB => exact (by repeat (first | (with_reducible first | exact HB.out | apply below_alloc | apply pw_below_drewN | apply below_drew1 | refine below_set ?_ GA.out | refine below_set ?_ GD.out) | exact HB.out)))
          (case aF => exact (fun _ _ => trivial))
          (case aO => exact (by (with_reducible repeat (first | apply Kd.R_alloc | apply Kd.R_drewN | apply Kd.R_drew)); exact HO445.out))
          (case aS => exact (below_size (by repeat (first | (with_reducible first | exact HB.out | apply below_alloc | apply pw_below_drewN | apply below_drew1 | refine below_set ?_ GA.out | refine below_set ?_ GD.out) | exact HB.out))))
          (case aL => have := LMc24.out; omega)
          intro v450 w41 ho hb hg hat
          rw [← Ny449.out] at ho
          have n0_ := Aside0.mk (Kd.V_afterv (ok := (fun k_ => k_ ≠ gA ∧ k_ ≠ gB)) (by (with_reducible repeat (first | apply Kd.V_alloc | apply Kd.V_drewN | apply Kd.V_drew)); exact HO_8.out) hg hat)
          have n1_ := Aside0.mk (blk_grown (g := gA) (o := .cells #[.string ⟨#[92, 116]⟩, .string ⟨#[10]⟩, .string ⟨#[1]⟩, .string ⟨#[127]⟩, .string ⟨#[255]⟩] 34 (0, 0)) (by exact BA.out) hg (Kd.R_ne HO445.out BA.out (by decide)))
          have n2_ := Aside0.mk (blk_grown (g := gB) (o := .cells #[.int .i64 13, .int .i64 12, .int .i64 11, .int .i64 11, .int .i64 10] 35 (0, 0)) (by exact BB.out) hg (Kd.R_ne HO445.out BB.out (by decide)))
          have n3_ := Aside0.mk (Kd.V_afterv (ok := (fun k_ => k_ ≠ gA ∧ k_ ≠ gB)) (by (with_reducible repeat (first | apply Kd.V_alloc | apply Kd.V_drewN | apply Kd.V_drew)); exact H9.out) hg hat)
          have n4_ := Aside0.mk (Kd.V_afterv (ok := (fun k_ => k_ ≠ gA ∧ k_ ≠ gB)) (by (with_reducible repeat (first | apply Kd.V_alloc | apply Kd.V_drewN | apply Kd.V_drew)); exact Kd.V_mono HO448.out (fun _ hk => ⟨⟨hk.2.1, hk.2.2⟩, hk.1⟩)) hg hat)
          have n5_ := Aside0.mk (hb)
          have n6_ := Aside0.mk (ho)
          clear HO_8
          clear BA
          clear BB
          clear H9
          clear HO448
          clear HB
          clear HO445
          have HO_8 := n0_
          have BA := n1_
          have BB := n2_
          have H9 := n3_
          have HO448 := n4_
          have HB := n5_
          have HO451 := n6_
          clear n0_ n1_ n2_ n3_ n4_ n5_ n6_
          clear ho hb hg hat
          refine hK.out _ _ ⟨(blk_cell BA.out 0).trans rfl, (blk_cell BA.out 1).trans rfl, (blk_cell BA.out 2).trans rfl, (blk_cell BA.out 3).trans rfl, (blk_cell BA.out 4).trans rfl⟩ (fun hHeld => ?_)
          clear hK K
          refine norm_ (a' := ?_) ?_ ?_
          rotate_left
          ·show Act.put _ (some 48) _ = _
           simp only [Act.put, List.setIfInBounds_toArray, List.set_cons_zero, List.set_cons_succ, i64_w, i32_w]
           rfl
          refine pure_ (i := 14) (N := some 13) (v := ?_) (a' := ?_) #[true, true, true, true, true, true, true, true, true, true, true, true, true, true, true] rfl rfl (any_of HT_.out (by kernel_rfl)) (fun _ _ _ h => h) (Or.inl ⟨by rfl, ?_⟩) ?_ ?_
          rotate_left
          ·intro w'
           go_simp
           with_reducible rfl
          rotate_left
          ·simp only [Act.put, List.setIfInBounds_toArray, List.set_cons_zero, List.set_cons_succ, i64_w, i32_w]
           rfl
          refine done_ (done_of HT_.out (by kernel_rfl)) ?_
          obtain ⟨Ao43, co43, eo43⟩ := Kd.R_slice HO451.out
          subst eo43
          go_upto_region 12 with (first | ((with_reducible refine gate_callee (f := 9) rfl ?_); refine goesL_ (some 51) rfl rfl Tryd.func9 (by kernel_rfl) rfl #[.slice Ao43 y449.length co43] rfl (by (try simp only [List.map_toArray, List.map_cons, List.map_nil]); first | done | rfl | (simp only [List.length_drop, List.length_take]; rfl)) ?_; (with_reducible refine (quote_Take.calls kj6 _ _ y449 t452 t453 t454 _ ?side1 ?side2 A25.out).mono ?_); (case side1 => repeat (first | exact (Kd.R_reads' HO451.out).2.2 | (with_reducible refine Kd.C_alloc ?_ _) | (with_reducible refine Kd.C_drewN ?_ _) | (with_reducible refine Kd.C_drew ?_))); (case side2 => exact (Kd.R_reads' HO451.out).2.1); rintro e w44 ⟨v455, rfl, ho0, hb⟩; refine ⟨_, rfl, ?_⟩; have n0_ := Aside0.mk (Kd.V_elder' (by (with_reducible repeat (first | apply Kd.V_alloc | apply Kd.V_drewN | apply Kd.V_drew)); exact HO_8.out) (Kd.R_base ho0) hb); have n1_ := Aside0.mk (Kd.V_elder' (by (with_reducible repeat (first | apply Kd.V_alloc | apply Kd.V_drewN | apply Kd.V_drew)); exact H9.out) (Kd.R_base ho0) hb); have n2_ := Aside0.mk (Kd.V_elder' (by (with_reducible repeat (first | apply Kd.V_alloc | apply Kd.V_drewN | apply Kd.V_drew)); exact HO448.out) (Kd.R_base ho0) hb); have n3_ := Aside0.mk (Kd.R_elder' (by (with_reducible repeat (first | apply Kd.R_alloc | apply Kd.R_drewN | apply Kd.R_drew)); exact HO451.out) (Kd.R_base ho0) hb); have n4_ := Aside0.mk (Kd.R_lower (Kd.R_new' ho0 (Kd.R_lt (by (with_reducible repeat (first | apply Kd.R_alloc | apply Kd.R_drewN | apply Kd.R_drew)); exact HO451.out))) (below_size (by repeat (first | (with_reducible first | exact HB.out | apply below_alloc | apply pw_below_drewN | apply below_drew1 | refine below_set ?_ GA.out | refine below_set ?_ GD.out) | exact HB.out)))); have n5_ := Aside0.mk (blk_below (g := gA) (o := .cells #[.string ⟨#[92, 116]⟩, .string ⟨#[10]⟩, .string ⟨#[1]⟩, .string ⟨#[127]⟩, .string ⟨#[255]⟩] 34 (0, 0)) (by exact BA.out) hb); have n6_ := Aside0.mk (blk_below (g := gB) (o := .cells #[.int .i64 13, .int .i64 12, .int .i64 11, .int .i64 11, .int .i64 10] 35 (0, 0)) (by exact BB.out) hb); have n7_ := Aside0.mk (below_step (by repeat (first | (with_reducible first | exact HB.out | apply below_alloc | apply pw_below_drewN | apply below_drew1 | refine below_set ?_ GA.out | refine below_set ?_ GD.out) | exact HB.out)) hb); clear HO_8; clear H9; clear HO448; clear HO451; clear BA; clear BB; clear HB; have HO_8 := n0_; have H9 := n1_; have HO448 := n2_; have HO451 := n3_; have HO456 := n4_; have BA := n5_; have BB := n6_; have HB := n7_; clear n0_ n1_ n2_ n3_ n4_ n5_ n6_ n7_; (try clear hb); (try clear hb2); (try clear hk); (try clear hi); (try clear ho0)))
          (try simp only [Act.put, List.setIfInBounds_toArray, List.set_cons_zero, List.set_cons_succ])
          go_cut [6] (fun v6 wc => ∃ (kq : Nat) (x6_25 : Bool), v6 = .bool x6_25 ∧ Aside0 (tmesislaw04_QuoteFirst.j1 kq x6_25 = some r) ∧ Aside0 (kq ≤ kj6) ∧ Aside0 (wc.heap[gA]? = some (.cells #[.string ⟨#[92, 116]⟩, .string ⟨#[10]⟩, .string ⟨#[1]⟩, .string ⟨#[127]⟩, .string ⟨#[255]⟩] 34 (0, 0))) ∧ Aside0 (wc.heap[gB]? = some (.cells #[.int .i64 13, .int .i64 12, .int .i64 11, .int .i64 11, .int .i64 10] 35 (0, 0))) ∧ Aside0 (Below w.heap.size w wc))
          case first =>
           have H := HC26.out
           clear HC26
           by_cases c45 : t419 = true
           ·subst c45
            have H1 : (if (t452.length : Int) = 0 then (if t453 = (ji17) then (tmesislaw04_QuoteFirst.j1 kj6 (t454 == 13)) else (tmesislaw04_QuoteFirst.j1 kj6 false)) else (tmesislaw04_QuoteFirst.j1 kj6 false)) = some r := by rw [if_pos rfl] at H; exact H
            clear H
            have H := H1
            clear H1
            by_cases c46 : (t452.length : Int) = 0
            ·rw [if_pos c46] at H
             have c46b0 : ((t452.length : Int) == 0) = true := beq_iff_eq.mpr c46
             have c46b1 : ((t452.length : Int) != 0) = false := bne_eq_false_iff_eq.mpr c46
             clear c46
             (first | rw [c46b0] | (simp only [i64_w, i32_w]; rw [c46b0]) | skip)
             by_cases c47 : t453 = (ji17)
             ·rw [if_pos c47] at H
              have c47b0 : (t453 == (ji17)) = true := beq_iff_eq.mpr c47
              have c47b1 : (t453 != (ji17)) = false := bne_eq_false_iff_eq.mpr c47
              clear c47
              have H' := Aside0.mk H
              clear H
              obtain ⟨Ao48, co48, eo48⟩ := Kd.R_slice HO456.out
              subst eo48
              have hnb49 := NC.out
              have hnc49 := NA.out
              have hcz50_0 : w44.cell? ⟨gB, 0, none⟩ = some (.int .i64 13) := (blk_cell BB.out 0).trans rfl
              have hcz50_1 : w44.cell? ⟨gB, 1, none⟩ = some (.int .i64 12) := (blk_cell BB.out 1).trans rfl
              have hcz50_2 : w44.cell? ⟨gB, 2, none⟩ = some (.int .i64 11) := (blk_cell BB.out 2).trans rfl
              have hcz50_3 : w44.cell? ⟨gB, 3, none⟩ = some (.int .i64 11) := (blk_cell BB.out 3).trans rfl
              have hcz50_4 : w44.cell? ⟨gB, 4, none⟩ = some (.int .i64 10) := (blk_cell BB.out 4).trans rfl
              have hfz50_0 := blk_frozen BB.out 0
              have hfz50_1 := blk_frozen BB.out 1
              have hfz50_2 := blk_frozen BB.out 2
              have hfz50_3 := blk_frozen BB.out 3
              have hfz50_4 := blk_frozen BB.out 4
              go_wp2
              go_meet
              case rel => exact ⟨_, ((t454 == 13)), (by first | rfl | (simp; done) | (simp [*]; done)), H', ⟨by have := HJ6.out; first | omega | exact Nat.le_refl _⟩, ⟨by exact BA.out⟩, ⟨by exact BB.out⟩, ⟨by repeat (first | (with_reducible first | exact HB.out | apply below_alloc | apply pw_below_drewN | apply below_drew1 | refine below_set ?_ GA.out | refine below_set ?_ GD.out) | exact HB.out)⟩⟩
             ·rw [if_neg c47] at H
              have c47b0 : (t453 == (ji17)) = false := beq_eq_false_iff_ne.mpr c47
              have c47b1 : (t453 != (ji17)) = true := bne_iff_ne.mpr c47
              have H' := Aside0.mk H
              clear H
              obtain ⟨Ao51, co51, eo51⟩ := Kd.R_slice HO456.out
              subst eo51
              go_wp2
              go_meet
              case rel => exact ⟨_, (false), (by first | rfl | (simp; done) | (simp [*]; done)), H', ⟨by have := HJ6.out; first | omega | exact Nat.le_refl _⟩, ⟨by exact BA.out⟩, ⟨by exact BB.out⟩, ⟨by repeat (first | (with_reducible first | exact HB.out | apply below_alloc | apply pw_below_drewN | apply below_drew1 | refine below_set ?_ GA.out | refine below_set ?_ GD.out) | exact HB.out)⟩⟩
            ·rw [if_neg c46] at H
             have c46b0 : ((t452.length : Int) == 0) = false := beq_eq_false_iff_ne.mpr c46
             have c46b1 : ((t452.length : Int) != 0) = true := bne_iff_ne.mpr c46
             have c46b2 : ¬ (t452 = []) := fun h_ => c46 (by rw [h_]; rfl)
             (first | rw [c46b0] | (simp only [i64_w, i32_w]; rw [c46b0]) | skip)
             have H' := Aside0.mk H
             clear H
             obtain ⟨Ao52, co52, eo52⟩ := Kd.R_slice HO456.out
             subst eo52
             go_wp2
             go_meet
             case rel => exact ⟨_, (false), (by first | rfl | (simp; done) | (simp [*]; done)), H', ⟨by have := HJ6.out; first | omega | exact Nat.le_refl _⟩, ⟨by exact BA.out⟩, ⟨by exact BB.out⟩, ⟨by repeat (first | (with_reducible first | exact HB.out | apply below_alloc | apply pw_below_drewN | apply below_drew1 | refine below_set ?_ GA.out | refine below_set ?_ GD.out) | exact HB.out)⟩⟩
           ·replace c45 := Bool.eq_false_iff.mpr c45
            subst c45
            have H1 : (tmesislaw04_QuoteFirst.j1 kj6 false) = some r := by rw [if_neg (show ¬ (false = true) by decide)] at H; exact H
            clear H
            have H := H1
            clear H1
            have H' := Aside0.mk H
            clear H
            go_wp2
            go_meet
            case rel => exact ⟨_, (false), (by first | rfl | (simp; done) | (simp [*]; done)), H', ⟨by have := HJ6.out; first | omega | exact Nat.le_refl _⟩, ⟨by exact BA.out⟩, ⟨by exact BB.out⟩, ⟨by repeat (first | (with_reducible first | exact HB.out | apply below_alloc | apply pw_below_drewN | apply below_drew1 | refine below_set ?_ GA.out | refine below_set ?_ GD.out) | exact HB.out)⟩⟩
          case rest =>
           clear HC26
           (try clear c1); (try clear c2); (try clear p2); (try clear c3); (try clear q3); (try clear c4); (try clear c6); (try clear p6); (try clear c8); (try clear c9); (try clear c10); (try clear c12); (try clear c12b0); (try clear c12b1); (try clear c15); (try clear c15b0); (try clear c15b1); (try clear c18); (try clear c18b0); (try clear c18b1); (try clear c19); (try clear c19b0); (try clear c19b1); (try clear c20); (try clear c21); (try clear c21b0); (try clear c21b1); (try clear c22); (try clear c24); (try clear c31); (try clear q35); (try clear c45); (try clear c46); (try clear c46b0); (try clear c46b1); (try clear c46b2); (try clear c47); (try clear c47b0); (try clear c47b1); (try clear c49); (try clear p2); (try clear q35)
           obtain ⟨kq, x6_25, rfl, HA, HJ25, BA, BB, HB⟩ := hcut
           cases kq with
           | zero => exact absurd HA.out (by simp [tmesislaw04_QuoteFirst.j1])
           | succ kj25 =>
            have H := HA.out
            clear HA
            simp only [tmesislaw04_QuoteFirst.j1] at H
            obtain rfl := Option.some.inj H
            go_wp2
            go_ret
            exact ⟨by first | rfl | (simp [errW_none, errW_some] <;> rfl) | (simp only [← hji17]; first | rfl | (simp [errW_none, errW_some] <;> rfl)) | (simp [*, errW_none, errW_some] <;> rfl), by repeat (first | (with_reducible first | exact HB.out | apply below_alloc | apply pw_below_drewN | apply below_drew1 | refine below_set ?_ GA.out | refine below_set ?_ GD.out) | exact HB.out)⟩
         ·rw [if_neg c24] at H
          exact absurd H (by simp)
        ·rw [if_neg c22] at H
         exact absurd H (by simp)
       ·rw [if_neg c21] at H
        have c21b0 : ((Int.tmod a1 5) == 0) = false := beq_eq_false_iff_ne.mpr c21
        have c21b1 : ((Int.tmod a1 5) != 0) = true := bne_iff_ne.mpr c21
        by_cases c53 : (Int.tmod a1 5) = 1
        ·rw [if_pos c53] at H
         have c53b0 : ((Int.tmod a1 5) == 1) = true := beq_iff_eq.mpr c53
         have c53b1 : ((Int.tmod a1 5) != 1) = false := bne_eq_false_iff_eq.mpr c53
         have hixc53 : (Int.tmod a1 5) = 1 := c53
         clear c53
         by_cases c54 : y440.length + 1 < 140737488355328
         ·rw [if_pos c54] at H
          have LMc54 := Aside0.mk c54
          clear c54
          obtain ⟨y457, hy457⟩ : ∃ y_ : List Int, y_ = (y440 ++ bytesOf (⟨#[10]⟩ : ByteArray)) := ⟨_, rfl⟩
          replace H : ((tmesislaw04_few.f l2).bind fun t460 => (if y457.length + t460.length < 140737488355328 then ((quote_Take.f kj6 (y457 ++ t460)).bind fun bt466 => (if t419 = true then (if (bt466.1.length : Int) = 0 then (if bt466.2.1 = (ji17) then (tmesislaw04_QuoteFirst.j2 kj6 (bt466.2.2 == 12)) else (tmesislaw04_QuoteFirst.j2 kj6 false)) else (tmesislaw04_QuoteFirst.j2 kj6 false)) else (tmesislaw04_QuoteFirst.j2 kj6 false))) else (none))) = some r := by first | (rw [hy457]; with_reducible exact H) | (have H2_ := (Option.bind_some _ _).symm.trans H; rw [hy457]; with_reducible exact H2_) | (have H2_ := (Option.bind_some _ _).symm.trans H; with_reducible exact H2_) | with_reducible exact H | (rw [hy457]; exact H) | exact H
          have Ny457 := Aside0.mk hy457
          clear hy457
          replace H := Option.bind_eq_some_iff.mp H
          obtain ⟨t460, A550, H⟩ := H
          replace H : (if y457.length + t460.length < 140737488355328 then ((quote_Take.f kj6 (y457 ++ t460)).bind fun bt466 => (if t419 = true then (if (bt466.1.length : Int) = 0 then (if bt466.2.1 = (ji17) then (tmesislaw04_QuoteFirst.j2 kj6 (bt466.2.2 == 12)) else (tmesislaw04_QuoteFirst.j2 kj6 false)) else (tmesislaw04_QuoteFirst.j2 kj6 false)) else (tmesislaw04_QuoteFirst.j2 kj6 false))) else (none)) = some r := H
          have A55 := Aside0.mk A550
          clear A550
          by_cases c56 : y457.length + t460.length < 140737488355328
          ·rw [if_pos c56] at H
           have LMc56 := Aside0.mk c56
           clear c56
           obtain ⟨y463, hy463⟩ : ∃ y_ : List Int, y_ = (y457 ++ t460) := ⟨_, rfl⟩
           replace H : ((quote_Take.f kj6 y463).bind fun bt466 => (if t419 = true then (if (bt466.1.length : Int) = 0 then (if bt466.2.1 = (ji17) then (tmesislaw04_QuoteFirst.j2 kj6 (bt466.2.2 == 12)) else (tmesislaw04_QuoteFirst.j2 kj6 false)) else (tmesislaw04_QuoteFirst.j2 kj6 false)) else (tmesislaw04_QuoteFirst.j2 kj6 false))) = some r := by first | (rw [hy463]; with_reducible exact H) | (have H2_ := (Option.bind_some _ _).symm.trans H; rw [hy463]; with_reducible exact H2_) | (have H2_ := (Option.bind_some _ _).symm.trans H; with_reducible exact H2_) | with_reducible exact H | (rw [hy463]; exact H) | exact H
           have Ny463 := Aside0.mk hy463
           clear hy463
           replace H := Option.bind_eq_some_iff.mp H
           obtain ⟨⟨t466, t467, t468⟩, A570, H⟩ := H
           replace H : (if t419 = true then (if (t466.length : Int) = 0 then (if t467 = (ji17) then (tmesislaw04_QuoteFirst.j2 kj6 (t468 == 12)) else (tmesislaw04_QuoteFirst.j2 kj6 false)) else (tmesislaw04_QuoteFirst.j2 kj6 false)) else (tmesislaw04_QuoteFirst.j2 kj6 false)) = some r := H
           have A57 := Aside0.mk A570
           clear A570
           have HC58 := Aside0.mk H
           clear H
           obtain ⟨Ao59, co59, eo59⟩ := Kd.V_slice HO_8.out
           subst eo59
           try go_wp2_with (first | ((with_reducible refine gate_dst (N := 10) rfl ?_); (try (refine gate_guard (by rfl) ?_; dsimp only)); refine box_event ?hg (N := 10) ?hd (cs := #[.string ⟨#[]⟩, .string ⟨#[]⟩, .string ⟨#[]⟩, .string ⟨#[]⟩, .string ⟨#[]⟩]) (t := 34) ?hr ?_; (case hd => rfl); (case hg => rfl); (case hr => first | (go_simp; done) | (go_simp; rfl)); intro gA hg w60 hbox hb; have n0_ := Aside0.mk (Kd.V_below (Kd.V_elderB (by (with_reducible repeat (first | apply Kd.V_alloc | apply Kd.V_drewN | apply Kd.V_drew)); exact HO_8.out) gA (Nat.le_of_eq hg.symm)) hb); have n1_ := Aside0.mk (below_step (by repeat (first | (with_reducible first | exact HB.out | apply below_alloc | apply pw_below_drewN | apply below_drew1) | exact HB.out)) hb); have n2_ := Aside0.mk (hbox); have n3_ := Aside0.mk ((by rw [hg]; exact (below_size (by repeat (first | (with_reducible first | exact HB.out | apply below_alloc | apply pw_below_drewN | apply below_drew1) | exact HB.out))) : w.heap.size ≤ gA)); have n4_ := Aside0.mk ((by rw [hg]; exact (below_size (by repeat (first | (with_reducible first | exact HB.out | apply below_alloc | apply pw_below_drewN | apply below_drew1) | exact HB.out))) : w.heap.size ≤ gA)); clear HO_8; clear HB; have HO_8 := n0_; have HB := n1_; have BA := n2_; have GM := n3_; have GA := n4_; clear n0_ n1_ n2_ n3_ n4_; clear hb hbox hg; have hcz61_0 : w60.cell? ⟨gA, 0, none⟩ = some (.string ⟨#[]⟩) := (blk_cell BA.out 0).trans rfl; have hcz61_1 : w60.cell? ⟨gA, 1, none⟩ = some (.string ⟨#[]⟩) := (blk_cell BA.out 1).trans rfl; have hcz61_2 : w60.cell? ⟨gA, 2, none⟩ = some (.string ⟨#[]⟩) := (blk_cell BA.out 2).trans rfl; have hcz61_3 : w60.cell? ⟨gA, 3, none⟩ = some (.string ⟨#[]⟩) := (blk_cell BA.out 3).trans rfl; have hcz61_4 : w60.cell? ⟨gA, 4, none⟩ = some (.string ⟨#[]⟩) := (blk_cell BA.out 4).trans rfl; have hfz61_0 := blk_frozen BA.out 0; have hfz61_1 := blk_frozen BA.out 1; have hfz61_2 := blk_frozen BA.out 2; have hfz61_3 := blk_frozen BA.out 3; have hfz61_4 := blk_frozen BA.out 4) | ((with_reducible refine gate_dst (N := 11) rfl ?_); (try (refine gate_guard (by rfl) ?_; dsimp only)); refine box_event ?hg (N := 11) ?hd (cs := #[.int .i64 0, .int .i64 0, .int .i64 0, .int .i64 0, .int .i64 0]) (t := 35) ?hr ?_; (case hd => rfl); (case hg => rfl); (case hr => first | (go_simp; done) | (go_simp; rfl)); intro gB hg w62 hbox hb; have n0_ := Aside0.mk (Kd.V_below (Kd.V_elderB (by (with_reducible repeat (first | apply Kd.V_alloc | apply Kd.V_drewN | apply Kd.V_drew)); exact (Kd.V_mono (Kd.V_far (p := ⟨gA, 4, none⟩) (Kd.V_far (p := ⟨gA, 3, none⟩) (Kd.V_far (p := ⟨gA, 2, none⟩) (Kd.V_far (p := ⟨gA, 1, none⟩) (Kd.V_far (p := ⟨gA, 0, none⟩) (Kd.V_mono HO_8.out (fun k_ hk => (⟨hk, hk.2⟩ : _ ∧ k_ ≠ gA))) (fun _ hk => hk.2) (.string ⟨#[92, 116]⟩)) (fun _ hk => hk.2) (.string ⟨#[10]⟩)) (fun _ hk => hk.2) (.string ⟨#[1]⟩)) (fun _ hk => hk.2) (.string ⟨#[127]⟩)) (fun _ hk => hk.2) (.string ⟨#[255]⟩)) (fun _ h_ => h_.1))) gB (Nat.le_of_eq hg.symm)) hb); have n1_ := Aside0.mk (blk_below (g := gA) (o := .cells #[.string ⟨#[92, 116]⟩, .string ⟨#[10]⟩, .string ⟨#[1]⟩, .string ⟨#[127]⟩, .string ⟨#[255]⟩] 34 (0, 0)) (by refine blk_put (cs := #[.string ⟨#[92, 116]⟩, .string ⟨#[10]⟩, .string ⟨#[1]⟩, .string ⟨#[127]⟩, .string ⟨#[]⟩]) ?_ 4 _ rfl; refine blk_put (cs := #[.string ⟨#[92, 116]⟩, .string ⟨#[10]⟩, .string ⟨#[1]⟩, .string ⟨#[]⟩, .string ⟨#[]⟩]) ?_ 3 _ rfl; refine blk_put (cs := #[.string ⟨#[92, 116]⟩, .string ⟨#[10]⟩, .string ⟨#[]⟩, .string ⟨#[]⟩, .string ⟨#[]⟩]) ?_ 2 _ rfl; refine blk_put (cs := #[.string ⟨#[92, 116]⟩, .string ⟨#[]⟩, .string ⟨#[]⟩, .string ⟨#[]⟩, .string ⟨#[]⟩]) ?_ 1 _ rfl; refine blk_put (cs := #[.string ⟨#[]⟩, .string ⟨#[]⟩, .string ⟨#[]⟩, .string ⟨#[]⟩, .string ⟨#[]⟩]) ?_ 0 _ rfl; exact BA.out) hb); have n2_ := Aside0.mk (below_step (by repeat (first | (with_reducible first | exact HB.out | apply below_alloc | apply pw_below_drewN | apply below_drew1 | refine below_set ?_ GA.out) | exact HB.out)) hb); have n3_ := Aside0.mk (hbox); have n4_ := Aside0.mk ((by rw [hg]; exact (below_size (by repeat (first | (with_reducible first | exact HB.out | apply below_alloc | apply pw_below_drewN | apply below_drew1 | refine below_set ?_ GA.out) | exact HB.out))) : w.heap.size ≤ gB)); have n5_ := Aside0.mk ((by rw [hg]; exact (below_size (by repeat (first | (with_reducible first | exact HB.out | apply below_alloc | apply pw_below_drewN | apply below_drew1 | refine below_set ?_ GA.out) | exact HB.out))) : w.heap.size ≤ gB)); have n6_ := Aside0.mk ((by rw [hg]; exact Nat.ne_of_lt (blk_lt (g := gA) (o := .cells #[.string ⟨#[92, 116]⟩, .string ⟨#[10]⟩, .string ⟨#[1]⟩, .string ⟨#[127]⟩, .string ⟨#[255]⟩] 34 (0, 0)) (by refine blk_put (cs := #[.string ⟨#[92, 116]⟩, .string ⟨#[10]⟩, .string ⟨#[1]⟩, .string ⟨#[127]⟩, .string ⟨#[]⟩]) ?_ 4 _ rfl; refine blk_put (cs := #[.string ⟨#[92, 116]⟩, .string ⟨#[10]⟩, .string ⟨#[1]⟩, .string ⟨#[]⟩, .string ⟨#[]⟩]) ?_ 3 _ rfl; refine blk_put (cs := #[.string ⟨#[92, 116]⟩, .string ⟨#[10]⟩, .string ⟨#[]⟩, .string ⟨#[]⟩, .string ⟨#[]⟩]) ?_ 2 _ rfl; refine blk_put (cs := #[.string ⟨#[92, 116]⟩, .string ⟨#[]⟩, .string ⟨#[]⟩, .string ⟨#[]⟩, .string ⟨#[]⟩]) ?_ 1 _ rfl; refine blk_put (cs := #[.string ⟨#[]⟩, .string ⟨#[]⟩, .string ⟨#[]⟩, .string ⟨#[]⟩, .string ⟨#[]⟩]) ?_ 0 _ rfl; exact BA.out)) : gA ≠ gB)); have n7_ := Aside0.mk ((by rw [hg]; exact Nat.ne_of_gt (blk_lt (g := gA) (o := .cells #[.string ⟨#[92, 116]⟩, .string ⟨#[10]⟩, .string ⟨#[1]⟩, .string ⟨#[127]⟩, .string ⟨#[255]⟩] 34 (0, 0)) (by refine blk_put (cs := #[.string ⟨#[92, 116]⟩, .string ⟨#[10]⟩, .string ⟨#[1]⟩, .string ⟨#[127]⟩, .string ⟨#[]⟩]) ?_ 4 _ rfl; refine blk_put (cs := #[.string ⟨#[92, 116]⟩, .string ⟨#[10]⟩, .string ⟨#[1]⟩, .string ⟨#[]⟩, .string ⟨#[]⟩]) ?_ 3 _ rfl; refine blk_put (cs := #[.string ⟨#[92, 116]⟩, .string ⟨#[10]⟩, .string ⟨#[]⟩, .string ⟨#[]⟩, .string ⟨#[]⟩]) ?_ 2 _ rfl; refine blk_put (cs := #[.string ⟨#[92, 116]⟩, .string ⟨#[]⟩, .string ⟨#[]⟩, .string ⟨#[]⟩, .string ⟨#[]⟩]) ?_ 1 _ rfl; refine blk_put (cs := #[.string ⟨#[]⟩, .string ⟨#[]⟩, .string ⟨#[]⟩, .string ⟨#[]⟩, .string ⟨#[]⟩]) ?_ 0 _ rfl; exact BA.out)) : gB ≠ gA)); clear HO_8; clear BA; clear HB; have HO_8 := n0_; have BA := n1_; have HB := n2_; have BB := n3_; have GN := n4_; have GD := n5_; have NA := n6_; have NC := n7_; clear n0_ n1_ n2_ n3_ n4_ n5_ n6_ n7_; clear hb hbox hg; have hnb63 := NC.out; have hnc63 := NA.out; have hcz64_0 : w62.cell? ⟨gB, 0, none⟩ = some (.int .i64 0) := (blk_cell BB.out 0).trans rfl; have hcz64_1 : w62.cell? ⟨gB, 1, none⟩ = some (.int .i64 0) := (blk_cell BB.out 1).trans rfl; have hcz64_2 : w62.cell? ⟨gB, 2, none⟩ = some (.int .i64 0) := (blk_cell BB.out 2).trans rfl; have hcz64_3 : w62.cell? ⟨gB, 3, none⟩ = some (.int .i64 0) := (blk_cell BB.out 3).trans rfl; have hcz64_4 : w62.cell? ⟨gB, 4, none⟩ = some (.int .i64 0) := (blk_cell BB.out 4).trans rfl; have hfz64_0 := blk_frozen BB.out 0; have hfz64_1 := blk_frozen BB.out 1; have hfz64_2 := blk_frozen BB.out 2; have hfz64_3 := blk_frozen BB.out 3; have hfz64_4 := blk_frozen BB.out 4))
           have n0_ : Aside0 (Kd.V (Kd.int .u8) 5 (((((w62.setCell ⟨gB, 0, none⟩ (.int .i64 13)).setCell ⟨gB, 1, none⟩ (.int .i64 12)).setCell ⟨gB, 2, none⟩ (.int .i64 11)).setCell ⟨gB, 3, none⟩ (.int .i64 11)).setCell ⟨gB, 4, none⟩ (.int .i64 10)) w.heap.size (fun k_ => k_ ≠ gA ∧ k_ ≠ gB) (.slice Ao59 x8_6.length co59) x8_6) := ⟨by (with_reducible repeat (first | apply Kd.V_alloc | apply Kd.V_drewN | apply Kd.V_drew)); exact Kd.V_mono (Kd.V_far (p := ⟨gB, 4, none⟩) (Kd.V_far (p := ⟨gB, 3, none⟩) (Kd.V_far (p := ⟨gB, 2, none⟩) (Kd.V_far (p := ⟨gB, 1, none⟩) (Kd.V_far (p := ⟨gB, 0, none⟩) (Kd.V_mono HO_8.out (fun k_ hk => (⟨hk, hk.2⟩ : _ ∧ k_ ≠ gB))) (fun _ hk => hk.2) (.int .i64 13)) (fun _ hk => hk.2) (.int .i64 12)) (fun _ hk => hk.2) (.int .i64 11)) (fun _ hk => hk.2) (.int .i64 11)) (fun _ hk => hk.2) (.int .i64 10)) (fun _ hk => ⟨hk.1.1.2, hk.1.2⟩)⟩
           have n1_ : Aside0 ((((((w62.setCell ⟨gB, 0, none⟩ (.int .i64 13)).setCell ⟨gB, 1, none⟩ (.int .i64 12)).setCell ⟨gB, 2, none⟩ (.int .i64 11)).setCell ⟨gB, 3, none⟩ (.int .i64 11)).setCell ⟨gB, 4, none⟩ (.int .i64 10)).heap[gA]? = some (.cells #[.string ⟨#[92, 116]⟩, .string ⟨#[10]⟩, .string ⟨#[1]⟩, .string ⟨#[127]⟩, .string ⟨#[255]⟩] 34 (0, 0))) := ⟨by (with_reducible repeat (first | apply blk_drewN | apply blk_drew | apply blk_alloc | refine blk_far ?_ NA.out _)); exact BA.out⟩
           have n2_ : Aside0 ((((((w62.setCell ⟨gB, 0, none⟩ (.int .i64 13)).setCell ⟨gB, 1, none⟩ (.int .i64 12)).setCell ⟨gB, 2, none⟩ (.int .i64 11)).setCell ⟨gB, 3, none⟩ (.int .i64 11)).setCell ⟨gB, 4, none⟩ (.int .i64 10)).heap[gB]? = some (.cells #[.int .i64 13, .int .i64 12, .int .i64 11, .int .i64 11, .int .i64 10] 35 (0, 0))) := ⟨by refine blk_put (cs := #[.int .i64 13, .int .i64 12, .int .i64 11, .int .i64 11, .int .i64 0]) ?_ 4 _ rfl; refine blk_put (cs := #[.int .i64 13, .int .i64 12, .int .i64 11, .int .i64 0, .int .i64 0]) ?_ 3 _ rfl; refine blk_put (cs := #[.int .i64 13, .int .i64 12, .int .i64 0, .int .i64 0, .int .i64 0]) ?_ 2 _ rfl; refine blk_put (cs := #[.int .i64 13, .int .i64 0, .int .i64 0, .int .i64 0, .int .i64 0]) ?_ 1 _ rfl; refine blk_put (cs := #[.int .i64 0, .int .i64 0, .int .i64 0, .int .i64 0, .int .i64 0]) ?_ 0 _ rfl; exact BB.out⟩
           have n3_ : Aside0 (Below w.heap.size w (((((w62.setCell ⟨gB, 0, none⟩ (.int .i64 13)).setCell ⟨gB, 1, none⟩ (.int .i64 12)).setCell ⟨gB, 2, none⟩ (.int .i64 11)).setCell ⟨gB, 3, none⟩ (.int .i64 11)).setCell ⟨gB, 4, none⟩ (.int .i64 10))) := ⟨by repeat (first | (with_reducible first | exact HB.out | apply below_alloc | apply pw_below_drewN | apply below_drew1 | refine below_set ?_ GA.out | refine below_set ?_ GD.out) | exact HB.out)⟩
           (try clear HO_8)
           (try clear BA)
           (try clear BB)
           (try clear HB)
           generalize (((((w62.setCell ⟨gB, 0, none⟩ (.int .i64 13)).setCell ⟨gB, 1, none⟩ (.int .i64 12)).setCell ⟨gB, 2, none⟩ (.int .i64 11)).setCell ⟨gB, 3, none⟩ (.int .i64 11)).setCell ⟨gB, 4, none⟩ (.int .i64 10)) = w65 at n0_ n1_ n2_ n3_ ⊢
           have HO_8 := n0_
           have BA := n1_
           have BB := n2_
           have HB := n3_
           clear n0_ n1_ n2_ n3_
           have n0_ := Aside0.mk (Kd.V_drew HO_8.out)
           have n1_ := Aside0.mk (blk_drew BA.out)
           have n2_ := Aside0.mk (blk_drew BB.out)
           have n3_ := Aside0.mk (below_drew1 HB.out)
           clear HO_8
           clear BA
           clear BB
           clear HB
           have HO_8 := n0_
           have BA := n1_
           have BB := n2_
           have HB := n3_
           clear n0_ n1_ n2_ n3_
           have q67 : ((ji17) : Int) ≤ ((x8_6.length : Int) : Int) := of_decide_eq_true (by first | (with_reducible assumption) | assumption)
           obtain ⟨i067, hi067, _, hsz67, _⟩ := info_parts info5
           have hroom67 : x8_6.length ≤ co59 := (Kd.V_reads' HO_8.out).2.1
           have hC67 : Kd.F (Kd.int .u8) _ _ Ao59 x8_6.length x8_6 := (Kd.V_at (base := w.heap.size) HO_8.out).2.2
           have hcut67 := cut_to (P := Tryd.prog) 22 5 .i64 Tryd.underlying22 hi067 Ao59 x8_6.length co59 (ji17) (of_decide_eq_true (by first | (with_reducible assumption) | assumption)) q67 hroom67
           have hr67 := Kd.F_take (m := ((ji17) : Int).toNat) hC67 (by omega)
           have hy67 : y435.length = ((ji17) : Int).toNat := (by rw [Ny435.out, List.length_take]; omega)
           rw [← Ny435.out] at hr67
           rw [← hy67] at hcut67
           have H9 := Aside0.mk (show Kd.V (Kd.int .u8) 5 _ w.heap.size _ (.slice Ao59 y435.length co59) y435 from Kd.V_mk (by omega) hr67)
           have HC439 := Aside0.mk (show y435.length ≤ co59 from by omega)
           clear hr67 hC67 hroom67 hi067 hsz67
           have KY67 := Aside0.mk hy67
           clear hy67
           replace q67 := eq_true q67
           refine start_ (n := 15) (S := fun w' => w'.cell? ⟨gA, 0, none⟩ = some (.string ⟨#[92, 116]⟩) ∧ w'.cell? ⟨gA, 1, none⟩ = some (.string ⟨#[10]⟩) ∧ w'.cell? ⟨gA, 2, none⟩ = some (.string ⟨#[1]⟩) ∧ w'.cell? ⟨gA, 3, none⟩ = some (.string ⟨#[127]⟩) ∧ w'.cell? ⟨gA, 4, none⟩ = some (.string ⟨#[255]⟩)) (ds := []) #[false, false, false, false, false, false, false, false, false, false, false, false, false, false, false] (by kernel_rfl) rfl rfl ⟨(blk_cell BA.out 0).trans rfl, (blk_cell BA.out 1).trans rfl, (blk_cell BA.out 2).trans rfl, (blk_cell BA.out 3).trans rfl, (blk_cell BA.out 4).trans rfl⟩ (fun hHeld => ?_); refine with_tabW tmesislaw04_QuoteFirst.tab10 tmesislaw04_QuoteFirst.bits10 (fun HT_ HW_ => ?_)
           generalize w65.drew = w66 at HO_8 BA BB HB H9 hHeld ⊢
           refine pure_ (i := 1) (N := some 36) (v := ?_) (a' := ?_) #[false, true, false, false, false, false, false, false, false, false, false, false, false, false, false] rfl rfl (any_of HT_.out (by kernel_rfl)) (fun _ _ _ h => h) (Or.inl ⟨by rfl, ?_⟩) ?_ ?_
           rotate_left
           ·intro w'
            go_simp
            with_reducible rfl
           rotate_left
           ·simp only [Act.put, List.setIfInBounds_toArray, List.set_cons_zero, List.set_cons_succ, i64_w, i32_w]
            rfl
           refine pure_ (i := 2) (N := some 37) (v := ?_) (a' := ?_) #[false, true, true, false, false, false, false, false, false, false, false, false, false, false, false] rfl rfl (any_of HT_.out (by kernel_rfl)) (fun _ _ _ h => h) (Or.inl ⟨by rfl, ?_⟩) ?_ ?_
           rotate_left
           ·intro w'
            go_simp
            with_reducible rfl
           rotate_left
           ·simp only [Act.put, List.setIfInBounds_toArray, List.set_cons_zero, List.set_cons_succ, i64_w, i32_w]
            rfl
           refine pure_ (i := 3) (N := some 38) (v := ?_) (a' := ?_) #[false, true, true, true, false, false, false, false, false, false, false, false, false, false, false] rfl rfl (any_of HT_.out (by kernel_rfl)) (fun _ _ _ h => h) (Or.inl ⟨by rfl, ?_⟩) ?_ ?_
           rotate_left
           ·intro w'
            go_simp
            with_reducible rfl
           rotate_left
           ·simp only [Act.put, List.setIfInBounds_toArray, List.set_cons_zero, List.set_cons_succ, i64_w, i32_w]
            rfl
           refine pure_ (i := 4) (N := some 39) (v := ?_) (a' := ?_) #[false, true, true, true, true, false, false, false, false, false, false, false, false, false, false] rfl rfl (any_of HT_.out (by kernel_rfl)) (fun _ _ _ h => h) (Or.inl ⟨by rfl, ?_⟩) ?_ ?_
           rotate_left
           ·intro w'
            go_simp
            with_reducible rfl
           rotate_left
           ·simp only [Act.put, List.setIfInBounds_toArray, List.set_cons_zero, List.set_cons_succ, i64_w, i32_w]
            rfl
           refine pure_ (i := 5) (N := some 40) (v := ?_) (a' := ?_) #[false, true, true, true, true, true, false, false, false, false, false, false, false, false, false] rfl rfl (any_of HT_.out (by kernel_rfl)) (fun _ _ _ h => h) (Or.inl ⟨by rfl, ?_⟩) ?_ ?_
           rotate_left
           ·intro w'
            go_simp
            with_reducible rfl
           rotate_left
           ·simp only [Act.put, List.setIfInBounds_toArray, List.set_cons_zero, List.set_cons_succ, i64_w, i32_w]
            rfl
           refine pure_ (i := 7) (N := some 42) (v := ?_) (a' := ?_) #[false, true, true, true, true, true, false, true, false, false, false, false, false, false, false] rfl rfl (any_of HT_.out (by kernel_rfl)) (fun _ _ _ h => h) (Or.inl ⟨by rfl, ?_⟩) ?_ ?_
           rotate_left
           ·intro w'
            go_simp
            with_reducible rfl
           rotate_left
           ·simp only [Act.put, List.setIfInBounds_toArray, List.set_cons_zero, List.set_cons_succ, i64_w, i32_w]
            rfl
           refine pure_ (i := 8) (N := some 43) (v := ?_) (a' := ?_) #[false, true, true, true, true, true, false, true, true, false, false, false, false, false, false] rfl rfl (any_of HT_.out (by kernel_rfl)) (fun _ _ _ h => h) (Or.inl ⟨by rfl, ?_⟩) ?_ ?_
           rotate_left
           ·intro w'
            go_simp
            with_reducible rfl
           rotate_left
           ·simp only [Act.put, List.setIfInBounds_toArray, List.set_cons_zero, List.set_cons_succ, i64_w, i32_w]
            rfl
           refine pure_ (i := 11) (N := some 46) (v := ?_) (a' := ?_) #[false, true, true, true, true, true, false, true, true, false, false, true, false, false, false] rfl rfl (any_of HT_.out (by kernel_rfl)) (fun _ _ _ h => h) (Or.inl ⟨by rfl, ?_⟩) ?_ ?_
           rotate_left
           ·intro w'
            go_simp
            with_reducible rfl
           rotate_left
           ·simp only [Act.put, List.setIfInBounds_toArray, List.set_cons_zero, List.set_cons_succ, i64_w, i32_w]
            rfl
           refine take_ (i := 9) (N := some 44) (v := ?_) (a' := ?_) #[false, true, true, true, true, true, false, true, true, true, false, true, false, false, false] rfl rfl (take_ofW HT_.out HW_.out (by kernel_rfl)) (fun _ _ _ h => h) (Or.inl ⟨by rfl, ?_⟩) hHeld ?_ ?_
           rotate_left
           ·rintro w' ⟨s0, s1, s2, s3, s4⟩
            go_simp
            with_reducible rfl
           rotate_left
           ·simp only [Act.put, List.setIfInBounds_toArray, List.set_cons_zero, List.set_cons_succ, i64_w, i32_w]
            rfl
           refine one_ (i := 0) (N := some 35) #[true, true, true, true, true, true, false, true, true, true, false, true, false, false, false] rfl rfl (one_of HT_.out (by kernel_rfl)) (by decide) (fun K hK => ?_)
           refine Kd.R_lit_step (Kd.int .u8) _ 5 ?hg (N := 35) ?hd (xs := ([] : List Int)) (inner := []) (ok := fun _ => True) (okp := fun _ => True) ?hr ?hp (fun _ hk => hk) trivial (Below.refl _ _) (Nat.le_refl _) (by simp) ?_; (case hd => rfl); (case hg => rfl); (case hr => first | (go_simp; done) | (go_simp; rfl)); (case hp => exact (Reps.none _ _))
           intro v433 w68 ho69 hb hg_ hnew_
           clear hg_ hnew_
           (first | rw [← Ny432.out] at ho69 | (simp only [Int.reduceToNat] at ho69; rw [← Ny432.out] at ho69))
           have n0_ := Aside0.mk (Kd.V_elder' (by (with_reducible repeat (first | apply Kd.V_alloc | apply Kd.V_drewN | apply Kd.V_drew)); exact HO_8.out) (Kd.R_base ho69) hb)
           have n1_ := Aside0.mk (Kd.V_elder' (by (with_reducible repeat (first | apply Kd.V_alloc | apply Kd.V_drewN | apply Kd.V_drew)); exact H9.out) (Kd.R_base ho69) hb)
           have n2_ := Aside0.mk (Kd.R_lower ho69 (below_size (by repeat (first | (with_reducible first | exact HB.out | apply below_alloc | apply pw_below_drewN | apply below_drew1 | refine below_set ?_ GA.out | refine below_set ?_ GD.out) | exact HB.out))))
           have n3_ := Aside0.mk (blk_below (g := gA) (o := .cells #[.string ⟨#[92, 116]⟩, .string ⟨#[10]⟩, .string ⟨#[1]⟩, .string ⟨#[127]⟩, .string ⟨#[255]⟩] 34 (0, 0)) (by exact BA.out) hb)
           have n4_ := Aside0.mk (blk_below (g := gB) (o := .cells #[.int .i64 13, .int .i64 12, .int .i64 11, .int .i64 11, .int .i64 10] 35 (0, 0)) (by exact BB.out) hb)
           have n5_ := Aside0.mk (below_step (by repeat (first | (with_reducible first | exact HB.out | apply below_alloc | apply pw_below_drewN | apply below_drew1 | refine below_set ?_ GA.out | refine below_set ?_ GD.out) | exact HB.out)) hb)
           clear HO_8
           clear H9
           clear BA
           clear BB
           clear HB
           have HO_8 := n0_
           have H9 := n1_
           have HO434 := n2_
           have BA := n3_
           have BB := n4_
           have HB := n5_
           clear n0_ n1_ n2_ n3_ n4_ n5_
           clear hb ho69
           refine hK.out _ _ ⟨(blk_cell BA.out 0).trans rfl, (blk_cell BA.out 1).trans rfl, (blk_cell BA.out 2).trans rfl, (blk_cell BA.out 3).trans rfl, (blk_cell BA.out 4).trans rfl⟩ (fun hHeld => ?_)
           clear hK K
           refine norm_ (a' := ?_) ?_ ?_
           rotate_left
           ·show Act.put _ (some 35) _ = _
            simp only [Act.put, List.setIfInBounds_toArray, List.set_cons_zero, List.set_cons_succ, i64_w, i32_w]
            rfl
           refine one_ (i := 6) (N := some 41) #[true, true, true, true, true, true, true, true, true, true, false, true, false, false, false] rfl rfl (one_of HT_.out (by kernel_rfl)) (by decide) (fun K hK => ?_)
           refine Kd.R_append_rows_step (Kd.int .u8) (w0 := w) w.heap.size (by rfl) (.tmp 35) (.tmp 40) 22 5 (.int .u8 0) 1 rfl Tryd.underlying22 info5 rfl (by decide) (by omega) v433 y432 y435 _ _ _ (fun _ => True) (fun _ => False) rfl rfl ?aO ?aR (fun _ _ h => h) (fun _ h => h.elim) ?aF ?aB ?aS ?aL ?_
           (case aR => repeat (first | exact (Kd.V_reads' H9.out).2.2 | (with_reducible refine Kd.C_alloc ?_ _) | (with_reducible refine Kd.C_drewN ?_ _) | (with_reducible refine Kd.C_drew ?_)))
           (case aB => exact (by repeat (first | (with_reducible first | exact HB.out | apply below_alloc | apply pw_below_drewN | apply below_drew1 | refine below_set ?_ GA.out | refine below_set ?_ GD.out) | exact HB.out)))
           (case aF => exact (fun _ _ => trivial))
           (case aO => exact (by (with_reducible repeat (first | apply Kd.R_alloc | apply Kd.R_drewN | apply Kd.R_drew)); exact HO434.out))
           (case aS => exact (below_size (by repeat (first | (with_reducible first | exact HB.out | apply below_alloc | apply pw_below_drewN | apply below_drew1 | refine below_set ?_ GA.out | refine below_set ?_ GD.out) | exact HB.out))))
           (case aL => have := LMc20.out; omega)
           intro v441 w70 ho hb hg hat
           rw [← Ny440.out] at ho
           have n0_ := Aside0.mk (Kd.V_afterv (ok := (fun k_ => k_ ≠ gA ∧ k_ ≠ gB)) (by (with_reducible repeat (first | apply Kd.V_alloc | apply Kd.V_drewN | apply Kd.V_drew)); exact HO_8.out) hg hat)
           have n1_ := Aside0.mk (blk_grown (g := gA) (o := .cells #[.string ⟨#[92, 116]⟩, .string ⟨#[10]⟩, .string ⟨#[1]⟩, .string ⟨#[127]⟩, .string ⟨#[255]⟩] 34 (0, 0)) (by exact BA.out) hg (Kd.R_ne HO434.out BA.out (by decide)))
           have n2_ := Aside0.mk (blk_grown (g := gB) (o := .cells #[.int .i64 13, .int .i64 12, .int .i64 11, .int .i64 11, .int .i64 10] 35 (0, 0)) (by exact BB.out) hg (Kd.R_ne HO434.out BB.out (by decide)))
           have n3_ := Aside0.mk (Kd.V_afterv (ok := (fun k_ => k_ ≠ gA ∧ k_ ≠ gB)) (by (with_reducible repeat (first | apply Kd.V_alloc | apply Kd.V_drewN | apply Kd.V_drew)); exact H9.out) hg hat)
           have n4_ := Aside0.mk (hb)
           have n5_ := Aside0.mk (ho)
           clear HO_8
           clear BA
           clear BB
           clear H9
           clear HB
           clear HO434
           have HO_8 := n0_
           have BA := n1_
           have BB := n2_
           have H9 := n3_
           have HB := n4_
           have HO442 := n5_
           clear n0_ n1_ n2_ n3_ n4_ n5_
           clear ho hb hg hat
           refine hK.out _ _ ⟨(blk_cell BA.out 0).trans rfl, (blk_cell BA.out 1).trans rfl, (blk_cell BA.out 2).trans rfl, (blk_cell BA.out 3).trans rfl, (blk_cell BA.out 4).trans rfl⟩ (fun hHeld => ?_)
           clear hK K
           refine norm_ (a' := ?_) ?_ ?_
           rotate_left
           ·show Act.put _ (some 41) _ = _
            simp only [Act.put, List.setIfInBounds_toArray, List.set_cons_zero, List.set_cons_succ, i64_w, i32_w]
            rfl
           refine one_ (i := 10) (N := some 45) #[true, true, true, true, true, true, true, true, true, true, true, true, false, false, false] rfl rfl (one_of HT_.out (by kernel_rfl)) (by decide) (fun K hK => ?_)
           refine R_append_str_step (w0 := w) w.heap.size (by rfl) (.tmp 41) _ 22 9 5 rfl Tryd.underlying22 Tryd.underlying9 info5 v441 y440 (⟨#[10]⟩ : ByteArray) (fun _ => True) rfl rfl ?aO ?aF ?aB ?aS ?aL ?_
           (case aB => exact (by repeat (first | (with_reducible first | exact HB.out | apply below_alloc | apply pw_below_drewN | apply below_drew1 | refine below_set ?_ GA.out | refine below_set ?_ GD.out) | exact HB.out)))
           (case aF => exact (fun _ _ => trivial))
           (case aO => exact (by (with_reducible repeat (first | apply Kd.R_alloc | apply Kd.R_drewN | apply Kd.R_drew)); exact HO442.out))
           (case aS => exact (below_size (by repeat (first | (with_reducible first | exact HB.out | apply below_alloc | apply pw_below_drewN | apply below_drew1 | refine below_set ?_ GA.out | refine below_set ?_ GD.out) | exact HB.out))))
           (case aL => have := LMc54.out; have zs_ : (⟨#[10]⟩ : ByteArray).size = 1 := rfl; omega)
           intro v458 w71 ho hb hg hat
           rw [← Ny457.out] at ho
           have n0_ := Aside0.mk (Kd.V_afterv (ok := (fun k_ => k_ ≠ gA ∧ k_ ≠ gB)) (by (with_reducible repeat (first | apply Kd.V_alloc | apply Kd.V_drewN | apply Kd.V_drew)); exact HO_8.out) hg hat)
           have n1_ := Aside0.mk (blk_grown (g := gA) (o := .cells #[.string ⟨#[92, 116]⟩, .string ⟨#[10]⟩, .string ⟨#[1]⟩, .string ⟨#[127]⟩, .string ⟨#[255]⟩] 34 (0, 0)) (by exact BA.out) hg (Kd.R_ne HO442.out BA.out (by decide)))
           have n2_ := Aside0.mk (blk_grown (g := gB) (o := .cells #[.int .i64 13, .int .i64 12, .int .i64 11, .int .i64 11, .int .i64 10] 35 (0, 0)) (by exact BB.out) hg (Kd.R_ne HO442.out BB.out (by decide)))
           have n3_ := Aside0.mk (Kd.V_afterv (ok := (fun k_ => k_ ≠ gA ∧ k_ ≠ gB)) (by (with_reducible repeat (first | apply Kd.V_alloc | apply Kd.V_drewN | apply Kd.V_drew)); exact H9.out) hg hat)
           have n4_ := Aside0.mk (hb)
           have n5_ := Aside0.mk (ho)
           clear HO_8
           clear BA
           clear BB
           clear H9
           clear HB
           clear HO442
           have HO_8 := n0_
           have BA := n1_
           have BB := n2_
           have H9 := n3_
           have HB := n4_
           have HO459 := n5_
           clear n0_ n1_ n2_ n3_ n4_ n5_
           clear ho hb hg hat
           refine hK.out _ _ ⟨(blk_cell BA.out 0).trans rfl, (blk_cell BA.out 1).trans rfl, (blk_cell BA.out 2).trans rfl, (blk_cell BA.out 3).trans rfl, (blk_cell BA.out 4).trans rfl⟩ (fun hHeld => ?_)
           clear hK K
           refine norm_ (a' := ?_) ?_ ?_
           rotate_left
           ·show Act.put _ (some 45) _ = _
            simp only [Act.put, List.setIfInBounds_toArray, List.set_cons_zero, List.set_cons_succ, i64_w, i32_w]
            rfl
           refine one_ (i := 12) (N := some 47) #[true, true, true, true, true, true, true, true, true, true, true, true, true, false, false] rfl rfl (one_of HT_.out (by kernel_rfl)) (by decide) (fun K hK => ?_)
           refine goes_ Tryd.func10 (by kernel_rfl) rfl #[.slice A2 l2.length c2] (by rfl) rfl rfl (by (try simp only [List.map_toArray, List.map_cons, List.map_nil]); first | done | rfl | (simp only [List.length_drop, List.length_take]; rfl)) ?_
           with_reducible refine (tmesislaw04_few.calls (fun k_ => k_ < w.heap.size) _ _ l2 t460 _ ?side1 A55.out).mono ?_
           (case side1 => exact Kd.V_mk HC2.out (Kd.F_below (Kd.C_F (Kd.heap_int .u8) HR2.out) (by repeat (first | (with_reducible first | exact HB.out | apply below_alloc | apply pw_below_drewN | apply below_drew1 | refine below_set ?_ GA.out | refine below_set ?_ GD.out) | exact HB.out))))
           rintro e w72 ⟨v461, rfl, ho0, hb⟩
           refine ⟨_, rfl, ?_⟩
           have n0_ := Aside0.mk (Kd.V_below (by (with_reducible repeat (first | apply Kd.V_alloc | apply Kd.V_drewN | apply Kd.V_drew)); exact HO_8.out) hb)
           have n1_ := Aside0.mk (Kd.V_below (by (with_reducible repeat (first | apply Kd.V_alloc | apply Kd.V_drewN | apply Kd.V_drew)); exact H9.out) hb)
           have n2_ := Aside0.mk (Kd.R_below (by (with_reducible repeat (first | apply Kd.R_alloc | apply Kd.R_drewN | apply Kd.R_drew)); exact HO459.out) hb)
           have n3_ := Aside0.mk (Kd.V_lower (Kd.V_mono (ok' := fun k_ => some k_ ≠ (v458 : Value).ownBlock ∧ k_ ≠ gA ∧ k_ ≠ gB) ho0 (fun k_ hk_ => ⟨Or.elim hk_ (fun hs_ => fun e_ => Nat.not_le.2 hs_ (Kd.R_base HO459.out k_ e_.symm)) (fun hn_ => (Kd.fresh' (Kd.R_lt (by (with_reducible repeat (first | apply Kd.R_alloc | apply Kd.R_drewN | apply Kd.R_drew)); exact HO459.out)) k_ hn_)), Or.elim hk_ (fun hs_ => fun e_ => Nat.not_le.2 hs_ (by rw [e_]; exact GM.out)) (fun hn_ => (Kd.freshB (g := gA) (o := .cells #[.string ⟨#[92, 116]⟩, .string ⟨#[10]⟩, .string ⟨#[1]⟩, .string ⟨#[127]⟩, .string ⟨#[255]⟩] 34 (0, 0)) (by exact BA.out) k_ hn_)), Or.elim hk_ (fun hs_ => fun e_ => Nat.not_le.2 hs_ (by rw [e_]; exact GN.out)) (fun hn_ => (Kd.freshB (g := gB) (o := .cells #[.int .i64 13, .int .i64 12, .int .i64 11, .int .i64 11, .int .i64 10] 35 (0, 0)) (by exact BB.out) k_ hn_))⟩)) (below_size (by repeat (first | (with_reducible first | exact HB.out | apply below_alloc | apply pw_below_drewN | apply below_drew1 | refine below_set ?_ GA.out | refine below_set ?_ GD.out) | exact HB.out))))
           have n4_ := Aside0.mk (blk_below (g := gA) (o := .cells #[.string ⟨#[92, 116]⟩, .string ⟨#[10]⟩, .string ⟨#[1]⟩, .string ⟨#[127]⟩, .string ⟨#[255]⟩] 34 (0, 0)) (by exact BA.out) hb)
           have n5_ := Aside0.mk (blk_below (g := gB) (o := .cells #[.int .i64 13, .int .i64 12, .int .i64 11, .int .i64 11, .int .i64 10] 35 (0, 0)) (by exact BB.out) hb)
           have n6_ := Aside0.mk (below_step (by repeat (first | (with_reducible first | exact HB.out | apply below_alloc | apply pw_below_drewN | apply below_drew1 | refine below_set ?_ GA.out | refine below_set ?_ GD.out) | exact HB.out)) hb)
           clear HO_8
           clear H9
           clear HO459
           clear BA
           clear BB
           clear HB
           have HO_8 := n0_
           have H9 := n1_
           have HO459 := n2_
           have HO462 := n3_
           have BA := n4_
           have BB := n5_
           have HB := n6_
           clear n0_ n1_ n2_ n3_ n4_ n5_ n6_
           (try clear hb)
           (try clear hb2)
           (try clear hk)
           (try clear hi)
           (try clear ho0)
           obtain ⟨Ao74, co74, eo74⟩ := Kd.V_slice HO462.out
           (first | subst eo74 | (injection eo74 with f1_ f2_ f3_; have f4_ := f1_.symm; have f5_ := f3_.symm; clear f1_ f2_ f3_; subst f4_; subst f5_))
           refine hK.out _ _ ⟨(blk_cell BA.out 0).trans rfl, (blk_cell BA.out 1).trans rfl, (blk_cell BA.out 2).trans rfl, (blk_cell BA.out 3).trans rfl, (blk_cell BA.out 4).trans rfl⟩ (fun hHeld => ?_)
           clear hK K
           refine norm_ (a' := ?_) ?_ ?_
           rotate_left
           ·show Act.put _ (some 47) _ = _
            simp only [Act.put, List.setIfInBounds_toArray, List.set_cons_zero, List.set_cons_succ, i64_w, i32_w]
            rfl
           refine one_ (i := 13) (N := some 48) #[true, true, true, true, true, true, true, true, true, true, true, true, true, true, false] rfl rfl (one_of HT_.out (by kernel_rfl)) (by decide) (fun K hK => ?_)
           refine Kd.R_append_rows_step (Kd.int .u8) (w0 := w) w.heap.size (by rfl) (.tmp 45) (.tmp 47) 22 5 (.int .u8 0) 1 rfl Tryd.underlying22 info5 rfl (by decide) (by omega) v458 y457 t460 _ _ _ (fun _ => True) (fun _ => False) rfl rfl ?aO ?aR (fun _ _ h => h) (fun _ h => h.elim) ?aF ?aB ?aS ?aL ?_
           (case aR => repeat (first | exact (Kd.V_reads' HO462.out).2.2 | (with_reducible refine Kd.C_alloc ?_ _) | (with_reducible refine Kd.C_drewN ?_ _) | (with_reducible refine Kd.C_drew ?_)))
           (case aB => exact (by repeat (first | (with_reducible first | exact HB.out | apply below_alloc | apply pw_below_drewN | apply below_drew1 | refine below_set ?_ GA.out | refine below_set ?_ GD.out) | exact HB.out)))
           (case aF => exact (fun _ _ => trivial))
           (case aO => exact (by (with_reducible repeat (first | apply Kd.R_alloc | apply Kd.R_drewN | apply Kd.R_drew)); exact HO459.out))
           (case aS => exact (below_size (by repeat (first | (with_reducible first | exact HB.out | apply below_alloc | apply pw_below_drewN | apply below_drew1 | refine below_set ?_ GA.out | refine below_set ?_ GD.out) | exact HB.out))))
           (case aL => have := LMc56.out; omega)
           intro v464 w73 ho hb hg hat
           rw [← Ny463.out] at ho
           have n0_ := Aside0.mk (Kd.V_afterv (ok := (fun k_ => k_ ≠ gA ∧ k_ ≠ gB)) (by (with_reducible repeat (first | apply Kd.V_alloc | apply Kd.V_drewN | apply Kd.V_drew)); exact HO_8.out) hg hat)
           have n1_ := Aside0.mk (blk_grown (g := gA) (o := .cells #[.string ⟨#[92, 116]⟩, .string ⟨#[10]⟩, .string ⟨#[1]⟩, .string ⟨#[127]⟩, .string ⟨#[255]⟩] 34 (0, 0)) (by exact BA.out) hg (Kd.R_ne HO459.out BA.out (by decide)))
           have n2_ := Aside0.mk (blk_grown (g := gB) (o := .cells #[.int .i64 13, .int .i64 12, .int .i64 11, .int .i64 11, .int .i64 10] 35 (0, 0)) (by exact BB.out) hg (Kd.R_ne HO459.out BB.out (by decide)))
           have n3_ := Aside0.mk (Kd.V_afterv (ok := (fun k_ => k_ ≠ gA ∧ k_ ≠ gB)) (by (with_reducible repeat (first | apply Kd.V_alloc | apply Kd.V_drewN | apply Kd.V_drew)); exact H9.out) hg hat)
           have n4_ := Aside0.mk (Kd.V_afterv (ok := (fun k_ => k_ ≠ gA ∧ k_ ≠ gB)) (by (with_reducible repeat (first | apply Kd.V_alloc | apply Kd.V_drewN | apply Kd.V_drew)); exact Kd.V_mono HO462.out (fun _ hk => ⟨⟨hk.2.1, hk.2.2⟩, hk.1⟩)) hg hat)
           have n5_ := Aside0.mk (hb)
           have n6_ := Aside0.mk (ho)
           clear HO_8
           clear BA
           clear BB
           clear H9
           clear HO462
           clear HB
           clear HO459
           have HO_8 := n0_
           have BA := n1_
           have BB := n2_
           have H9 := n3_
           have HO462 := n4_
           have HB := n5_
           have HO465 := n6_
           clear n0_ n1_ n2_ n3_ n4_ n5_ n6_
           clear ho hb hg hat
           refine hK.out _ _ ⟨(blk_cell BA.out 0).trans rfl, (blk_cell BA.out 1).trans rfl, (blk_cell BA.out 2).trans rfl, (blk_cell BA.out 3).trans rfl, (blk_cell BA.out 4).trans rfl⟩ (fun hHeld => ?_)
           clear hK K
           refine norm_ (a' := ?_) ?_ ?_
           rotate_left
           ·show Act.put _ (some 48) _ = _
            simp only [Act.put, List.setIfInBounds_toArray, List.set_cons_zero, List.set_cons_succ, i64_w, i32_w]
            rfl
           refine pure_ (i := 14) (N := some 13) (v := ?_) (a' := ?_) #[true, true, true, true, true, true, true, true, true, true, true, true, true, true, true] rfl rfl (any_of HT_.out (by kernel_rfl)) (fun _ _ _ h => h) (Or.inl ⟨by rfl, ?_⟩) ?_ ?_
           rotate_left
           ·intro w'
            go_simp
            with_reducible rfl
           rotate_left
           ·simp only [Act.put, List.setIfInBounds_toArray, List.set_cons_zero, List.set_cons_succ, i64_w, i32_w]
            rfl
           refine done_ (done_of HT_.out (by kernel_rfl)) ?_
           obtain ⟨Ao75, co75, eo75⟩ := Kd.R_slice HO465.out
           subst eo75
           go_upto_region 12 with (first | ((with_reducible refine gate_callee (f := 9) rfl ?_); refine goesL_ (some 51) rfl rfl Tryd.func9 (by kernel_rfl) rfl #[.slice Ao75 y463.length co75] rfl (by (try simp only [List.map_toArray, List.map_cons, List.map_nil]); first | done | rfl | (simp only [List.length_drop, List.length_take]; rfl)) ?_; (with_reducible refine (quote_Take.calls kj6 _ _ y463 t466 t467 t468 _ ?side1 ?side2 A57.out).mono ?_); (case side1 => repeat (first | exact (Kd.R_reads' HO465.out).2.2 | (with_reducible refine Kd.C_alloc ?_ _) | (with_reducible refine Kd.C_drewN ?_ _) | (with_reducible refine Kd.C_drew ?_))); (case side2 => exact (Kd.R_reads' HO465.out).2.1); rintro e w76 ⟨v469, rfl, ho0, hb⟩; refine ⟨_, rfl, ?_⟩; have n0_ := Aside0.mk (Kd.V_elder' (by (with_reducible repeat (first | apply Kd.V_alloc | apply Kd.V_drewN | apply Kd.V_drew)); exact HO_8.out) (Kd.R_base ho0) hb); have n1_ := Aside0.mk (Kd.V_elder' (by (with_reducible repeat (first | apply Kd.V_alloc | apply Kd.V_drewN | apply Kd.V_drew)); exact H9.out) (Kd.R_base ho0) hb); have n2_ := Aside0.mk (Kd.V_elder' (by (with_reducible repeat (first | apply Kd.V_alloc | apply Kd.V_drewN | apply Kd.V_drew)); exact HO462.out) (Kd.R_base ho0) hb); have n3_ := Aside0.mk (Kd.R_elder' (by (with_reducible repeat (first | apply Kd.R_alloc | apply Kd.R_drewN | apply Kd.R_drew)); exact HO465.out) (Kd.R_base ho0) hb); have n4_ := Aside0.mk (Kd.R_lower (Kd.R_new' ho0 (Kd.R_lt (by (with_reducible repeat (first | apply Kd.R_alloc | apply Kd.R_drewN | apply Kd.R_drew)); exact HO465.out))) (below_size (by repeat (first | (with_reducible first | exact HB.out | apply below_alloc | apply pw_below_drewN | apply below_drew1 | refine below_set ?_ GA.out | refine below_set ?_ GD.out) | exact HB.out)))); have n5_ := Aside0.mk (blk_below (g := gA) (o := .cells #[.string ⟨#[92, 116]⟩, .string ⟨#[10]⟩, .string ⟨#[1]⟩, .string ⟨#[127]⟩, .string ⟨#[255]⟩] 34 (0, 0)) (by exact BA.out) hb); have n6_ := Aside0.mk (blk_below (g := gB) (o := .cells #[.int .i64 13, .int .i64 12, .int .i64 11, .int .i64 11, .int .i64 10] 35 (0, 0)) (by exact BB.out) hb); have n7_ := Aside0.mk (below_step (by repeat (first | (with_reducible first | exact HB.out | apply below_alloc | apply pw_below_drewN | apply below_drew1 | refine below_set ?_ GA.out | refine below_set ?_ GD.out) | exact HB.out)) hb); clear HO_8; clear H9; clear HO462; clear HO465; clear BA; clear BB; clear HB; have HO_8 := n0_; have H9 := n1_; have HO462 := n2_; have HO465 := n3_; have HO470 := n4_; have BA := n5_; have BB := n6_; have HB := n7_; clear n0_ n1_ n2_ n3_ n4_ n5_ n6_ n7_; (try clear hb); (try clear hb2); (try clear hk); (try clear hi); (try clear ho0)))
           (try simp only [Act.put, List.setIfInBounds_toArray, List.set_cons_zero, List.set_cons_succ])
           go_cut [6] (fun v6 wc => ∃ (kq : Nat) (x6_57 : Bool), v6 = .bool x6_57 ∧ Aside0 (tmesislaw04_QuoteFirst.j2 kq x6_57 = some r) ∧ Aside0 (kq ≤ kj6) ∧ Aside0 (wc.heap[gA]? = some (.cells #[.string ⟨#[92, 116]⟩, .string ⟨#[10]⟩, .string ⟨#[1]⟩, .string ⟨#[127]⟩, .string ⟨#[255]⟩] 34 (0, 0))) ∧ Aside0 (wc.heap[gB]? = some (.cells #[.int .i64 13, .int .i64 12, .int .i64 11, .int .i64 11, .int .i64 10] 35 (0, 0))) ∧ Aside0 (Below w.heap.size w wc))
           case first =>
            have H := HC58.out
            clear HC58
            by_cases c77 : t419 = true
            ·subst c77
             have H1 : (if (t466.length : Int) = 0 then (if t467 = (ji17) then (tmesislaw04_QuoteFirst.j2 kj6 (t468 == 12)) else (tmesislaw04_QuoteFirst.j2 kj6 false)) else (tmesislaw04_QuoteFirst.j2 kj6 false)) = some r := by rw [if_pos rfl] at H; exact H
             clear H
             have H := H1
             clear H1
             by_cases c78 : (t466.length : Int) = 0
             ·rw [if_pos c78] at H
              have c78b0 : ((t466.length : Int) == 0) = true := beq_iff_eq.mpr c78
              have c78b1 : ((t466.length : Int) != 0) = false := bne_eq_false_iff_eq.mpr c78
              clear c78
              (first | rw [c78b0] | (simp only [i64_w, i32_w]; rw [c78b0]) | skip)
              by_cases c79 : t467 = (ji17)
              ·rw [if_pos c79] at H
               have c79b0 : (t467 == (ji17)) = true := beq_iff_eq.mpr c79
               have c79b1 : (t467 != (ji17)) = false := bne_eq_false_iff_eq.mpr c79
               clear c79
               have H' := Aside0.mk H
               clear H
               obtain ⟨Ao80, co80, eo80⟩ := Kd.R_slice HO470.out
               subst eo80
               have hnb81 := NC.out
               have hnc81 := NA.out
               have hcz82_0 : w76.cell? ⟨gB, 0, none⟩ = some (.int .i64 13) := (blk_cell BB.out 0).trans rfl
               have hcz82_1 : w76.cell? ⟨gB, 1, none⟩ = some (.int .i64 12) := (blk_cell BB.out 1).trans rfl
               have hcz82_2 : w76.cell? ⟨gB, 2, none⟩ = some (.int .i64 11) := (blk_cell BB.out 2).trans rfl
               have hcz82_3 : w76.cell? ⟨gB, 3, none⟩ = some (.int .i64 11) := (blk_cell BB.out 3).trans rfl
               have hcz82_4 : w76.cell? ⟨gB, 4, none⟩ = some (.int .i64 10) := (blk_cell BB.out 4).trans rfl
               have hfz82_0 := blk_frozen BB.out 0
               have hfz82_1 := blk_frozen BB.out 1
               have hfz82_2 := blk_frozen BB.out 2
               have hfz82_3 := blk_frozen BB.out 3
               have hfz82_4 := blk_frozen BB.out 4
               go_wp2
               go_meet
               case rel => exact ⟨_, ((t468 == 12)), (by first | rfl | (simp; done) | (simp [*]; done)), H', ⟨by have := HJ6.out; first | omega | exact Nat.le_refl _⟩, ⟨by exact BA.out⟩, ⟨by exact BB.out⟩, ⟨by repeat (first | (with_reducible first | exact HB.out | apply below_alloc | apply pw_below_drewN | apply below_drew1 | refine below_set ?_ GA.out | refine below_set ?_ GD.out) | exact HB.out)⟩⟩
              ·rw [if_neg c79] at H
               have c79b0 : (t467 == (ji17)) = false := beq_eq_false_iff_ne.mpr c79
               have c79b1 : (t467 != (ji17)) = true := bne_iff_ne.mpr c79
               have H' := Aside0.mk H
               clear H
               obtain ⟨Ao83, co83, eo83⟩ := Kd.R_slice HO470.out
               subst eo83
               go_wp2
               go_meet
               case rel => exact ⟨_, (false), (by first | rfl | (simp; done) | (simp [*]; done)), H', ⟨by have := HJ6.out; first | omega | exact Nat.le_refl _⟩, ⟨by exact BA.out⟩, ⟨by exact BB.out⟩, ⟨by repeat (first | (with_reducible first | exact HB.out | apply below_alloc | apply pw_below_drewN | apply below_drew1 | refine below_set ?_ GA.out | refine below_set ?_ GD.out) | exact HB.out)⟩⟩
             ·rw [if_neg c78] at H
              have c78b0 : ((t466.length : Int) == 0) = false := beq_eq_false_iff_ne.mpr c78
              have c78b1 : ((t466.length : Int) != 0) = true := bne_iff_ne.mpr c78
              have c78b2 : ¬ (t466 = []) := fun h_ => c78 (by rw [h_]; rfl)
              (first | rw [c78b0] | (simp only [i64_w, i32_w]; rw [c78b0]) | skip)
              have H' := Aside0.mk H
              clear H
              obtain ⟨Ao84, co84, eo84⟩ := Kd.R_slice HO470.out
              subst eo84
              go_wp2
              go_meet
              case rel => exact ⟨_, (false), (by first | rfl | (simp; done) | (simp [*]; done)), H', ⟨by have := HJ6.out; first | omega | exact Nat.le_refl _⟩, ⟨by exact BA.out⟩, ⟨by exact BB.out⟩, ⟨by repeat (first | (with_reducible first | exact HB.out | apply below_alloc | apply pw_below_drewN | apply below_drew1 | refine below_set ?_ GA.out | refine below_set ?_ GD.out) | exact HB.out)⟩⟩
            ·replace c77 := Bool.eq_false_iff.mpr c77
             subst c77
             have H1 : (tmesislaw04_QuoteFirst.j2 kj6 false) = some r := by rw [if_neg (show ¬ (false = true) by decide)] at H; exact H
             clear H
             have H := H1
             clear H1
             have H' := Aside0.mk H
             clear H
             go_wp2
             go_meet
             case rel => exact ⟨_, (false), (by first | rfl | (simp; done) | (simp [*]; done)), H', ⟨by have := HJ6.out; first | omega | exact Nat.le_refl _⟩, ⟨by exact BA.out⟩, ⟨by exact BB.out⟩, ⟨by repeat (first | (with_reducible first | exact HB.out | apply below_alloc | apply pw_below_drewN | apply below_drew1 | refine below_set ?_ GA.out | refine below_set ?_ GD.out) | exact HB.out)⟩⟩
           case rest =>
            clear HC58
            (try clear c1); (try clear c2); (try clear p2); (try clear c3); (try clear q3); (try clear c4); (try clear c5); (try clear c6); (try clear p6); (try clear q6); (try clear c7); (try clear c8); (try clear c9); (try clear c10); (try clear c12); (try clear c12b0); (try clear c12b1); (try clear c15); (try clear c15b0); (try clear c15b1); (try clear c18); (try clear c18b0); (try clear c18b1); (try clear c19); (try clear c19b0); (try clear c19b1); (try clear c20); (try clear c21); (try clear c21b0); (try clear c21b1); (try clear c22); (try clear c24); (try clear c31); (try clear q35); (try clear c45); (try clear c46); (try clear c46b0); (try clear c46b1); (try clear c46b2); (try clear c47); (try clear c47b0); (try clear c47b1); (try clear c49); (try clear c53); (try clear c53b0); (try clear c53b1); (try clear c54); (try clear c56); (try clear c63); (try clear q67); (try clear c77); (try clear c78); (try clear c78b0); (try clear c78b1); (try clear c78b2); (try clear c79); (try clear c79b0); (try clear c79b1); (try clear c81); (try clear p2); (try clear p6); (try clear q3); (try clear q35); (try clear q67)
            obtain ⟨kq, x6_57, rfl, HA, HJ57, BA, BB, HB⟩ := hcut
            cases kq with
            | zero => exact absurd HA.out (by simp [tmesislaw04_QuoteFirst.j2])
            | succ kj57 =>
             have H := HA.out
             clear HA
             simp only [tmesislaw04_QuoteFirst.j2] at H
             obtain rfl := Option.some.inj H
             go_wp2
             go_ret
             exact ⟨by first | rfl | (simp [errW_none, errW_some] <;> rfl) | (simp only [← hji17]; first | rfl | (simp [errW_none, errW_some] <;> rfl)) | (simp [*, errW_none, errW_some] <;> rfl), by repeat (first | (with_reducible first | exact HB.out | apply below_alloc | apply pw_below_drewN | apply below_drew1 | refine below_set ?_ GA.out | refine below_set ?_ GD.out) | exact HB.out)⟩
          ·rw [if_neg c56] at H
           exact absurd H (by simp)
         ·rw [if_neg c54] at H
          exact absurd H (by simp)
        ·rw [if_neg c53] at H
         have c53b0 : ((Int.tmod a1 5) == 1) = false := beq_eq_false_iff_ne.mpr c53
         have c53b1 : ((Int.tmod a1 5) != 1) = true := bne_iff_ne.mpr c53
         by_cases c85 : (Int.tmod a1 5) = 2
         ·rw [if_pos c85] at H
          have c85b0 : ((Int.tmod a1 5) == 2) = true := beq_iff_eq.mpr c85
          have c85b1 : ((Int.tmod a1 5) != 2) = false := bne_eq_false_iff_eq.mpr c85
          have hixc85 : (Int.tmod a1 5) = 2 := c85
          clear c85
          by_cases c86 : y440.length + 1 < 140737488355328
          ·rw [if_pos c86] at H
           have LMc86 := Aside0.mk c86
           clear c86
           obtain ⟨y471, hy471⟩ : ∃ y_ : List Int, y_ = (y440 ++ bytesOf (⟨#[1]⟩ : ByteArray)) := ⟨_, rfl⟩
           replace H : ((tmesislaw04_few.f l2).bind fun t474 => (if y471.length + t474.length < 140737488355328 then ((quote_Take.f kj6 (y471 ++ t474)).bind fun bt480 => (if t419 = true then (if (bt480.1.length : Int) = 0 then (if bt480.2.1 = (ji17) then (tmesislaw04_QuoteFirst.j3 kj6 (bt480.2.2 == 11)) else (tmesislaw04_QuoteFirst.j3 kj6 false)) else (tmesislaw04_QuoteFirst.j3 kj6 false)) else (tmesislaw04_QuoteFirst.j3 kj6 false))) else (none))) = some r := by first | (rw [hy471]; with_reducible exact H) | (have H2_ := (Option.bind_some _ _).symm.trans H; rw [hy471]; with_reducible exact H2_) | (have H2_ := (Option.bind_some _ _).symm.trans H; with_reducible exact H2_) | with_reducible exact H | (rw [hy471]; exact H) | exact H
           have Ny471 := Aside0.mk hy471
           clear hy471
           replace H := Option.bind_eq_some_iff.mp H
           obtain ⟨t474, A870, H⟩ := H
           replace H : (if y471.length + t474.length < 140737488355328 then ((quote_Take.f kj6 (y471 ++ t474)).bind fun bt480 => (if t419 = true then (if (bt480.1.length : Int) = 0 then (if bt480.2.1 = (ji17) then (tmesislaw04_QuoteFirst.j3 kj6 (bt480.2.2 == 11)) else (tmesislaw04_QuoteFirst.j3 kj6 false)) else (tmesislaw04_QuoteFirst.j3 kj6 false)) else (tmesislaw04_QuoteFirst.j3 kj6 false))) else (none)) = some r := H
           have A87 := Aside0.mk A870
           clear A870
           by_cases c88 : y471.length + t474.length < 140737488355328
           ·rw [if_pos c88] at H
            have LMc88 := Aside0.mk c88
            clear c88
            obtain ⟨y477, hy477⟩ : ∃ y_ : List Int, y_ = (y471 ++ t474) := ⟨_, rfl⟩
            replace H : ((quote_Take.f kj6 y477).bind fun bt480 => (if t419 = true then (if (bt480.1.length : Int) = 0 then (if bt480.2.1 = (ji17) then (tmesislaw04_QuoteFirst.j3 kj6 (bt480.2.2 == 11)) else (tmesislaw04_QuoteFirst.j3 kj6 false)) else (tmesislaw04_QuoteFirst.j3 kj6 false)) else (tmesislaw04_QuoteFirst.j3 kj6 false))) = some r := by first | (rw [hy477]; with_reducible exact H) | (have H2_ := (Option.bind_some _ _).symm.trans H; rw [hy477]; with_reducible exact H2_) | (have H2_ := (Option.bind_some _ _).symm.trans H; with_reducible exact H2_) | with_reducible exact H | (rw [hy477]; exact H) | exact H
            have Ny477 := Aside0.mk hy477
            clear hy477
            replace H := Option.bind_eq_some_iff.mp H
            obtain ⟨⟨t480, t481, t482⟩, A890, H⟩ := H
            replace H : (if t419 = true then (if (t480.length : Int) = 0 then (if t481 = (ji17) then (tmesislaw04_QuoteFirst.j3 kj6 (t482 == 11)) else (tmesislaw04_QuoteFirst.j3 kj6 false)) else (tmesislaw04_QuoteFirst.j3 kj6 false)) else (tmesislaw04_QuoteFirst.j3 kj6 false)) = some r := H
            have A89 := Aside0.mk A890
            clear A890
            have HC90 := Aside0.mk H
            clear H
            obtain ⟨Ao91, co91, eo91⟩ := Kd.V_slice HO_8.out
            subst eo91
            try go_wp2_with (first | ((with_reducible refine gate_dst (N := 10) rfl ?_); (try (refine gate_guard (by rfl) ?_; dsimp only)); refine box_event ?hg (N := 10) ?hd (cs := #[.string ⟨#[]⟩, .string ⟨#[]⟩, .string ⟨#[]⟩, .string ⟨#[]⟩, .string ⟨#[]⟩]) (t := 34) ?hr ?_; (case hd => rfl); (case hg => rfl); (case hr => first | (go_simp; done) | (go_simp; rfl)); intro gA hg w92 hbox hb; have n0_ := Aside0.mk (Kd.V_below (Kd.V_elderB (by (with_reducible repeat (first | apply Kd.V_alloc | apply Kd.V_drewN | apply Kd.V_drew)); exact HO_8.out) gA (Nat.le_of_eq hg.symm)) hb); have n1_ := Aside0.mk (below_step (by repeat (first | (with_reducible first | exact HB.out | apply below_alloc | apply pw_below_drewN | apply below_drew1) | exact HB.out)) hb); have n2_ := Aside0.mk (hbox); have n3_ := Aside0.mk ((by rw [hg]; exact (below_size (by repeat (first | (with_reducible first | exact HB.out | apply below_alloc | apply pw_below_drewN | apply below_drew1) | exact HB.out))) : w.heap.size ≤ gA)); have n4_ := Aside0.mk ((by rw [hg]; exact (below_size (by repeat (first | (with_reducible first | exact HB.out | apply below_alloc | apply pw_below_drewN | apply below_drew1) | exact HB.out))) : w.heap.size ≤ gA)); clear HO_8; clear HB; have HO_8 := n0_; have HB := n1_; have BA := n2_; have GM := n3_; have GA := n4_; clear n0_ n1_ n2_ n3_ n4_; clear hb hbox hg; have hcz93_0 : w92.cell? ⟨gA, 0, none⟩ = some (.string ⟨#[]⟩) := (blk_cell BA.out 0).trans rfl; have hcz93_1 : w92.cell? ⟨gA, 1, none⟩ = some (.string ⟨#[]⟩) := (blk_cell BA.out 1).trans rfl; have hcz93_2 : w92.cell? ⟨gA, 2, none⟩ = some (.string ⟨#[]⟩) := (blk_cell BA.out 2).trans rfl; have hcz93_3 : w92.cell? ⟨gA, 3, none⟩ = some (.string ⟨#[]⟩) := (blk_cell BA.out 3).trans rfl; have hcz93_4 : w92.cell? ⟨gA, 4, none⟩ = some (.string ⟨#[]⟩) := (blk_cell BA.out 4).trans rfl; have hfz93_0 := blk_frozen BA.out 0; have hfz93_1 := blk_frozen BA.out 1; have hfz93_2 := blk_frozen BA.out 2; have hfz93_3 := blk_frozen BA.out 3; have hfz93_4 := blk_frozen BA.out 4) | ((with_reducible refine gate_dst (N := 11) rfl ?_); (try (refine gate_guard (by rfl) ?_; dsimp only)); refine box_event ?hg (N := 11) ?hd (cs := #[.int .i64 0, .int .i64 0, .int .i64 0, .int .i64 0, .int .i64 0]) (t := 35) ?hr ?_; (case hd => rfl); (case hg => rfl); (case hr => first | (go_simp; done) | (go_simp; rfl)); intro gB hg w94 hbox hb; have n0_ := Aside0.mk (Kd.V_below (Kd.V_elderB (by (with_reducible repeat (first | apply Kd.V_alloc | apply Kd.V_drewN | apply Kd.V_drew)); exact (Kd.V_mono (Kd.V_far (p := ⟨gA, 4, none⟩) (Kd.V_far (p := ⟨gA, 3, none⟩) (Kd.V_far (p := ⟨gA, 2, none⟩) (Kd.V_far (p := ⟨gA, 1, none⟩) (Kd.V_far (p := ⟨gA, 0, none⟩) (Kd.V_mono HO_8.out (fun k_ hk => (⟨hk, hk.2⟩ : _ ∧ k_ ≠ gA))) (fun _ hk => hk.2) (.string ⟨#[92, 116]⟩)) (fun _ hk => hk.2) (.string ⟨#[10]⟩)) (fun _ hk => hk.2) (.string ⟨#[1]⟩)) (fun _ hk => hk.2) (.string ⟨#[127]⟩)) (fun _ hk => hk.2) (.string ⟨#[255]⟩)) (fun _ h_ => h_.1))) gB (Nat.le_of_eq hg.symm)) hb); have n1_ := Aside0.mk (blk_below (g := gA) (o := .cells #[.string ⟨#[92, 116]⟩, .string ⟨#[10]⟩, .string ⟨#[1]⟩, .string ⟨#[127]⟩, .string ⟨#[255]⟩] 34 (0, 0)) (by refine blk_put (cs := #[.string ⟨#[92, 116]⟩, .string ⟨#[10]⟩, .string ⟨#[1]⟩, .string ⟨#[127]⟩, .string ⟨#[]⟩]) ?_ 4 _ rfl; refine blk_put (cs := #[.string ⟨#[92, 116]⟩, .string ⟨#[10]⟩, .string ⟨#[1]⟩, .string ⟨#[]⟩, .string ⟨#[]⟩]) ?_ 3 _ rfl; refine blk_put (cs := #[.string ⟨#[92, 116]⟩, .string ⟨#[10]⟩, .string ⟨#[]⟩, .string ⟨#[]⟩, .string ⟨#[]⟩]) ?_ 2 _ rfl; refine blk_put (cs := #[.string ⟨#[92, 116]⟩, .string ⟨#[]⟩, .string ⟨#[]⟩, .string ⟨#[]⟩, .string ⟨#[]⟩]) ?_ 1 _ rfl; refine blk_put (cs := #[.string ⟨#[]⟩, .string ⟨#[]⟩, .string ⟨#[]⟩, .string ⟨#[]⟩, .string ⟨#[]⟩]) ?_ 0 _ rfl; exact BA.out) hb); have n2_ := Aside0.mk (below_step (by repeat (first | (with_reducible first | exact HB.out | apply below_alloc | apply pw_below_drewN | apply below_drew1 | refine below_set ?_ GA.out) | exact HB.out)) hb); have n3_ := Aside0.mk (hbox); have n4_ := Aside0.mk ((by rw [hg]; exact (below_size (by repeat (first | (with_reducible first | exact HB.out | apply below_alloc | apply pw_below_drewN | apply below_drew1 | refine below_set ?_ GA.out) | exact HB.out))) : w.heap.size ≤ gB)); have n5_ := Aside0.mk ((by rw [hg]; exact (below_size (by repeat (first | (with_reducible first | exact HB.out | apply below_alloc | apply pw_below_drewN | apply below_drew1 | refine below_set ?_ GA.out) | exact HB.out))) : w.heap.size ≤ gB)); have n6_ := Aside0.mk ((by rw [hg]; exact Nat.ne_of_lt (blk_lt (g := gA) (o := .cells #[.string ⟨#[92, 116]⟩, .string ⟨#[10]⟩, .string ⟨#[1]⟩, .string ⟨#[127]⟩, .string ⟨#[255]⟩] 34 (0, 0)) (by refine blk_put (cs := #[.string ⟨#[92, 116]⟩, .string ⟨#[10]⟩, .string ⟨#[1]⟩, .string ⟨#[127]⟩, .string ⟨#[]⟩]) ?_ 4 _ rfl; refine blk_put (cs := #[.string ⟨#[92, 116]⟩, .string ⟨#[10]⟩, .string ⟨#[1]⟩, .string ⟨#[]⟩, .string ⟨#[]⟩]) ?_ 3 _ rfl; refine blk_put (cs := #[.string ⟨#[92, 116]⟩, .string ⟨#[10]⟩, .string ⟨#[]⟩, .string ⟨#[]⟩, .string ⟨#[]⟩]) ?_ 2 _ rfl; refine blk_put (cs := #[.string ⟨#[92, 116]⟩, .string ⟨#[]⟩, .string ⟨#[]⟩, .string ⟨#[]⟩, .string ⟨#[]⟩]) ?_ 1 _ rfl; refine blk_put (cs := #[.string ⟨#[]⟩, .string ⟨#[]⟩, .string ⟨#[]⟩, .string ⟨#[]⟩, .string ⟨#[]⟩]) ?_ 0 _ rfl; exact BA.out)) : gA ≠ gB)); have n7_ := Aside0.mk ((by rw [hg]; exact Nat.ne_of_gt (blk_lt (g := gA) (o := .cells #[.string ⟨#[92, 116]⟩, .string ⟨#[10]⟩, .string ⟨#[1]⟩, .string ⟨#[127]⟩, .string ⟨#[255]⟩] 34 (0, 0)) (by refine blk_put (cs := #[.string ⟨#[92, 116]⟩, .string ⟨#[10]⟩, .string ⟨#[1]⟩, .string ⟨#[127]⟩, .string ⟨#[]⟩]) ?_ 4 _ rfl; refine blk_put (cs := #[.string ⟨#[92, 116]⟩, .string ⟨#[10]⟩, .string ⟨#[1]⟩, .string ⟨#[]⟩, .string ⟨#[]⟩]) ?_ 3 _ rfl; refine blk_put (cs := #[.string ⟨#[92, 116]⟩, .string ⟨#[10]⟩, .string ⟨#[]⟩, .string ⟨#[]⟩, .string ⟨#[]⟩]) ?_ 2 _ rfl; refine blk_put (cs := #[.string ⟨#[92, 116]⟩, .string ⟨#[]⟩, .string ⟨#[]⟩, .string ⟨#[]⟩, .string ⟨#[]⟩]) ?_ 1 _ rfl; refine blk_put (cs := #[.string ⟨#[]⟩, .string ⟨#[]⟩, .string ⟨#[]⟩, .string ⟨#[]⟩, .string ⟨#[]⟩]) ?_ 0 _ rfl; exact BA.out)) : gB ≠ gA)); clear HO_8; clear BA; clear HB; have HO_8 := n0_; have BA := n1_; have HB := n2_; have BB := n3_; have GN := n4_; have GD := n5_; have NA := n6_; have NC := n7_; clear n0_ n1_ n2_ n3_ n4_ n5_ n6_ n7_; clear hb hbox hg; have hnb95 := NC.out; have hnc95 := NA.out; have hcz96_0 : w94.cell? ⟨gB, 0, none⟩ = some (.int .i64 0) := (blk_cell BB.out 0).trans rfl; have hcz96_1 : w94.cell? ⟨gB, 1, none⟩ = some (.int .i64 0) := (blk_cell BB.out 1).trans rfl; have hcz96_2 : w94.cell? ⟨gB, 2, none⟩ = some (.int .i64 0) := (blk_cell BB.out 2).trans rfl; have hcz96_3 : w94.cell? ⟨gB, 3, none⟩ = some (.int .i64 0) := (blk_cell BB.out 3).trans rfl; have hcz96_4 : w94.cell? ⟨gB, 4, none⟩ = some (.int .i64 0) := (blk_cell BB.out 4).trans rfl; have hfz96_0 := blk_frozen BB.out 0; have hfz96_1 := blk_frozen BB.out 1; have hfz96_2 := blk_frozen BB.out 2; have hfz96_3 := blk_frozen BB.out 3; have hfz96_4 := blk_frozen BB.out 4))
            have n0_ : Aside0 (Kd.V (Kd.int .u8) 5 (((((w94.setCell ⟨gB, 0, none⟩ (.int .i64 13)).setCell ⟨gB, 1, none⟩ (.int .i64 12)).setCell ⟨gB, 2, none⟩ (.int .i64 11)).setCell ⟨gB, 3, none⟩ (.int .i64 11)).setCell ⟨gB, 4, none⟩ (.int .i64 10)) w.heap.size (fun k_ => k_ ≠ gA ∧ k_ ≠ gB) (.slice Ao91 x8_6.length co91) x8_6) := ⟨by (with_reducible repeat (first | apply Kd.V_alloc | apply Kd.V_drewN | apply Kd.V_drew)); exact Kd.V_mono (Kd.V_far (p := ⟨gB, 4, none⟩) (Kd.V_far (p := ⟨gB, 3, none⟩) (Kd.V_far (p := ⟨gB, 2, none⟩) (Kd.V_far (p := ⟨gB, 1, none⟩) (Kd.V_far (p := ⟨gB, 0, none⟩) (Kd.V_mono HO_8.out (fun k_ hk => (⟨hk, hk.2⟩ : _ ∧ k_ ≠ gB))) (fun _ hk => hk.2) (.int .i64 13)) (fun _ hk => hk.2) (.int .i64 12)) (fun _ hk => hk.2) (.int .i64 11)) (fun _ hk => hk.2) (.int .i64 11)) (fun _ hk => hk.2) (.int .i64 10)) (fun _ hk => ⟨hk.1.1.2, hk.1.2⟩)⟩
            have n1_ : Aside0 ((((((w94.setCell ⟨gB, 0, none⟩ (.int .i64 13)).setCell ⟨gB, 1, none⟩ (.int .i64 12)).setCell ⟨gB, 2, none⟩ (.int .i64 11)).setCell ⟨gB, 3, none⟩ (.int .i64 11)).setCell ⟨gB, 4, none⟩ (.int .i64 10)).heap[gA]? = some (.cells #[.string ⟨#[92, 116]⟩, .string ⟨#[10]⟩, .string ⟨#[1]⟩, .string ⟨#[127]⟩, .string ⟨#[255]⟩] 34 (0, 0))) := ⟨by (with_reducible repeat (first | apply blk_drewN | apply blk_drew | apply blk_alloc | refine blk_far ?_ NA.out _)); exact BA.out⟩
            have n2_ : Aside0 ((((((w94.setCell ⟨gB, 0, none⟩ (.int .i64 13)).setCell ⟨gB, 1, none⟩ (.int .i64 12)).setCell ⟨gB, 2, none⟩ (.int .i64 11)).setCell ⟨gB, 3, none⟩ (.int .i64 11)).setCell ⟨gB, 4, none⟩ (.int .i64 10)).heap[gB]? = some (.cells #[.int .i64 13, .int .i64 12, .int .i64 11, .int .i64 11, .int .i64 10] 35 (0, 0))) := ⟨by refine blk_put (cs := #[.int .i64 13, .int .i64 12, .int .i64 11, .int .i64 11, .int .i64 0]) ?_ 4 _ rfl; refine blk_put (cs := #[.int .i64 13, .int .i64 12, .int .i64 11, .int .i64 0, .int .i64 0]) ?_ 3 _ rfl; refine blk_put (cs := #[.int .i64 13, .int .i64 12, .int .i64 0, .int .i64 0, .int .i64 0]) ?_ 2 _ rfl; refine blk_put (cs := #[.int .i64 13, .int .i64 0, .int .i64 0, .int .i64 0, .int .i64 0]) ?_ 1 _ rfl; refine blk_put (cs := #[.int .i64 0, .int .i64 0, .int .i64 0, .int .i64 0, .int .i64 0]) ?_ 0 _ rfl; exact BB.out⟩
            have n3_ : Aside0 (Below w.heap.size w (((((w94.setCell ⟨gB, 0, none⟩ (.int .i64 13)).setCell ⟨gB, 1, none⟩ (.int .i64 12)).setCell ⟨gB, 2, none⟩ (.int .i64 11)).setCell ⟨gB, 3, none⟩ (.int .i64 11)).setCell ⟨gB, 4, none⟩ (.int .i64 10))) := ⟨by repeat (first | (with_reducible first | exact HB.out | apply below_alloc | apply pw_below_drewN | apply below_drew1 | refine below_set ?_ GA.out | refine below_set ?_ GD.out) | exact HB.out)⟩
            (try clear HO_8)
            (try clear BA)
            (try clear BB)
            (try clear HB)
            generalize (((((w94.setCell ⟨gB, 0, none⟩ (.int .i64 13)).setCell ⟨gB, 1, none⟩ (.int .i64 12)).setCell ⟨gB, 2, none⟩ (.int .i64 11)).setCell ⟨gB, 3, none⟩ (.int .i64 11)).setCell ⟨gB, 4, none⟩ (.int .i64 10)) = w97 at n0_ n1_ n2_ n3_ ⊢
            have HO_8 := n0_
            have BA := n1_
            have BB := n2_
            have HB := n3_
            clear n0_ n1_ n2_ n3_
            have n0_ := Aside0.mk (Kd.V_drew HO_8.out)
            have n1_ := Aside0.mk (blk_drew BA.out)
            have n2_ := Aside0.mk (blk_drew BB.out)
            have n3_ := Aside0.mk (below_drew1 HB.out)
            clear HO_8
            clear BA
            clear BB
            clear HB
            have HO_8 := n0_
            have BA := n1_
            have BB := n2_
            have HB := n3_
            clear n0_ n1_ n2_ n3_
            have q99 : ((ji17) : Int) ≤ ((x8_6.length : Int) : Int) := of_decide_eq_true (by first | (with_reducible assumption) | assumption)
            obtain ⟨i099, hi099, _, hsz99, _⟩ := info_parts info5
            have hroom99 : x8_6.length ≤ co91 := (Kd.V_reads' HO_8.out).2.1
            have hC99 : Kd.F (Kd.int .u8) _ _ Ao91 x8_6.length x8_6 := (Kd.V_at (base := w.heap.size) HO_8.out).2.2
            have hcut99 := cut_to (P := Tryd.prog) 22 5 .i64 Tryd.underlying22 hi099 Ao91 x8_6.length co91 (ji17) (of_decide_eq_true (by first | (with_reducible assumption) | assumption)) q99 hroom99
            have hr99 := Kd.F_take (m := ((ji17) : Int).toNat) hC99 (by omega)
            have hy99 : y435.length = ((ji17) : Int).toNat := (by rw [Ny435.out, List.length_take]; omega)
            rw [← Ny435.out] at hr99
            rw [← hy99] at hcut99
            have H9 := Aside0.mk (show Kd.V (Kd.int .u8) 5 _ w.heap.size _ (.slice Ao91 y435.length co91) y435 from Kd.V_mk (by omega) hr99)
            have HC439 := Aside0.mk (show y435.length ≤ co91 from by omega)
            clear hr99 hC99 hroom99 hi099 hsz99
            have KY99 := Aside0.mk hy99
            clear hy99
            replace q99 := eq_true q99
            refine start_ (n := 15) (S := fun w' => w'.cell? ⟨gA, 0, none⟩ = some (.string ⟨#[92, 116]⟩) ∧ w'.cell? ⟨gA, 1, none⟩ = some (.string ⟨#[10]⟩) ∧ w'.cell? ⟨gA, 2, none⟩ = some (.string ⟨#[1]⟩) ∧ w'.cell? ⟨gA, 3, none⟩ = some (.string ⟨#[127]⟩) ∧ w'.cell? ⟨gA, 4, none⟩ = some (.string ⟨#[255]⟩)) (ds := []) #[false, false, false, false, false, false, false, false, false, false, false, false, false, false, false] (by kernel_rfl) rfl rfl ⟨(blk_cell BA.out 0).trans rfl, (blk_cell BA.out 1).trans rfl, (blk_cell BA.out 2).trans rfl, (blk_cell BA.out 3).trans rfl, (blk_cell BA.out 4).trans rfl⟩ (fun hHeld => ?_); refine with_tabW tmesislaw04_QuoteFirst.tab10 tmesislaw04_QuoteFirst.bits10 (fun HT_ HW_ => ?_)
            generalize w97.drew = w98 at HO_8 BA BB HB H9 hHeld ⊢
            refine pure_ (i := 1) (N := some 36) (v := ?_) (a' := ?_) #[false, true, false, false, false, false, false, false, false, false, false, false, false, false, false] rfl rfl (any_of HT_.out (by kernel_rfl)) (fun _ _ _ h => h) (Or.inl ⟨by rfl, ?_⟩) ?_ ?_
            rotate_left
            ·intro w'
             go_simp
             with_reducible rfl
            rotate_left
            ·simp only [Act.put, List.setIfInBounds_toArray, List.set_cons_zero, List.set_cons_succ, i64_w, i32_w]
             rfl
            refine pure_ (i := 2) (N := some 37) (v := ?_) (a' := ?_) #[false, true, true, false, false, false, false, false, false, false, false, false, false, false, false] rfl rfl (any_of HT_.out (by kernel_rfl)) (fun _ _ _ h => h) (Or.inl ⟨by rfl, ?_⟩) ?_ ?_
            rotate_left
            ·intro w'
             go_simp
             with_reducible rfl
            rotate_left
            ·simp only [Act.put, List.setIfInBounds_toArray, List.set_cons_zero, List.set_cons_succ, i64_w, i32_w]
             rfl
            refine pure_ (i := 3) (N := some 38) (v := ?_) (a' := ?_) #[false, true, true, true, false, false, false, false, false, false, false, false, false, false, false] rfl rfl (any_of HT_.out (by kernel_rfl)) (fun _ _ _ h => h) (Or.inl ⟨by rfl, ?_⟩) ?_ ?_
            rotate_left
            ·intro w'
             go_simp
             with_reducible rfl
            rotate_left
            ·simp only [Act.put, List.setIfInBounds_toArray, List.set_cons_zero, List.set_cons_succ, i64_w, i32_w]
             rfl
            refine pure_ (i := 4) (N := some 39) (v := ?_) (a' := ?_) #[false, true, true, true, true, false, false, false, false, false, false, false, false, false, false] rfl rfl (any_of HT_.out (by kernel_rfl)) (fun _ _ _ h => h) (Or.inl ⟨by rfl, ?_⟩) ?_ ?_
            rotate_left
            ·intro w'
             go_simp
             with_reducible rfl
            rotate_left
            ·simp only [Act.put, List.setIfInBounds_toArray, List.set_cons_zero, List.set_cons_succ, i64_w, i32_w]
             rfl
            refine pure_ (i := 5) (N := some 40) (v := ?_) (a' := ?_) #[false, true, true, true, true, true, false, false, false, false, false, false, false, false, false] rfl rfl (any_of HT_.out (by kernel_rfl)) (fun _ _ _ h => h) (Or.inl ⟨by rfl, ?_⟩) ?_ ?_
            rotate_left
            ·intro w'
             go_simp
             with_reducible rfl
            rotate_left
            ·simp only [Act.put, List.setIfInBounds_toArray, List.set_cons_zero, List.set_cons_succ, i64_w, i32_w]
             rfl
            refine pure_ (i := 7) (N := some 42) (v := ?_) (a' := ?_) #[false, true, true, true, true, true, false, true, false, false, false, false, false, false, false] rfl rfl (any_of HT_.out (by kernel_rfl)) (fun _ _ _ h => h) (Or.inl ⟨by rfl, ?_⟩) ?_ ?_
            rotate_left
            ·intro w'
             go_simp
             with_reducible rfl
            rotate_left
            ·simp only [Act.put, List.setIfInBounds_toArray, List.set_cons_zero, List.set_cons_succ, i64_w, i32_w]
             rfl
            refine pure_ (i := 8) (N := some 43) (v := ?_) (a' := ?_) #[false, true, true, true, true, true, false, true, true, false, false, false, false, false, false] rfl rfl (any_of HT_.out (by kernel_rfl)) (fun _ _ _ h => h) (Or.inl ⟨by rfl, ?_⟩) ?_ ?_
            rotate_left
            ·intro w'
             go_simp
             with_reducible rfl
            rotate_left
            ·simp only [Act.put, List.setIfInBounds_toArray, List.set_cons_zero, List.set_cons_succ, i64_w, i32_w]
             rfl
            refine pure_ (i := 11) (N := some 46) (v := ?_) (a' := ?_) #[false, true, true, true, true, true, false, true, true, false, false, true, false, false, false] rfl rfl (any_of HT_.out (by kernel_rfl)) (fun _ _ _ h => h) (Or.inl ⟨by rfl, ?_⟩) ?_ ?_
            rotate_left
            ·intro w'
             go_simp
             with_reducible rfl
            rotate_left
            ·simp only [Act.put, List.setIfInBounds_toArray, List.set_cons_zero, List.set_cons_succ, i64_w, i32_w]
             rfl
            refine take_ (i := 9) (N := some 44) (v := ?_) (a' := ?_) #[false, true, true, true, true, true, false, true, true, true, false, true, false, false, false] rfl rfl (take_ofW HT_.out HW_.out (by kernel_rfl)) (fun _ _ _ h => h) (Or.inl ⟨by rfl, ?_⟩) hHeld ?_ ?_
            rotate_left
            ·rintro w' ⟨s0, s1, s2, s3, s4⟩
             go_simp
             with_reducible rfl
            rotate_left
            ·simp only [Act.put, List.setIfInBounds_toArray, List.set_cons_zero, List.set_cons_succ, i64_w, i32_w]
             rfl
            refine one_ (i := 0) (N := some 35) #[true, true, true, true, true, true, false, true, true, true, false, true, false, false, false] rfl rfl (one_of HT_.out (by kernel_rfl)) (by decide) (fun K hK => ?_)
            refine Kd.R_lit_step (Kd.int .u8) _ 5 ?hg (N := 35) ?hd (xs := ([] : List Int)) (inner := []) (ok := fun _ => True) (okp := fun _ => True) ?hr ?hp (fun _ hk => hk) trivial (Below.refl _ _) (Nat.le_refl _) (by simp) ?_; (case hd => rfl); (case hg => rfl); (case hr => first | (go_simp; done) | (go_simp; rfl)); (case hp => exact (Reps.none _ _))
            intro v433 w100 ho101 hb hg_ hnew_
            clear hg_ hnew_
            (first | rw [← Ny432.out] at ho101 | (simp only [Int.reduceToNat] at ho101; rw [← Ny432.out] at ho101))
            have n0_ := Aside0.mk (Kd.V_elder' (by (with_reducible repeat (first | apply Kd.V_alloc | apply Kd.V_drewN | apply Kd.V_drew)); exact HO_8.out) (Kd.R_base ho101) hb)
            have n1_ := Aside0.mk (Kd.V_elder' (by (with_reducible repeat (first | apply Kd.V_alloc | apply Kd.V_drewN | apply Kd.V_drew)); exact H9.out) (Kd.R_base ho101) hb)
            have n2_ := Aside0.mk (Kd.R_lower ho101 (below_size (by repeat (first | (with_reducible first | exact HB.out | apply below_alloc | apply pw_below_drewN | apply below_drew1 | refine below_set ?_ GA.out | refine below_set ?_ GD.out) | exact HB.out))))
            have n3_ := Aside0.mk (blk_below (g := gA) (o := .cells #[.string ⟨#[92, 116]⟩, .string ⟨#[10]⟩, .string ⟨#[1]⟩, .string ⟨#[127]⟩, .string ⟨#[255]⟩] 34 (0, 0)) (by exact BA.out) hb)
            have n4_ := Aside0.mk (blk_below (g := gB) (o := .cells #[.int .i64 13, .int .i64 12, .int .i64 11, .int .i64 11, .int .i64 10] 35 (0, 0)) (by exact BB.out) hb)
            have n5_ := Aside0.mk (below_step (by repeat (first | (with_reducible first | exact HB.out | apply below_alloc | apply pw_below_drewN | apply below_drew1 | refine below_set ?_ GA.out | refine below_set ?_ GD.out) | exact HB.out)) hb)
            clear HO_8
            clear H9
            clear BA
            clear BB
            clear HB
            have HO_8 := n0_
            have H9 := n1_
            have HO434 := n2_
            have BA := n3_
            have BB := n4_
            have HB := n5_
            clear n0_ n1_ n2_ n3_ n4_ n5_
            clear hb ho101
            refine hK.out _ _ ⟨(blk_cell BA.out 0).trans rfl, (blk_cell BA.out 1).trans rfl, (blk_cell BA.out 2).trans rfl, (blk_cell BA.out 3).trans rfl, (blk_cell BA.out 4).trans rfl⟩ (fun hHeld => ?_)
            clear hK K
            refine norm_ (a' := ?_) ?_ ?_
            rotate_left
            ·show Act.put _ (some 35) _ = _
             simp only [Act.put, List.setIfInBounds_toArray, List.set_cons_zero, List.set_cons_succ, i64_w, i32_w]
             rfl
            refine one_ (i := 6) (N := some 41) #[true, true, true, true, true, true, true, true, true, true, false, true, false, false, false] rfl rfl (one_of HT_.out (by kernel_rfl)) (by decide) (fun K hK => ?_)
            refine Kd.R_append_rows_step (Kd.int .u8) (w0 := w) w.heap.size (by rfl) (.tmp 35) (.tmp 40) 22 5 (.int .u8 0) 1 rfl Tryd.underlying22 info5 rfl (by decide) (by omega) v433 y432 y435 _ _ _ (fun _ => True) (fun _ => False) rfl rfl ?aO ?aR (fun _ _ h => h) (fun _ h => h.elim) ?aF ?aB ?aS ?aL ?_
            (case aR => repeat (first | exact (Kd.V_reads' H9.out).2.2 | (with_reducible refine Kd.C_alloc ?_ _) | (with_reducible refine Kd.C_drewN ?_ _) | (with_reducible refine Kd.C_drew ?_)))
            (case aB => exact (by repeat (first | (with_reducible first | exact HB.out | apply below_alloc | apply pw_below_drewN | apply below_drew1 | refine below_set ?_ GA.out | refine below_set ?_ GD.out) | exact HB.out)))
            (case aF => exact (fun _ _ => trivial))
            (case aO => exact (by (with_reducible repeat (first | apply Kd.R_alloc | apply Kd.R_drewN | apply Kd.R_drew)); exact HO434.out))
            (case aS => exact (below_size (by repeat (first | (with_reducible first | exact HB.out | apply below_alloc | apply pw_below_drewN | apply below_drew1 | refine below_set ?_ GA.out | refine below_set ?_ GD.out) | exact HB.out))))
            (case aL => have := LMc20.out; omega)
            intro v441 w102 ho hb hg hat
            rw [← Ny440.out] at ho
            have n0_ := Aside0.mk (Kd.V_afterv (ok := (fun k_ => k_ ≠ gA ∧ k_ ≠ gB)) (by (with_reducible repeat (first | apply Kd.V_alloc | apply Kd.V_drewN | apply Kd.V_drew)); exact HO_8.out) hg hat)
            have n1_ := Aside0.mk (blk_grown (g := gA) (o := .cells #[.string ⟨#[92, 116]⟩, .string ⟨#[10]⟩, .string ⟨#[1]⟩, .string ⟨#[127]⟩, .string ⟨#[255]⟩] 34 (0, 0)) (by exact BA.out) hg (Kd.R_ne HO434.out BA.out (by decide)))
            have n2_ := Aside0.mk (blk_grown (g := gB) (o := .cells #[.int .i64 13, .int .i64 12, .int .i64 11, .int .i64 11, .int .i64 10] 35 (0, 0)) (by exact BB.out) hg (Kd.R_ne HO434.out BB.out (by decide)))
            have n3_ := Aside0.mk (Kd.V_afterv (ok := (fun k_ => k_ ≠ gA ∧ k_ ≠ gB)) (by (with_reducible repeat (first | apply Kd.V_alloc | apply Kd.V_drewN | apply Kd.V_drew)); exact H9.out) hg hat)
            have n4_ := Aside0.mk (hb)
            have n5_ := Aside0.mk (ho)
            clear HO_8
            clear BA
            clear BB
            clear H9
            clear HB
            clear HO434
            have HO_8 := n0_
            have BA := n1_
            have BB := n2_
            have H9 := n3_
            have HB := n4_
            have HO442 := n5_
            clear n0_ n1_ n2_ n3_ n4_ n5_
            clear ho hb hg hat
            refine hK.out _ _ ⟨(blk_cell BA.out 0).trans rfl, (blk_cell BA.out 1).trans rfl, (blk_cell BA.out 2).trans rfl, (blk_cell BA.out 3).trans rfl, (blk_cell BA.out 4).trans rfl⟩ (fun hHeld => ?_)
            clear hK K
            refine norm_ (a' := ?_) ?_ ?_
            rotate_left
            ·show Act.put _ (some 41) _ = _
             simp only [Act.put, List.setIfInBounds_toArray, List.set_cons_zero, List.set_cons_succ, i64_w, i32_w]
             rfl
            refine one_ (i := 10) (N := some 45) #[true, true, true, true, true, true, true, true, true, true, true, true, false, false, false] rfl rfl (one_of HT_.out (by kernel_rfl)) (by decide) (fun K hK => ?_)
            refine R_append_str_step (w0 := w) w.heap.size (by rfl) (.tmp 41) _ 22 9 5 rfl Tryd.underlying22 Tryd.underlying9 info5 v441 y440 (⟨#[1]⟩ : ByteArray) (fun _ => True) rfl rfl ?aO ?aF ?aB ?aS ?aL ?_
            (case aB => exact (by repeat (first | (with_reducible first | exact HB.out | apply below_alloc | apply pw_below_drewN | apply below_drew1 | refine below_set ?_ GA.out | refine below_set ?_ GD.out) | exact HB.out)))
            (case aF => exact (fun _ _ => trivial))
            (case aO => exact (by (with_reducible repeat (first | apply Kd.R_alloc | apply Kd.R_drewN | apply Kd.R_drew)); exact HO442.out))
            (case aS => exact (below_size (by repeat (first | (with_reducible first | exact HB.out | apply below_alloc | apply pw_below_drewN | apply below_drew1 | refine below_set ?_ GA.out | refine below_set ?_ GD.out) | exact HB.out))))
            (case aL => have := LMc86.out; have zs_ : (⟨#[1]⟩ : ByteArray).size = 1 := rfl; omega)
            intro v472 w103 ho hb hg hat
            rw [← Ny471.out] at ho
            have n0_ := Aside0.mk (Kd.V_afterv (ok := (fun k_ => k_ ≠ gA ∧ k_ ≠ gB)) (by (with_reducible repeat (first | apply Kd.V_alloc | apply Kd.V_drewN | apply Kd.V_drew)); exact HO_8.out) hg hat)
            have n1_ := Aside0.mk (blk_grown (g := gA) (o := .cells #[.string ⟨#[92, 116]⟩, .string ⟨#[10]⟩, .string ⟨#[1]⟩, .string ⟨#[127]⟩, .string ⟨#[255]⟩] 34 (0, 0)) (by exact BA.out) hg (Kd.R_ne HO442.out BA.out (by decide)))
            have n2_ := Aside0.mk (blk_grown (g := gB) (o := .cells #[.int .i64 13, .int .i64 12, .int .i64 11, .int .i64 11, .int .i64 10] 35 (0, 0)) (by exact BB.out) hg (Kd.R_ne HO442.out BB.out (by decide)))
            have n3_ := Aside0.mk (Kd.V_afterv (ok := (fun k_ => k_ ≠ gA ∧ k_ ≠ gB)) (by (with_reducible repeat (first | apply Kd.V_alloc | apply Kd.V_drewN | apply Kd.V_drew)); exact H9.out) hg hat)
            have n4_ := Aside0.mk (hb)
            have n5_ := Aside0.mk (ho)
            clear HO_8
            clear BA
            clear BB
            clear H9
            clear HB
            clear HO442
            have HO_8 := n0_
            have BA := n1_
            have BB := n2_
            have H9 := n3_
            have HB := n4_
            have HO473 := n5_
            clear n0_ n1_ n2_ n3_ n4_ n5_
            clear ho hb hg hat
            refine hK.out _ _ ⟨(blk_cell BA.out 0).trans rfl, (blk_cell BA.out 1).trans rfl, (blk_cell BA.out 2).trans rfl, (blk_cell BA.out 3).trans rfl, (blk_cell BA.out 4).trans rfl⟩ (fun hHeld => ?_)
            clear hK K
            refine norm_ (a' := ?_) ?_ ?_
            rotate_left
            ·show Act.put _ (some 45) _ = _
             simp only [Act.put, List.setIfInBounds_toArray, List.set_cons_zero, List.set_cons_succ, i64_w, i32_w]
             rfl
            refine one_ (i := 12) (N := some 47) #[true, true, true, true, true, true, true, true, true, true, true, true, true, false, false] rfl rfl (one_of HT_.out (by kernel_rfl)) (by decide) (fun K hK => ?_)
            refine goes_ Tryd.func10 (by kernel_rfl) rfl #[.slice A2 l2.length c2] (by rfl) rfl rfl (by (try simp only [List.map_toArray, List.map_cons, List.map_nil]); first | done | rfl | (simp only [List.length_drop, List.length_take]; rfl)) ?_
            with_reducible refine (tmesislaw04_few.calls (fun k_ => k_ < w.heap.size) _ _ l2 t474 _ ?side1 A87.out).mono ?_
            (case side1 => exact Kd.V_mk HC2.out (Kd.F_below (Kd.C_F (Kd.heap_int .u8) HR2.out) (by repeat (first | (with_reducible first | exact HB.out | apply below_alloc | apply pw_below_drewN | apply below_drew1 | refine below_set ?_ GA.out | refine below_set ?_ GD.out) | exact HB.out))))
            rintro e w104 ⟨v475, rfl, ho0, hb⟩
            refine ⟨_, rfl, ?_⟩
            have n0_ := Aside0.mk (Kd.V_below (by (with_reducible repeat (first | apply Kd.V_alloc | apply Kd.V_drewN | apply Kd.V_drew)); exact HO_8.out) hb)
            have n1_ := Aside0.mk (Kd.V_below (by (with_reducible repeat (first | apply Kd.V_alloc | apply Kd.V_drewN | apply Kd.V_drew)); exact H9.out) hb)
            have n2_ := Aside0.mk (Kd.R_below (by (with_reducible repeat (first | apply Kd.R_alloc | apply Kd.R_drewN | apply Kd.R_drew)); exact HO473.out) hb)
            have n3_ := Aside0.mk (Kd.V_lower (Kd.V_mono (ok' := fun k_ => some k_ ≠ (v472 : Value).ownBlock ∧ k_ ≠ gA ∧ k_ ≠ gB) ho0 (fun k_ hk_ => ⟨Or.elim hk_ (fun hs_ => fun e_ => Nat.not_le.2 hs_ (Kd.R_base HO473.out k_ e_.symm)) (fun hn_ => (Kd.fresh' (Kd.R_lt (by (with_reducible repeat (first | apply Kd.R_alloc | apply Kd.R_drewN | apply Kd.R_drew)); exact HO473.out)) k_ hn_)), Or.elim hk_ (fun hs_ => fun e_ => Nat.not_le.2 hs_ (by rw [e_]; exact GM.out)) (fun hn_ => (Kd.freshB (g := gA) (o := .cells #[.string ⟨#[92, 116]⟩, .string ⟨#[10]⟩, .string ⟨#[1]⟩, .string ⟨#[127]⟩, .string ⟨#[255]⟩] 34 (0, 0)) (by exact BA.out) k_ hn_)), Or.elim hk_ (fun hs_ => fun e_ => Nat.not_le.2 hs_ (by rw [e_]; exact GN.out)) (fun hn_ => (Kd.freshB (g := gB) (o := .cells #[.int .i64 13, .int .i64 12, .int .i64 11, .int .i64 11, .int .i64 10] 35 (0, 0)) (by exact BB.out) k_ hn_))⟩)) (below_size (by repeat (first | (with_reducible first | exact HB.out | apply below_alloc | apply pw_below_drewN | apply below_drew1 | refine below_set ?_ GA.out | refine below_set ?_ GD.out) | exact HB.out))))
            have n4_ := Aside0.mk (blk_below (g := gA) (o := .cells #[.string ⟨#[92, 116]⟩, .string ⟨#[10]⟩, .string ⟨#[1]⟩, .string ⟨#[127]⟩, .string ⟨#[255]⟩] 34 (0, 0)) (by exact BA.out) hb)
            have n5_ := Aside0.mk (blk_below (g := gB) (o := .cells #[.int .i64 13, .int .i64 12, .int .i64 11, .int .i64 11, .int .i64 10] 35 (0, 0)) (by exact BB.out) hb)
            have n6_ := Aside0.mk (below_step (by repeat (first | (with_reducible first | exact HB.out | apply below_alloc | apply pw_below_drewN | apply below_drew1 | refine below_set ?_ GA.out | refine below_set ?_ GD.out) | exact HB.out)) hb)
            clear HO_8
            clear H9
            clear HO473
            clear BA
            clear BB
            clear HB
            have HO_8 := n0_
            have H9 := n1_
            have HO473 := n2_
            have HO476 := n3_
            have BA := n4_
            have BB := n5_
            have HB := n6_
            clear n0_ n1_ n2_ n3_ n4_ n5_ n6_
            (try clear hb)
            (try clear hb2)
            (try clear hk)
            (try clear hi)
            (try clear ho0)
            obtain ⟨Ao106, co106, eo106⟩ := Kd.V_slice HO476.out
            (first | subst eo106 | (injection eo106 with f1_ f2_ f3_; have f4_ := f1_.symm; have f5_ := f3_.symm; clear f1_ f2_ f3_; subst f4_; subst f5_))
            refine hK.out _ _ ⟨(blk_cell BA.out 0).trans rfl, (blk_cell BA.out 1).trans rfl, (blk_cell BA.out 2).trans rfl, (blk_cell BA.out 3).trans rfl, (blk_cell BA.out 4).trans rfl⟩ (fun hHeld => ?_)
            clear hK K
            refine norm_ (a' := ?_) ?_ ?_
            rotate_left
            ·show Act.put _ (some 47) _ = _
             simp only [Act.put, List.setIfInBounds_toArray, List.set_cons_zero, List.set_cons_succ, i64_w, i32_w]
             rfl
            refine one_ (i := 13) (N := some 48) #[true, true, true, true, true, true, true, true, true, true, true, true, true, true, false] rfl rfl (one_of HT_.out (by kernel_rfl)) (by decide) (fun K hK => ?_)
            refine Kd.R_append_rows_step (Kd.int .u8) (w0 := w) w.heap.size (by rfl) (.tmp 45) (.tmp 47) 22 5 (.int .u8 0) 1 rfl Tryd.underlying22 info5 rfl (by decide) (by omega) v472 y471 t474 _ _ _ (fun _ => True) (fun _ => False) rfl rfl ?aO ?aR (fun _ _ h => h) (fun _ h => h.elim) ?aF ?aB ?aS ?aL ?_
            (case aR => repeat (first | exact (Kd.V_reads' HO476.out).2.2 | (with_reducible refine Kd.C_alloc ?_ _) | (with_reducible refine Kd.C_drewN ?_ _) | (with_reducible refine Kd.C_drew ?_)))
            (case aB => exact (by repeat (first | (with_reducible first | exact HB.out | apply below_alloc | apply pw_below_drewN | apply below_drew1 | refine below_set ?_ GA.out | refine below_set ?_ GD.out) | exact HB.out)))
            (case aF => exact (fun _ _ => trivial))
            (case aO => exact (by (with_reducible repeat (first | apply Kd.R_alloc | apply Kd.R_drewN | apply Kd.R_drew)); exact HO473.out))
            (case aS => exact (below_size (by repeat (first | (with_reducible first | exact HB.out | apply below_alloc | apply pw_below_drewN | apply below_drew1 | refine below_set ?_ GA.out | refine below_set ?_ GD.out) | exact HB.out))))
            (case aL => have := LMc88.out; omega)
            intro v478 w105 ho hb hg hat
            rw [← Ny477.out] at ho
            have n0_ := Aside0.mk (Kd.V_afterv (ok := (fun k_ => k_ ≠ gA ∧ k_ ≠ gB)) (by (with_reducible repeat (first | apply Kd.V_alloc | apply Kd.V_drewN | apply Kd.V_drew)); exact HO_8.out) hg hat)
            have n1_ := Aside0.mk (blk_grown (g := gA) (o := .cells #[.string ⟨#[92, 116]⟩, .string ⟨#[10]⟩, .string ⟨#[1]⟩, .string ⟨#[127]⟩, .string ⟨#[255]⟩] 34 (0, 0)) (by exact BA.out) hg (Kd.R_ne HO473.out BA.out (by decide)))
            have n2_ := Aside0.mk (blk_grown (g := gB) (o := .cells #[.int .i64 13, .int .i64 12, .int .i64 11, .int .i64 11, .int .i64 10] 35 (0, 0)) (by exact BB.out) hg (Kd.R_ne HO473.out BB.out (by decide)))
            have n3_ := Aside0.mk (Kd.V_afterv (ok := (fun k_ => k_ ≠ gA ∧ k_ ≠ gB)) (by (with_reducible repeat (first | apply Kd.V_alloc | apply Kd.V_drewN | apply Kd.V_drew)); exact H9.out) hg hat)
            have n4_ := Aside0.mk (Kd.V_afterv (ok := (fun k_ => k_ ≠ gA ∧ k_ ≠ gB)) (by (with_reducible repeat (first | apply Kd.V_alloc | apply Kd.V_drewN | apply Kd.V_drew)); exact Kd.V_mono HO476.out (fun _ hk => ⟨⟨hk.2.1, hk.2.2⟩, hk.1⟩)) hg hat)
            have n5_ := Aside0.mk (hb)
            have n6_ := Aside0.mk (ho)
            clear HO_8
            clear BA
            clear BB
            clear H9
            clear HO476
            clear HB
            clear HO473
            have HO_8 := n0_
            have BA := n1_
            have BB := n2_
            have H9 := n3_
            have HO476 := n4_
            have HB := n5_
            have HO479 := n6_
            clear n0_ n1_ n2_ n3_ n4_ n5_ n6_
            clear ho hb hg hat
            refine hK.out _ _ ⟨(blk_cell BA.out 0).trans rfl, (blk_cell BA.out 1).trans rfl, (blk_cell BA.out 2).trans rfl, (blk_cell BA.out 3).trans rfl, (blk_cell BA.out 4).trans rfl⟩ (fun hHeld => ?_)
            clear hK K
            refine norm_ (a' := ?_) ?_ ?_
            rotate_left
            ·show Act.put _ (some 48) _ = _
             simp only [Act.put, List.setIfInBounds_toArray, List.set_cons_zero, List.set_cons_succ, i64_w, i32_w]
             rfl
            refine pure_ (i := 14) (N := some 13) (v := ?_) (a' := ?_) #[true, true, true, true, true, true, true, true, true, true, true, true, true, true, true] rfl rfl (any_of HT_.out (by kernel_rfl)) (fun _ _ _ h => h) (Or.inl ⟨by rfl, ?_⟩) ?_ ?_
            rotate_left
            ·intro w'
             go_simp
             with_reducible rfl
            rotate_left
            ·simp only [Act.put, List.setIfInBounds_toArray, List.set_cons_zero, List.set_cons_succ, i64_w, i32_w]
             rfl
            refine done_ (done_of HT_.out (by kernel_rfl)) ?_
            obtain ⟨Ao107, co107, eo107⟩ := Kd.R_slice HO479.out
            subst eo107
            go_upto_region 12 with (first | ((with_reducible refine gate_callee (f := 9) rfl ?_); refine goesL_ (some 51) rfl rfl Tryd.func9 (by kernel_rfl) rfl #[.slice Ao107 y477.length co107] rfl (by (try simp only [List.map_toArray, List.map_cons, List.map_nil]); first | done | rfl | (simp only [List.length_drop, List.length_take]; rfl)) ?_; (with_reducible refine (quote_Take.calls kj6 _ _ y477 t480 t481 t482 _ ?side1 ?side2 A89.out).mono ?_); (case side1 => repeat (first | exact (Kd.R_reads' HO479.out).2.2 | (with_reducible refine Kd.C_alloc ?_ _) | (with_reducible refine Kd.C_drewN ?_ _) | (with_reducible refine Kd.C_drew ?_))); (case side2 => exact (Kd.R_reads' HO479.out).2.1); rintro e w108 ⟨v483, rfl, ho0, hb⟩; refine ⟨_, rfl, ?_⟩; have n0_ := Aside0.mk (Kd.V_elder' (by (with_reducible repeat (first | apply Kd.V_alloc | apply Kd.V_drewN | apply Kd.V_drew)); exact HO_8.out) (Kd.R_base ho0) hb); have n1_ := Aside0.mk (Kd.V_elder' (by (with_reducible repeat (first | apply Kd.V_alloc | apply Kd.V_drewN | apply Kd.V_drew)); exact H9.out) (Kd.R_base ho0) hb); have n2_ := Aside0.mk (Kd.V_elder' (by (with_reducible repeat (first | apply Kd.V_alloc | apply Kd.V_drewN | apply Kd.V_drew)); exact HO476.out) (Kd.R_base ho0) hb); have n3_ := Aside0.mk (Kd.R_elder' (by (with_reducible repeat (first | apply Kd.R_alloc | apply Kd.R_drewN | apply Kd.R_drew)); exact HO479.out) (Kd.R_base ho0) hb); have n4_ := Aside0.mk (Kd.R_lower (Kd.R_new' ho0 (Kd.R_lt (by (with_reducible repeat (first | apply Kd.R_alloc | apply Kd.R_drewN | apply Kd.R_drew)); exact HO479.out))) (below_size (by repeat (first | (with_reducible first | exact HB.out | apply below_alloc | apply pw_below_drewN | apply below_drew1 | refine below_set ?_ GA.out | refine below_set ?_ GD.out) | exact HB.out)))); have n5_ := Aside0.mk (blk_below (g := gA) (o := .cells #[.string ⟨#[92, 116]⟩, .string ⟨#[10]⟩, .string ⟨#[1]⟩, .string ⟨#[127]⟩, .string ⟨#[255]⟩] 34 (0, 0)) (by exact BA.out) hb); have n6_ := Aside0.mk (blk_below (g := gB) (o := .cells #[.int .i64 13, .int .i64 12, .int .i64 11, .int .i64 11, .int .i64 10] 35 (0, 0)) (by exact BB.out) hb); have n7_ := Aside0.mk (below_step (by repeat (first | (with_reducible first | exact HB.out | apply below_alloc | apply pw_below_drewN | apply below_drew1 | refine below_set ?_ GA.out | refine below_set ?_ GD.out) | exact HB.out)) hb); clear HO_8; clear H9; clear HO476; clear HO479; clear BA; clear BB; clear HB; have HO_8 := n0_; have H9 := n1_; have HO476 := n2_; have HO479 := n3_; have HO484 := n4_; have BA := n5_; have BB := n6_; have HB := n7_; clear n0_ n1_ n2_ n3_ n4_ n5_ n6_ n7_; (try clear hb); (try clear hb2); (try clear hk); (try clear hi); (try clear ho0)))
            (try simp only [Act.put, List.setIfInBounds_toArray, List.set_cons_zero, List.set_cons_succ])
            go_cut [6] (fun v6 wc => ∃ (kq : Nat) (x6_89 : Bool), v6 = .bool x6_89 ∧ Aside0 (tmesislaw04_QuoteFirst.j3 kq x6_89 = some r) ∧ Aside0 (kq ≤ kj6) ∧ Aside0 (wc.heap[gA]? = some (.cells #[.string ⟨#[92, 116]⟩, .string ⟨#[10]⟩, .string ⟨#[1]⟩, .string ⟨#[127]⟩, .string ⟨#[255]⟩] 34 (0, 0))) ∧ Aside0 (wc.heap[gB]? = some (.cells #[.int .i64 13, .int .i64 12, .int .i64 11, .int .i64 11, .int .i64 10] 35 (0, 0))) ∧ Aside0 (Below w.heap.size w wc))
            case first =>
             have H := HC90.out
             clear HC90
             by_cases c109 : t419 = true
             ·subst c109
              have H1 : (if (t480.length : Int) = 0 then (if t481 = (ji17) then (tmesislaw04_QuoteFirst.j3 kj6 (t482 == 11)) else (tmesislaw04_QuoteFirst.j3 kj6 false)) else (tmesislaw04_QuoteFirst.j3 kj6 false)) = some r := by rw [if_pos rfl] at H; exact H
              clear H
              have H := H1
              clear H1
              by_cases c110 : (t480.length : Int) = 0
              ·rw [if_pos c110] at H
               have c110b0 : ((t480.length : Int) == 0) = true := beq_iff_eq.mpr c110
               have c110b1 : ((t480.length : Int) != 0) = false := bne_eq_false_iff_eq.mpr c110
               clear c110
               (first | rw [c110b0] | (simp only [i64_w, i32_w]; rw [c110b0]) | skip)
               by_cases c111 : t481 = (ji17)
               ·rw [if_pos c111] at H
                have c111b0 : (t481 == (ji17)) = true := beq_iff_eq.mpr c111
                have c111b1 : (t481 != (ji17)) = false := bne_eq_false_iff_eq.mpr c111
                clear c111
                have H' := Aside0.mk H
                clear H
                obtain ⟨Ao112, co112, eo112⟩ := Kd.R_slice HO484.out
                subst eo112
                have hnb113 := NC.out
                have hnc113 := NA.out
                have hcz114_0 : w108.cell? ⟨gB, 0, none⟩ = some (.int .i64 13) := (blk_cell BB.out 0).trans rfl
                have hcz114_1 : w108.cell? ⟨gB, 1, none⟩ = some (.int .i64 12) := (blk_cell BB.out 1).trans rfl
                have hcz114_2 : w108.cell? ⟨gB, 2, none⟩ = some (.int .i64 11) := (blk_cell BB.out 2).trans rfl
                have hcz114_3 : w108.cell? ⟨gB, 3, none⟩ = some (.int .i64 11) := (blk_cell BB.out 3).trans rfl
                have hcz114_4 : w108.cell? ⟨gB, 4, none⟩ = some (.int .i64 10) := (blk_cell BB.out 4).trans rfl
                have hfz114_0 := blk_frozen BB.out 0
                have hfz114_1 := blk_frozen BB.out 1
                have hfz114_2 := blk_frozen BB.out 2
                have hfz114_3 := blk_frozen BB.out 3
                have hfz114_4 := blk_frozen BB.out 4
                go_wp2
                go_meet
                case rel => exact ⟨_, ((t482 == 11)), (by first | rfl | (simp; done) | (simp [*]; done)), H', ⟨by have := HJ6.out; first | omega | exact Nat.le_refl _⟩, ⟨by exact BA.out⟩, ⟨by exact BB.out⟩, ⟨by repeat (first | (with_reducible first | exact HB.out | apply below_alloc | apply pw_below_drewN | apply below_drew1 | refine below_set ?_ GA.out | refine below_set ?_ GD.out) | exact HB.out)⟩⟩
               ·rw [if_neg c111] at H
                have c111b0 : (t481 == (ji17)) = false := beq_eq_false_iff_ne.mpr c111
                have c111b1 : (t481 != (ji17)) = true := bne_iff_ne.mpr c111
                have H' := Aside0.mk H
                clear H
                obtain ⟨Ao115, co115, eo115⟩ := Kd.R_slice HO484.out
                subst eo115
                go_wp2
                go_meet
                case rel => exact ⟨_, (false), (by first | rfl | (simp; done) | (simp [*]; done)), H', ⟨by have := HJ6.out; first | omega | exact Nat.le_refl _⟩, ⟨by exact BA.out⟩, ⟨by exact BB.out⟩, ⟨by repeat (first | (with_reducible first | exact HB.out | apply below_alloc | apply pw_below_drewN | apply below_drew1 | refine below_set ?_ GA.out | refine below_set ?_ GD.out) | exact HB.out)⟩⟩
              ·rw [if_neg c110] at H
               have c110b0 : ((t480.length : Int) == 0) = false := beq_eq_false_iff_ne.mpr c110
               have c110b1 : ((t480.length : Int) != 0) = true := bne_iff_ne.mpr c110
               have c110b2 : ¬ (t480 = []) := fun h_ => c110 (by rw [h_]; rfl)
               (first | rw [c110b0] | (simp only [i64_w, i32_w]; rw [c110b0]) | skip)
               have H' := Aside0.mk H
               clear H
               obtain ⟨Ao116, co116, eo116⟩ := Kd.R_slice HO484.out
               subst eo116
               go_wp2
               go_meet
               case rel => exact ⟨_, (false), (by first | rfl | (simp; done) | (simp [*]; done)), H', ⟨by have := HJ6.out; first | omega | exact Nat.le_refl _⟩, ⟨by exact BA.out⟩, ⟨by exact BB.out⟩, ⟨by repeat (first | (with_reducible first | exact HB.out | apply below_alloc | apply pw_below_drewN | apply below_drew1 | refine below_set ?_ GA.out | refine below_set ?_ GD.out) | exact HB.out)⟩⟩
             ·replace c109 := Bool.eq_false_iff.mpr c109
              subst c109
              have H1 : (tmesislaw04_QuoteFirst.j3 kj6 false) = some r := by rw [if_neg (show ¬ (false = true) by decide)] at H; exact H
              clear H
              have H := H1
              clear H1
              have H' := Aside0.mk H
              clear H
              go_wp2
              go_meet
              case rel => exact ⟨_, (false), (by first | rfl | (simp; done) | (simp [*]; done)), H', ⟨by have := HJ6.out; first | omega | exact Nat.le_refl _⟩, ⟨by exact BA.out⟩, ⟨by exact BB.out⟩, ⟨by repeat (first | (with_reducible first | exact HB.out | apply below_alloc | apply pw_below_drewN | apply below_drew1 | refine below_set ?_ GA.out | refine below_set ?_ GD.out) | exact HB.out)⟩⟩
            case rest =>
             clear HC90
             (try clear c1); (try clear c2); (try clear p2); (try clear c3); (try clear q3); (try clear c4); (try clear c5); (try clear c6); (try clear p6); (try clear q6); (try clear c7); (try clear c8); (try clear c9); (try clear q9); (try clear c10); (try clear c11); (try clear c12); (try clear c12b0); (try clear c12b1); (try clear c15); (try clear c15b0); (try clear c15b1); (try clear c18); (try clear c18b0); (try clear c18b1); (try clear c19); (try clear c19b0); (try clear c19b1); (try clear c20); (try clear c21); (try clear c21b0); (try clear c21b1); (try clear c22); (try clear c24); (try clear c31); (try clear q35); (try clear c45); (try clear c46); (try clear c46b0); (try clear c46b1); (try clear c46b2); (try clear c47); (try clear c47b0); (try clear c47b1); (try clear c49); (try clear c53); (try clear c53b0); (try clear c53b1); (try clear c54); (try clear c56); (try clear c63); (try clear q67); (try clear c77); (try clear c78); (try clear c78b0); (try clear c78b1); (try clear c78b2); (try clear c79); (try clear c79b0); (try clear c79b1); (try clear c81); (try clear c85); (try clear c85b0); (try clear c85b1); (try clear c86); (try clear c88); (try clear c95); (try clear q99); (try clear c109); (try clear c110); (try clear c110b0); (try clear c110b1); (try clear c110b2); (try clear c111); (try clear c111b0); (try clear c111b1); (try clear c113); (try clear p2); (try clear p6); (try clear q3); (try clear q35); (try clear q6); (try clear q67); (try clear q99)
             obtain ⟨kq, x6_89, rfl, HA, HJ89, BA, BB, HB⟩ := hcut
             cases kq with
             | zero => exact absurd HA.out (by simp [tmesislaw04_QuoteFirst.j3])
             | succ kj89 =>
              have H := HA.out
              clear HA
              simp only [tmesislaw04_QuoteFirst.j3] at H
              obtain rfl := Option.some.inj H
              go_wp2
              go_ret
              exact ⟨by first | rfl | (simp [errW_none, errW_some] <;> rfl) | (simp only [← hji17]; first | rfl | (simp [errW_none, errW_some] <;> rfl)) | (simp [*, errW_none, errW_some] <;> rfl), by repeat (first | (with_reducible first | exact HB.out | apply below_alloc | apply pw_below_drewN | apply below_drew1 | refine below_set ?_ GA.out | refine below_set ?_ GD.out) | exact HB.out)⟩
           ·rw [if_neg c88] at H
            exact absurd H (by simp)
          ·rw [if_neg c86] at H
           exact absurd H (by simp)
         ·rw [if_neg c85] at H
          have c85b0 : ((Int.tmod a1 5) == 2) = false := beq_eq_false_iff_ne.mpr c85
          have c85b1 : ((Int.tmod a1 5) != 2) = true := bne_iff_ne.mpr c85
          by_cases c117 : (Int.tmod a1 5) = 3
          ·rw [if_pos c117] at H
           have c117b0 : ((Int.tmod a1 5) == 3) = true := beq_iff_eq.mpr c117
           have c117b1 : ((Int.tmod a1 5) != 3) = false := bne_eq_false_iff_eq.mpr c117
           have hixc117 : (Int.tmod a1 5) = 3 := c117
           clear c117
           by_cases c118 : y440.length + 1 < 140737488355328
           ·rw [if_pos c118] at H
            have LMc118 := Aside0.mk c118
            clear c118
            obtain ⟨y485, hy485⟩ : ∃ y_ : List Int, y_ = (y440 ++ bytesOf (⟨#[127]⟩ : ByteArray)) := ⟨_, rfl⟩
            replace H : ((tmesislaw04_few.f l2).bind fun t488 => (if y485.length + t488.length < 140737488355328 then ((quote_Take.f kj6 (y485 ++ t488)).bind fun bt494 => (if t419 = true then (if (bt494.1.length : Int) = 0 then (if bt494.2.1 = (ji17) then (tmesislaw04_QuoteFirst.j4 kj6 (bt494.2.2 == 11)) else (tmesislaw04_QuoteFirst.j4 kj6 false)) else (tmesislaw04_QuoteFirst.j4 kj6 false)) else (tmesislaw04_QuoteFirst.j4 kj6 false))) else (none))) = some r := by first | (rw [hy485]; with_reducible exact H) | (have H2_ := (Option.bind_some _ _).symm.trans H; rw [hy485]; with_reducible exact H2_) | (have H2_ := (Option.bind_some _ _).symm.trans H; with_reducible exact H2_) | with_reducible exact H | (rw [hy485]; exact H) | exact H
            have Ny485 := Aside0.mk hy485
            clear hy485
            replace H := Option.bind_eq_some_iff.mp H
            obtain ⟨t488, A1190, H⟩ := H
            replace H : (if y485.length + t488.length < 140737488355328 then ((quote_Take.f kj6 (y485 ++ t488)).bind fun bt494 => (if t419 = true then (if (bt494.1.length : Int) = 0 then (if bt494.2.1 = (ji17) then (tmesislaw04_QuoteFirst.j4 kj6 (bt494.2.2 == 11)) else (tmesislaw04_QuoteFirst.j4 kj6 false)) else (tmesislaw04_QuoteFirst.j4 kj6 false)) else (tmesislaw04_QuoteFirst.j4 kj6 false))) else (none)) = some r := H
            have A119 := Aside0.mk A1190
            clear A1190
            by_cases c120 : y485.length + t488.length < 140737488355328
            ·rw [if_pos c120] at H
             have LMc120 := Aside0.mk c120
             clear c120
             obtain ⟨y491, hy491⟩ : ∃ y_ : List Int, y_ = (y485 ++ t488) := ⟨_, rfl⟩
             replace H : ((quote_Take.f kj6 y491).bind fun bt494 => (if t419 = true then (if (bt494.1.length : Int) = 0 then (if bt494.2.1 = (ji17) then (tmesislaw04_QuoteFirst.j4 kj6 (bt494.2.2 == 11)) else (tmesislaw04_QuoteFirst.j4 kj6 false)) else (tmesislaw04_QuoteFirst.j4 kj6 false)) else (tmesislaw04_QuoteFirst.j4 kj6 false))) = some r := by first | (rw [hy491]; with_reducible exact H) | (have H2_ := (Option.bind_some _ _).symm.trans H; rw [hy491]; with_reducible exact H2_) | (have H2_ := (Option.bind_some _ _).symm.trans H; with_reducible exact H2_) | with_reducible exact H | (rw [hy491]; exact H) | exact H
             have Ny491 := Aside0.mk hy491
             clear hy491
             replace H := Option.bind_eq_some_iff.mp H
             obtain ⟨⟨t494, t495, t496⟩, A1210, H⟩ := H
             replace H : (if t419 = true then (if (t494.length : Int) = 0 then (if t495 = (ji17) then (tmesislaw04_QuoteFirst.j4 kj6 (t496 == 11)) else (tmesislaw04_QuoteFirst.j4 kj6 false)) else (tmesislaw04_QuoteFirst.j4 kj6 false)) else (tmesislaw04_QuoteFirst.j4 kj6 false)) = some r := H
             have A121 := Aside0.mk A1210
             clear A1210
             have HC122 := Aside0.mk H
             clear H
             obtain ⟨Ao123, co123, eo123⟩ := Kd.V_slice HO_8.out
             subst eo123
             try go_wp2_with (first | ((with_reducible refine gate_dst (N := 10) rfl ?_); (try (refine gate_guard (by rfl) ?_; dsimp only)); refine box_event ?hg (N := 10) ?hd (cs := #[.string ⟨#[]⟩, .string ⟨#[]⟩, .string ⟨#[]⟩, .string ⟨#[]⟩, .string ⟨#[]⟩]) (t := 34) ?hr ?_; (case hd => rfl); (case hg => rfl); (case hr => first | (go_simp; done) | (go_simp; rfl)); intro gA hg w124 hbox hb; have n0_ := Aside0.mk (Kd.V_below (Kd.V_elderB (by (with_reducible repeat (first | apply Kd.V_alloc | apply Kd.V_drewN | apply Kd.V_drew)); exact HO_8.out) gA (Nat.le_of_eq hg.symm)) hb); have n1_ := Aside0.mk (below_step (by repeat (first | (with_reducible first | exact HB.out | apply below_alloc | apply pw_below_drewN | apply below_drew1) | exact HB.out)) hb); have n2_ := Aside0.mk (hbox); have n3_ := Aside0.mk ((by rw [hg]; exact (below_size (by repeat (first | (with_reducible first | exact HB.out | apply below_alloc | apply pw_below_drewN | apply below_drew1) | exact HB.out))) : w.heap.size ≤ gA)); have n4_ := Aside0.mk ((by rw [hg]; exact (below_size (by repeat (first | (with_reducible first | exact HB.out | apply below_alloc | apply pw_below_drewN | apply below_drew1) | exact HB.out))) : w.heap.size ≤ gA)); clear HO_8; clear HB; have HO_8 := n0_; have HB := n1_; have BA := n2_; have GM := n3_; have GA := n4_; clear n0_ n1_ n2_ n3_ n4_; clear hb hbox hg; have hcz125_0 : w124.cell? ⟨gA, 0, none⟩ = some (.string ⟨#[]⟩) := (blk_cell BA.out 0).trans rfl; have hcz125_1 : w124.cell? ⟨gA, 1, none⟩ = some (.string ⟨#[]⟩) := (blk_cell BA.out 1).trans rfl; have hcz125_2 : w124.cell? ⟨gA, 2, none⟩ = some (.string ⟨#[]⟩) := (blk_cell BA.out 2).trans rfl; have hcz125_3 : w124.cell? ⟨gA, 3, none⟩ = some (.string ⟨#[]⟩) := (blk_cell BA.out 3).trans rfl; have hcz125_4 : w124.cell? ⟨gA, 4, none⟩ = some (.string ⟨#[]⟩) := (blk_cell BA.out 4).trans rfl; have hfz125_0 := blk_frozen BA.out 0; have hfz125_1 := blk_frozen BA.out 1; have hfz125_2 := blk_frozen BA.out 2; have hfz125_3 := blk_frozen BA.out 3; have hfz125_4 := blk_frozen BA.out 4) | ((with_reducible refine gate_dst (N := 11) rfl ?_); (try (refine gate_guard (by rfl) ?_; dsimp only)); refine box_event ?hg (N := 11) ?hd (cs := #[.int .i64 0, .int .i64 0, .int .i64 0, .int .i64 0, .int .i64 0]) (t := 35) ?hr ?_; (case hd => rfl); (case hg => rfl); (case hr => first | (go_simp; done) | (go_simp; rfl)); intro gB hg w126 hbox hb; have n0_ := Aside0.mk (Kd.V_below (Kd.V_elderB (by (with_reducible repeat (first | apply Kd.V_alloc | apply Kd.V_drewN | apply Kd.V_drew)); exact (Kd.V_mono (Kd.V_far (p := ⟨gA, 4, none⟩) (Kd.V_far (p := ⟨gA, 3, none⟩) (Kd.V_far (p := ⟨gA, 2, none⟩) (Kd.V_far (p := ⟨gA, 1, none⟩) (Kd.V_far (p := ⟨gA, 0, none⟩) (Kd.V_mono HO_8.out (fun k_ hk => (⟨hk, hk.2⟩ : _ ∧ k_ ≠ gA))) (fun _ hk => hk.2) (.string ⟨#[92, 116]⟩)) (fun _ hk => hk.2) (.string ⟨#[10]⟩)) (fun _ hk => hk.2) (.string ⟨#[1]⟩)) (fun _ hk => hk.2) (.string ⟨#[127]⟩)) (fun _ hk => hk.2) (.string ⟨#[255]⟩)) (fun _ h_ => h_.1))) gB (Nat.le_of_eq hg.symm)) hb); have n1_ := Aside0.mk (blk_below (g := gA) (o := .cells #[.string ⟨#[92, 116]⟩, .string ⟨#[10]⟩, .string ⟨#[1]⟩, .string ⟨#[127]⟩, .string ⟨#[255]⟩] 34 (0, 0)) (by refine blk_put (cs := #[.string ⟨#[92, 116]⟩, .string ⟨#[10]⟩, .string ⟨#[1]⟩, .string ⟨#[127]⟩, .string ⟨#[]⟩]) ?_ 4 _ rfl; refine blk_put (cs := #[.string ⟨#[92, 116]⟩, .string ⟨#[10]⟩, .string ⟨#[1]⟩, .string ⟨#[]⟩, .string ⟨#[]⟩]) ?_ 3 _ rfl; refine blk_put (cs := #[.string ⟨#[92, 116]⟩, .string ⟨#[10]⟩, .string ⟨#[]⟩, .string ⟨#[]⟩, .string ⟨#[]⟩]) ?_ 2 _ rfl; refine blk_put (cs := #[.string ⟨#[92, 116]⟩, .string ⟨#[]⟩, .string ⟨#[]⟩, .string ⟨#[]⟩, .string ⟨#[]⟩]) ?_ 1 _ rfl; refine blk_put (cs := #[.string ⟨#[]⟩, .string ⟨#[]⟩, .string ⟨#[]⟩, .string ⟨#[]⟩, .string ⟨#[]⟩]) ?_ 0 _ rfl; exact BA.out) hb); have n2_ := Aside0.mk (below_step (by repeat (first | (with_reducible first | exact HB.out | apply below_alloc | apply pw_below_drewN | apply below_drew1 | refine below_set ?_ GA.out) | exact HB.out)) hb); have n3_ := Aside0.mk (hbox); have n4_ := Aside0.mk ((by rw [hg]; exact (below_size (by repeat (first | (with_reducible first | exact HB.out | apply below_alloc | apply pw_below_drewN | apply below_drew1 | refine below_set ?_ GA.out) | exact HB.out))) : w.heap.size ≤ gB)); have n5_ := Aside0.mk ((by rw [hg]; exact (below_size (by repeat (first | (with_reducible first | exact HB.out | apply below_alloc | apply pw_below_drewN | apply below_drew1 | refine below_set ?_ GA.out) | exact HB.out))) : w.heap.size ≤ gB)); have n6_ := Aside0.mk ((by rw [hg]; exact Nat.ne_of_lt (blk_lt (g := gA) (o := .cells #[.string ⟨#[92, 116]⟩, .string ⟨#[10]⟩, .string ⟨#[1]⟩, .string ⟨#[127]⟩, .string ⟨#[255]⟩] 34 (0, 0)) (by refine blk_put (cs := #[.string ⟨#[92, 116]⟩, .string ⟨#[10]⟩, .string ⟨#[1]⟩, .string ⟨#[127]⟩, .string ⟨#[]⟩]) ?_ 4 _ rfl; refine blk_put (cs := #[.string ⟨#[92, 116]⟩, .string ⟨#[10]⟩, .string ⟨#[1]⟩, .string ⟨#[]⟩, .string ⟨#[]⟩]) ?_ 3 _ rfl; refine blk_put (cs := #[.string ⟨#[92, 116]⟩, .string ⟨#[10]⟩, .string ⟨#[]⟩, .string ⟨#[]⟩, .string ⟨#[]⟩]) ?_ 2 _ rfl; refine blk_put (cs := #[.string ⟨#[92, 116]⟩, .string ⟨#[]⟩, .string ⟨#[]⟩, .string ⟨#[]⟩, .string ⟨#[]⟩]) ?_ 1 _ rfl; refine blk_put (cs := #[.string ⟨#[]⟩, .string ⟨#[]⟩, .string ⟨#[]⟩, .string ⟨#[]⟩, .string ⟨#[]⟩]) ?_ 0 _ rfl; exact BA.out)) : gA ≠ gB)); have n7_ := Aside0.mk ((by rw [hg]; exact Nat.ne_of_gt (blk_lt (g := gA) (o := .cells #[.string ⟨#[92, 116]⟩, .string ⟨#[10]⟩, .string ⟨#[1]⟩, .string ⟨#[127]⟩, .string ⟨#[255]⟩] 34 (0, 0)) (by refine blk_put (cs := #[.string ⟨#[92, 116]⟩, .string ⟨#[10]⟩, .string ⟨#[1]⟩, .string ⟨#[127]⟩, .string ⟨#[]⟩]) ?_ 4 _ rfl; refine blk_put (cs := #[.string ⟨#[92, 116]⟩, .string ⟨#[10]⟩, .string ⟨#[1]⟩, .string ⟨#[]⟩, .string ⟨#[]⟩]) ?_ 3 _ rfl; refine blk_put (cs := #[.string ⟨#[92, 116]⟩, .string ⟨#[10]⟩, .string ⟨#[]⟩, .string ⟨#[]⟩, .string ⟨#[]⟩]) ?_ 2 _ rfl; refine blk_put (cs := #[.string ⟨#[92, 116]⟩, .string ⟨#[]⟩, .string ⟨#[]⟩, .string ⟨#[]⟩, .string ⟨#[]⟩]) ?_ 1 _ rfl; refine blk_put (cs := #[.string ⟨#[]⟩, .string ⟨#[]⟩, .string ⟨#[]⟩, .string ⟨#[]⟩, .string ⟨#[]⟩]) ?_ 0 _ rfl; exact BA.out)) : gB ≠ gA)); clear HO_8; clear BA; clear HB; have HO_8 := n0_; have BA := n1_; have HB := n2_; have BB := n3_; have GN := n4_; have GD := n5_; have NA := n6_; have NC := n7_; clear n0_ n1_ n2_ n3_ n4_ n5_ n6_ n7_; clear hb hbox hg; have hnb127 := NC.out; have hnc127 := NA.out; have hcz128_0 : w126.cell? ⟨gB, 0, none⟩ = some (.int .i64 0) := (blk_cell BB.out 0).trans rfl; have hcz128_1 : w126.cell? ⟨gB, 1, none⟩ = some (.int .i64 0) := (blk_cell BB.out 1).trans rfl; have hcz128_2 : w126.cell? ⟨gB, 2, none⟩ = some (.int .i64 0) := (blk_cell BB.out 2).trans rfl; have hcz128_3 : w126.cell? ⟨gB, 3, none⟩ = some (.int .i64 0) := (blk_cell BB.out 3).trans rfl; have hcz128_4 : w126.cell? ⟨gB, 4, none⟩ = some (.int .i64 0) := (blk_cell BB.out 4).trans rfl; have hfz128_0 := blk_frozen BB.out 0; have hfz128_1 := blk_frozen BB.out 1; have hfz128_2 := blk_frozen BB.out 2; have hfz128_3 := blk_frozen BB.out 3; have hfz128_4 := blk_frozen BB.out 4))
             have n0_ : Aside0 (Kd.V (Kd.int .u8) 5 (((((w126.setCell ⟨gB, 0, none⟩ (.int .i64 13)).setCell ⟨gB, 1, none⟩ (.int .i64 12)).setCell ⟨gB, 2, none⟩ (.int .i64 11)).setCell ⟨gB, 3, none⟩ (.int .i64 11)).setCell ⟨gB, 4, none⟩ (.int .i64 10)) w.heap.size (fun k_ => k_ ≠ gA ∧ k_ ≠ gB) (.slice Ao123 x8_6.length co123) x8_6) := ⟨by (with_reducible repeat (first | apply Kd.V_alloc | apply Kd.V_drewN | apply Kd.V_drew)); exact Kd.V_mono (Kd.V_far (p := ⟨gB, 4, none⟩) (Kd.V_far (p := ⟨gB, 3, none⟩) (Kd.V_far (p := ⟨gB, 2, none⟩) (Kd.V_far (p := ⟨gB, 1, none⟩) (Kd.V_far (p := ⟨gB, 0, none⟩) (Kd.V_mono HO_8.out (fun k_ hk => (⟨hk, hk.2⟩ : _ ∧ k_ ≠ gB))) (fun _ hk => hk.2) (.int .i64 13)) (fun _ hk => hk.2) (.int .i64 12)) (fun _ hk => hk.2) (.int .i64 11)) (fun _ hk => hk.2) (.int .i64 11)) (fun _ hk => hk.2) (.int .i64 10)) (fun _ hk => ⟨hk.1.1.2, hk.1.2⟩)⟩
             have n1_ : Aside0 ((((((w126.setCell ⟨gB, 0, none⟩ (.int .i64 13)).setCell ⟨gB, 1, none⟩ (.int .i64 12)).setCell ⟨gB, 2, none⟩ (.int .i64 11)).setCell ⟨gB, 3, none⟩ (.int .i64 11)).setCell ⟨gB, 4, none⟩ (.int .i64 10)).heap[gA]? = some (.cells #[.string ⟨#[92, 116]⟩, .string ⟨#[10]⟩, .string ⟨#[1]⟩, .string ⟨#[127]⟩, .string ⟨#[255]⟩] 34 (0, 0))) := ⟨by (with_reducible repeat (first | apply blk_drewN | apply blk_drew | apply blk_alloc | refine blk_far ?_ NA.out _)); exact BA.out⟩
             have n2_ : Aside0 ((((((w126.setCell ⟨gB, 0, none⟩ (.int .i64 13)).setCell ⟨gB, 1, none⟩ (.int .i64 12)).setCell ⟨gB, 2, none⟩ (.int .i64 11)).setCell ⟨gB, 3, none⟩ (.int .i64 11)).setCell ⟨gB, 4, none⟩ (.int .i64 10)).heap[gB]? = some (.cells #[.int .i64 13, .int .i64 12, .int .i64 11, .int .i64 11, .int .i64 10] 35 (0, 0))) := ⟨by refine blk_put (cs := #[.int .i64 13, .int .i64 12, .int .i64 11, .int .i64 11, .int .i64 0]) ?_ 4 _ rfl; refine blk_put (cs := #[.int .i64 13, .int .i64 12, .int .i64 11, .int .i64 0, .int .i64 0]) ?_ 3 _ rfl; refine blk_put (cs := #[.int .i64 13, .int .i64 12, .int .i64 0, .int .i64 0, .int .i64 0]) ?_ 2 _ rfl; refine blk_put (cs := #[.int .i64 13, .int .i64 0, .int .i64 0, .int .i64 0, .int .i64 0]) ?_ 1 _ rfl; refine blk_put (cs := #[.int .i64 0, .int .i64 0, .int .i64 0, .int .i64 0, .int .i64 0]) ?_ 0 _ rfl; exact BB.out⟩
             have n3_ : Aside0 (Below w.heap.size w (((((w126.setCell ⟨gB, 0, none⟩ (.int .i64 13)).setCell ⟨gB, 1, none⟩ (.int .i64 12)).setCell ⟨gB, 2, none⟩ (.int .i64 11)).setCell ⟨gB, 3, none⟩ (.int .i64 11)).setCell ⟨gB, 4, none⟩ (.int .i64 10))) := ⟨by repeat (first | (with_reducible first | exact HB.out | apply below_alloc | apply pw_below_drewN | apply below_drew1 | refine below_set ?_ GA.out | refine below_set ?_ GD.out) | exact HB.out)⟩
             (try clear HO_8)
             (try clear BA)
             (try clear BB)
             (try clear HB)
             generalize (((((w126.setCell ⟨gB, 0, none⟩ (.int .i64 13)).setCell ⟨gB, 1, none⟩ (.int .i64 12)).setCell ⟨gB, 2, none⟩ (.int .i64 11)).setCell ⟨gB, 3, none⟩ (.int .i64 11)).setCell ⟨gB, 4, none⟩ (.int .i64 10)) = w129 at n0_ n1_ n2_ n3_ ⊢
             have HO_8 := n0_
             have BA := n1_
             have BB := n2_
             have HB := n3_
             clear n0_ n1_ n2_ n3_
             have n0_ := Aside0.mk (Kd.V_drew HO_8.out)
             have n1_ := Aside0.mk (blk_drew BA.out)
             have n2_ := Aside0.mk (blk_drew BB.out)
             have n3_ := Aside0.mk (below_drew1 HB.out)
             clear HO_8
             clear BA
             clear BB
             clear HB
             have HO_8 := n0_
             have BA := n1_
             have BB := n2_
             have HB := n3_
             clear n0_ n1_ n2_ n3_
             have q131 : ((ji17) : Int) ≤ ((x8_6.length : Int) : Int) := of_decide_eq_true (by first | (with_reducible assumption) | assumption)
             obtain ⟨i0131, hi0131, _, hsz131, _⟩ := info_parts info5
             have hroom131 : x8_6.length ≤ co123 := (Kd.V_reads' HO_8.out).2.1
             have hC131 : Kd.F (Kd.int .u8) _ _ Ao123 x8_6.length x8_6 := (Kd.V_at (base := w.heap.size) HO_8.out).2.2
             have hcut131 := cut_to (P := Tryd.prog) 22 5 .i64 Tryd.underlying22 hi0131 Ao123 x8_6.length co123 (ji17) (of_decide_eq_true (by first | (with_reducible assumption) | assumption)) q131 hroom131
             have hr131 := Kd.F_take (m := ((ji17) : Int).toNat) hC131 (by omega)
             have hy131 : y435.length = ((ji17) : Int).toNat := (by rw [Ny435.out, List.length_take]; omega)
             rw [← Ny435.out] at hr131
             rw [← hy131] at hcut131
             have H9 := Aside0.mk (show Kd.V (Kd.int .u8) 5 _ w.heap.size _ (.slice Ao123 y435.length co123) y435 from Kd.V_mk (by omega) hr131)
             have HC439 := Aside0.mk (show y435.length ≤ co123 from by omega)
             clear hr131 hC131 hroom131 hi0131 hsz131
             have KY131 := Aside0.mk hy131
             clear hy131
             replace q131 := eq_true q131
             refine start_ (n := 15) (S := fun w' => w'.cell? ⟨gA, 0, none⟩ = some (.string ⟨#[92, 116]⟩) ∧ w'.cell? ⟨gA, 1, none⟩ = some (.string ⟨#[10]⟩) ∧ w'.cell? ⟨gA, 2, none⟩ = some (.string ⟨#[1]⟩) ∧ w'.cell? ⟨gA, 3, none⟩ = some (.string ⟨#[127]⟩) ∧ w'.cell? ⟨gA, 4, none⟩ = some (.string ⟨#[255]⟩)) (ds := []) #[false, false, false, false, false, false, false, false, false, false, false, false, false, false, false] (by kernel_rfl) rfl rfl ⟨(blk_cell BA.out 0).trans rfl, (blk_cell BA.out 1).trans rfl, (blk_cell BA.out 2).trans rfl, (blk_cell BA.out 3).trans rfl, (blk_cell BA.out 4).trans rfl⟩ (fun hHeld => ?_); refine with_tabW tmesislaw04_QuoteFirst.tab10 tmesislaw04_QuoteFirst.bits10 (fun HT_ HW_ => ?_)
             generalize w129.drew = w130 at HO_8 BA BB HB H9 hHeld ⊢
             refine pure_ (i := 1) (N := some 36) (v := ?_) (a' := ?_) #[false, true, false, false, false, false, false, false, false, false, false, false, false, false, false] rfl rfl (any_of HT_.out (by kernel_rfl)) (fun _ _ _ h => h) (Or.inl ⟨by rfl, ?_⟩) ?_ ?_
             rotate_left
             ·intro w'
              go_simp
              with_reducible rfl
             rotate_left
             ·simp only [Act.put, List.setIfInBounds_toArray, List.set_cons_zero, List.set_cons_succ, i64_w, i32_w]
              rfl
             refine pure_ (i := 2) (N := some 37) (v := ?_) (a' := ?_) #[false, true, true, false, false, false, false, false, false, false, false, false, false, false, false] rfl rfl (any_of HT_.out (by kernel_rfl)) (fun _ _ _ h => h) (Or.inl ⟨by rfl, ?_⟩) ?_ ?_
             rotate_left
             ·intro w'
              go_simp
              with_reducible rfl
             rotate_left
             ·simp only [Act.put, List.setIfInBounds_toArray, List.set_cons_zero, List.set_cons_succ, i64_w, i32_w]
              rfl
             refine pure_ (i := 3) (N := some 38) (v := ?_) (a' := ?_) #[false, true, true, true, false, false, false, false, false, false, false, false, false, false, false] rfl rfl (any_of HT_.out (by kernel_rfl)) (fun _ _ _ h => h) (Or.inl ⟨by rfl, ?_⟩) ?_ ?_
             rotate_left
             ·intro w'
              go_simp
              with_reducible rfl
             rotate_left
             ·simp only [Act.put, List.setIfInBounds_toArray, List.set_cons_zero, List.set_cons_succ, i64_w, i32_w]
              rfl
             refine pure_ (i := 4) (N := some 39) (v := ?_) (a' := ?_) #[false, true, true, true, true, false, false, false, false, false, false, false, false, false, false] rfl rfl (any_of HT_.out (by kernel_rfl)) (fun _ _ _ h => h) (Or.inl ⟨by rfl, ?_⟩) ?_ ?_
             rotate_left
             ·intro w'
              go_simp
              with_reducible rfl
             rotate_left
             ·simp only [Act.put, List.setIfInBounds_toArray, List.set_cons_zero, List.set_cons_succ, i64_w, i32_w]
              rfl
             refine pure_ (i := 5) (N := some 40) (v := ?_) (a' := ?_) #[false, true, true, true, true, true, false, false, false, false, false, false, false, false, false] rfl rfl (any_of HT_.out (by kernel_rfl)) (fun _ _ _ h => h) (Or.inl ⟨by rfl, ?_⟩) ?_ ?_
             rotate_left
             ·intro w'
              go_simp
              with_reducible rfl
             rotate_left
             ·simp only [Act.put, List.setIfInBounds_toArray, List.set_cons_zero, List.set_cons_succ, i64_w, i32_w]
              rfl
             refine pure_ (i := 7) (N := some 42) (v := ?_) (a' := ?_) #[false, true, true, true, true, true, false, true, false, false, false, false, false, false, false] rfl rfl (any_of HT_.out (by kernel_rfl)) (fun _ _ _ h => h) (Or.inl ⟨by rfl, ?_⟩) ?_ ?_
             rotate_left
             ·intro w'
              go_simp
              with_reducible rfl
             rotate_left
             ·simp only [Act.put, List.setIfInBounds_toArray, List.set_cons_zero, List.set_cons_succ, i64_w, i32_w]
              rfl
             refine pure_ (i := 8) (N := some 43) (v := ?_) (a' := ?_) #[false, true, true, true, true, true, false, true, true, false, false, false, false, false, false] rfl rfl (any_of HT_.out (by kernel_rfl)) (fun _ _ _ h => h) (Or.inl ⟨by rfl, ?_⟩) ?_ ?_
             rotate_left
             ·intro w'
              go_simp
              with_reducible rfl
             rotate_left
             ·simp only [Act.put, List.setIfInBounds_toArray, List.set_cons_zero, List.set_cons_succ, i64_w, i32_w]
              rfl
             refine pure_ (i := 11) (N := some 46) (v := ?_) (a' := ?_) #[false, true, true, true, true, true, false, true, true, false, false, true, false, false, false] rfl rfl (any_of HT_.out (by kernel_rfl)) (fun _ _ _ h => h) (Or.inl ⟨by rfl, ?_⟩) ?_ ?_
             rotate_left
             ·intro w'
              go_simp
              with_reducible rfl
             rotate_left
             ·simp only [Act.put, List.setIfInBounds_toArray, List.set_cons_zero, List.set_cons_succ, i64_w, i32_w]
              rfl
             refine take_ (i := 9) (N := some 44) (v := ?_) (a' := ?_) #[false, true, true, true, true, true, false, true, true, true, false, true, false, false, false] rfl rfl (take_ofW HT_.out HW_.out (by kernel_rfl)) (fun _ _ _ h => h) (Or.inl ⟨by rfl, ?_⟩) hHeld ?_ ?_
             rotate_left
             ·rintro w' ⟨s0, s1, s2, s3, s4⟩
              go_simp
              with_reducible rfl
             rotate_left
             ·simp only [Act.put, List.setIfInBounds_toArray, List.set_cons_zero, List.set_cons_succ, i64_w, i32_w]
              rfl
             refine one_ (i := 0) (N := some 35) #[true, true, true, true, true, true, false, true, true, true, false, true, false, false, false] rfl rfl (one_of HT_.out (by kernel_rfl)) (by decide) (fun K hK => ?_)
             refine Kd.R_lit_step (Kd.int .u8) _ 5 ?hg (N := 35) ?hd (xs := ([] : List Int)) (inner := []) (ok := fun _ => True) (okp := fun _ => True) ?hr ?hp (fun _ hk => hk) trivial (Below.refl _ _) (Nat.le_refl _) (by simp) ?_; (case hd => rfl); (case hg => rfl); (case hr => first | (go_simp; done) | (go_simp; rfl)); (case hp => exact (Reps.none _ _))
             intro v433 w132 ho133 hb hg_ hnew_
             clear hg_ hnew_
             (first | rw [← Ny432.out] at ho133 | (simp only [Int.reduceToNat] at ho133; rw [← Ny432.out] at ho133))
             have n0_ := Aside0.mk (Kd.V_elder' (by (with_reducible repeat (first | apply Kd.V_alloc | apply Kd.V_drewN | apply Kd.V_drew)); exact HO_8.out) (Kd.R_base ho133) hb)
             have n1_ := Aside0.mk (Kd.V_elder' (by (with_reducible repeat (first | apply Kd.V_alloc | apply Kd.V_drewN | apply Kd.V_drew)); exact H9.out) (Kd.R_base ho133) hb)
             have n2_ := Aside0.mk (Kd.R_lower ho133 (below_size (by repeat (first | (with_reducible first | exact HB.out | apply below_alloc | apply pw_below_drewN | apply below_drew1 | refine below_set ?_ GA.out | refine below_set ?_ GD.out) | exact HB.out))))
             have n3_ := Aside0.mk (blk_below (g := gA) (o := .cells #[.string ⟨#[92, 116]⟩, .string ⟨#[10]⟩, .string ⟨#[1]⟩, .string ⟨#[127]⟩, .string ⟨#[255]⟩] 34 (0, 0)) (by exact BA.out) hb)
             have n4_ := Aside0.mk (blk_below (g := gB) (o := .cells #[.int .i64 13, .int .i64 12, .int .i64 11, .int .i64 11, .int .i64 10] 35 (0, 0)) (by exact BB.out) hb)
             have n5_ := Aside0.mk (below_step (by repeat (first | (with_reducible first | exact HB.out | apply below_alloc | apply pw_below_drewN | apply below_drew1 | refine below_set ?_ GA.out | refine below_set ?_ GD.out) | exact HB.out)) hb)
             clear HO_8
             clear H9
             clear BA
             clear BB
             clear HB
             have HO_8 := n0_
             have H9 := n1_
             have HO434 := n2_
             have BA := n3_
             have BB := n4_
             have HB := n5_
             clear n0_ n1_ n2_ n3_ n4_ n5_
             clear hb ho133
             refine hK.out _ _ ⟨(blk_cell BA.out 0).trans rfl, (blk_cell BA.out 1).trans rfl, (blk_cell BA.out 2).trans rfl, (blk_cell BA.out 3).trans rfl, (blk_cell BA.out 4).trans rfl⟩ (fun hHeld => ?_)
             clear hK K
             refine norm_ (a' := ?_) ?_ ?_
             rotate_left
             ·show Act.put _ (some 35) _ = _
              simp only [Act.put, List.setIfInBounds_toArray, List.set_cons_zero, List.set_cons_succ, i64_w, i32_w]
              rfl
             refine one_ (i := 6) (N := some 41) #[true, true, true, true, true, true, true, true, true, true, false, true, false, false, false] rfl rfl (one_of HT_.out (by kernel_rfl)) (by decide) (fun K hK => ?_)
             refine Kd.R_append_rows_step (Kd.int .u8) (w0 := w) w.heap.size (by rfl) (.tmp 35) (.tmp 40) 22 5 (.int .u8 0) 1 rfl Tryd.underlying22 info5 rfl (by decide) (by omega) v433 y432 y435 _ _ _ (fun _ => True) (fun _ => False) rfl rfl ?aO ?aR (fun _ _ h => h) (fun _ h => h.elim) ?aF ?aB ?aS ?aL ?_
             (case aR => repeat (first | exact (Kd.V_reads' H9.out).2.2 | (with_reducible refine Kd.C_alloc ?_ _) | (with_reducible refine Kd.C_drewN ?_ _) | (with_reducible refine Kd.C_drew ?_)))
             (case aB => exact (by repeat (first | (with_reducible first | exact HB.out | apply below_alloc | apply pw_below_drewN | apply below_drew1 | refine below_set ?_ GA.out | refine below_set ?_ GD.out) | exact HB.out)))
             (case aF => exact (fun _ _ => trivial))
             (case aO => exact (by (with_reducible repeat (first | apply Kd.R_alloc | apply Kd.R_drewN | apply Kd.R_drew)); exact HO434.out))
             (case aS => exact (below_size (by repeat (first | (with_reducible first | exact HB.out | apply below_alloc | apply pw_below_drewN | apply below_drew1 | refine below_set ?_ GA.out | refine below_set ?_ GD.out) | exact HB.out))))
             (case aL => have := LMc20.out; omega)
             intro v441 w134 ho hb hg hat
             rw [← Ny440.out] at ho
             have n0_ := Aside0.mk (Kd.V_afterv (ok := (fun k_ => k_ ≠ gA ∧ k_ ≠ gB)) (by (with_reducible repeat (first | apply Kd.V_alloc | apply Kd.V_drewN | apply Kd.V_drew)); exact HO_8.out) hg hat)
             have n1_ := Aside0.mk (blk_grown (g := gA) (o := .cells #[.string ⟨#[92, 116]⟩, .string ⟨#[10]⟩, .string ⟨#[1]⟩, .string ⟨#[127]⟩, .string ⟨#[255]⟩] 34 (0, 0)) (by exact BA.out) hg (Kd.R_ne HO434.out BA.out (by decide)))
             have n2_ := Aside0.mk (blk_grown (g := gB) (o := .cells #[.int .i64 13, .int .i64 12, .int .i64 11, .int .i64 11, .int .i64 10] 35 (0, 0)) (by exact BB.out) hg (Kd.R_ne HO434.out BB.out (by decide)))
             have n3_ := Aside0.mk (Kd.V_afterv (ok := (fun k_ => k_ ≠ gA ∧ k_ ≠ gB)) (by (with_reducible repeat (first | apply Kd.V_alloc | apply Kd.V_drewN | apply Kd.V_drew)); exact H9.out) hg hat)
             have n4_ := Aside0.mk (hb)
             have n5_ := Aside0.mk (ho)
             clear HO_8
             clear BA
             clear BB
             clear H9
             clear HB
             clear HO434
             have HO_8 := n0_
             have BA := n1_
             have BB := n2_
             have H9 := n3_
             have HB := n4_
             have HO442 := n5_
             clear n0_ n1_ n2_ n3_ n4_ n5_
             clear ho hb hg hat
             refine hK.out _ _ ⟨(blk_cell BA.out 0).trans rfl, (blk_cell BA.out 1).trans rfl, (blk_cell BA.out 2).trans rfl, (blk_cell BA.out 3).trans rfl, (blk_cell BA.out 4).trans rfl⟩ (fun hHeld => ?_)
             clear hK K
             refine norm_ (a' := ?_) ?_ ?_
             rotate_left
             ·show Act.put _ (some 41) _ = _
              simp only [Act.put, List.setIfInBounds_toArray, List.set_cons_zero, List.set_cons_succ, i64_w, i32_w]
              rfl
             refine one_ (i := 10) (N := some 45) #[true, true, true, true, true, true, true, true, true, true, true, true, false, false, false] rfl rfl (one_of HT_.out (by kernel_rfl)) (by decide) (fun K hK => ?_)
             refine R_append_str_step (w0 := w) w.heap.size (by rfl) (.tmp 41) _ 22 9 5 rfl Tryd.underlying22 Tryd.underlying9 info5 v441 y440 (⟨#[127]⟩ : ByteArray) (fun _ => True) rfl rfl ?aO ?aF ?aB ?aS ?aL ?_
             (case aB => exact (by repeat (first | (with_reducible first | exact HB.out | apply below_alloc | apply pw_below_drewN | apply below_drew1 | refine below_set ?_ GA.out | refine below_set ?_ GD.out) | exact HB.out)))
             (case aF => exact (fun _ _ => trivial))
             (case aO => exact (by (with_reducible repeat (first | apply Kd.R_alloc | apply Kd.R_drewN | apply Kd.R_drew)); exact HO442.out))
             (case aS => exact (below_size (by repeat (first | (with_reducible first | exact HB.out | apply below_alloc | apply pw_below_drewN | apply below_drew1 | refine below_set ?_ GA.out | refine below_set ?_ GD.out) | exact HB.out))))
             (case aL => have := LMc118.out; have zs_ : (⟨#[127]⟩ : ByteArray).size = 1 := rfl; omega)
             intro v486 w135 ho hb hg hat
             rw [← Ny485.out] at ho
             have n0_ := Aside0.mk (Kd.V_afterv (ok := (fun k_ => k_ ≠ gA ∧ k_ ≠ gB)) (by (with_reducible repeat (first | apply Kd.V_alloc | apply Kd.V_drewN | apply Kd.V_drew)); exact HO_8.out) hg hat)
             have n1_ := Aside0.mk (blk_grown (g := gA) (o := .cells #[.string ⟨#[92, 116]⟩, .string ⟨#[10]⟩, .string ⟨#[1]⟩, .string ⟨#[127]⟩, .string ⟨#[255]⟩] 34 (0, 0)) (by exact BA.out) hg (Kd.R_ne HO442.out BA.out (by decide)))
             have n2_ := Aside0.mk (blk_grown (g := gB) (o := .cells #[.int .i64 13, .int .i64 12, .int .i64 11, .int .i64 11, .int .i64 10] 35 (0, 0)) (by exact BB.out) hg (Kd.R_ne HO442.out BB.out (by decide)))
             have n3_ := Aside0.mk (Kd.V_afterv (ok := (fun k_ => k_ ≠ gA ∧ k_ ≠ gB)) (by (with_reducible repeat (first | apply Kd.V_alloc | apply Kd.V_drewN | apply Kd.V_drew)); exact H9.out) hg hat)
             have n4_ := Aside0.mk (hb)
             have n5_ := Aside0.mk (ho)
             clear HO_8
             clear BA
             clear BB
             clear H9
             clear HB
             clear HO442
             have HO_8 := n0_
             have BA := n1_
             have BB := n2_
             have H9 := n3_
             have HB := n4_
             have HO487 := n5_
             clear n0_ n1_ n2_ n3_ n4_ n5_
             clear ho hb hg hat
             refine hK.out _ _ ⟨(blk_cell BA.out 0).trans rfl, (blk_cell BA.out 1).trans rfl, (blk_cell BA.out 2).trans rfl, (blk_cell BA.out 3).trans rfl, (blk_cell BA.out 4).trans rfl⟩ (fun hHeld => ?_)
             clear hK K
             refine norm_ (a' := ?_) ?_ ?_
             rotate_left
             ·show Act.put _ (some 45) _ = _
              simp only [Act.put, List.setIfInBounds_toArray, List.set_cons_zero, List.set_cons_succ, i64_w, i32_w]
              rfl
             refine one_ (i := 12) (N := some 47) #[true, true, true, true, true, true, true, true, true, true, true, true, true, false, false] rfl rfl (one_of HT_.out (by kernel_rfl)) (by decide) (fun K hK => ?_)
             refine goes_ Tryd.func10 (by kernel_rfl) rfl #[.slice A2 l2.length c2] (by rfl) rfl rfl (by (try simp only [List.map_toArray, List.map_cons, List.map_nil]); first | done | rfl | (simp only [List.length_drop, List.length_take]; rfl)) ?_
             with_reducible refine (tmesislaw04_few.calls (fun k_ => k_ < w.heap.size) _ _ l2 t488 _ ?side1 A119.out).mono ?_
             (case side1 => exact Kd.V_mk HC2.out (Kd.F_below (Kd.C_F (Kd.heap_int .u8) HR2.out) (by repeat (first | (with_reducible first | exact HB.out | apply below_alloc | apply pw_below_drewN | apply below_drew1 | refine below_set ?_ GA.out | refine below_set ?_ GD.out) | exact HB.out))))
             rintro e w136 ⟨v489, rfl, ho0, hb⟩
             refine ⟨_, rfl, ?_⟩
             have n0_ := Aside0.mk (Kd.V_below (by (with_reducible repeat (first | apply Kd.V_alloc | apply Kd.V_drewN | apply Kd.V_drew)); exact HO_8.out) hb)
             have n1_ := Aside0.mk (Kd.V_below (by (with_reducible repeat (first | apply Kd.V_alloc | apply Kd.V_drewN | apply Kd.V_drew)); exact H9.out) hb)
             have n2_ := Aside0.mk (Kd.R_below (by (with_reducible repeat (first | apply Kd.R_alloc | apply Kd.R_drewN | apply Kd.R_drew)); exact HO487.out) hb)
             have n3_ := Aside0.mk (Kd.V_lower (Kd.V_mono (ok' := fun k_ => some k_ ≠ (v486 : Value).ownBlock ∧ k_ ≠ gA ∧ k_ ≠ gB) ho0 (fun k_ hk_ => ⟨Or.elim hk_ (fun hs_ => fun e_ => Nat.not_le.2 hs_ (Kd.R_base HO487.out k_ e_.symm)) (fun hn_ => (Kd.fresh' (Kd.R_lt (by (with_reducible repeat (first | apply Kd.R_alloc | apply Kd.R_drewN | apply Kd.R_drew)); exact HO487.out)) k_ hn_)), Or.elim hk_ (fun hs_ => fun e_ => Nat.not_le.2 hs_ (by rw [e_]; exact GM.out)) (fun hn_ => (Kd.freshB (g := gA) (o := .cells #[.string ⟨#[92, 116]⟩, .string ⟨#[10]⟩, .string ⟨#[1]⟩, .string ⟨#[127]⟩, .string ⟨#[255]⟩] 34 (0, 0)) (by exact BA.out) k_ hn_)), Or.elim hk_ (fun hs_ => fun e_ => Nat.not_le.2 hs_ (by rw [e_]; exact GN.out)) (fun hn_ => (Kd.freshB (g := gB) (o := .cells #[.int .i64 13, .int .i64 12, .int .i64 11, .int .i64 11, .int .i64 10] 35 (0, 0)) (by exact BB.out) k_ hn_))⟩)) (below_size (by repeat (first | (with_reducible first | exact HB.out | apply below_alloc | apply pw_below_drewN | apply below_drew1 | refine below_set ?_ GA.out | refine below_set ?_ GD.out) | exact HB.out))))
             have n4_ := Aside0.mk (blk_below (g := gA) (o := .cells #[.string ⟨#[92, 116]⟩, .string ⟨#[10]⟩, .string ⟨#[1]⟩, .string ⟨#[127]⟩, .string ⟨#[255]⟩] 34 (0, 0)) (by exact BA.out) hb)
             have n5_ := Aside0.mk (blk_below (g := gB) (o := .cells #[.int .i64 13, .int .i64 12, .int .i64 11, .int .i64 11, .int .i64 10] 35 (0, 0)) (by exact BB.out) hb)
             have n6_ := Aside0.mk (below_step (by repeat (first | (with_reducible first | exact HB.out | apply below_alloc | apply pw_below_drewN | apply below_drew1 | refine below_set ?_ GA.out | refine below_set ?_ GD.out) | exact HB.out)) hb)
             clear HO_8
             clear H9
             clear HO487
             clear BA
             clear BB
             clear HB
             have HO_8 := n0_
             have H9 := n1_
             have HO487 := n2_
             have HO490 := n3_
             have BA := n4_
             have BB := n5_
             have HB := n6_
             clear n0_ n1_ n2_ n3_ n4_ n5_ n6_
             (try clear hb)
             (try clear hb2)
             (try clear hk)
             (try clear hi)
             (try clear ho0)
             obtain ⟨Ao138, co138, eo138⟩ := Kd.V_slice HO490.out
             (first | subst eo138 | (injection eo138 with f1_ f2_ f3_; have f4_ := f1_.symm; have f5_ := f3_.symm; clear f1_ f2_ f3_; subst f4_; subst f5_))
             refine hK.out _ _ ⟨(blk_cell BA.out 0).trans rfl, (blk_cell BA.out 1).trans rfl, (blk_cell BA.out 2).trans rfl, (blk_cell BA.out 3).trans rfl, (blk_cell BA.out 4).trans rfl⟩ (fun hHeld => ?_)
             clear hK K
             refine norm_ (a' := ?_) ?_ ?_
             rotate_left
             ·show Act.put _ (some 47) _ = _
              simp only [Act.put, List.setIfInBounds_toArray, List.set_cons_zero, List.set_cons_succ, i64_w, i32_w]
              rfl
             refine one_ (i := 13) (N := some 48) #[true, true, true, true, true, true, true, true, true, true, true, true, true, true, false] rfl rfl (one_of HT_.out (by kernel_rfl)) (by decide) (fun K hK => ?_)
             refine Kd.R_append_rows_step (Kd.int .u8) (w0 := w) w.heap.size (by rfl) (.tmp 45) (.tmp 47) 22 5 (.int .u8 0) 1 rfl Tryd.underlying22 info5 rfl (by decide) (by omega) v486 y485 t488 _ _ _ (fun _ => True) (fun _ => False) rfl rfl ?aO ?aR (fun _ _ h => h) (fun _ h => h.elim) ?aF ?aB ?aS ?aL ?_
             (case aR => repeat (first | exact (Kd.V_reads' HO490.out).2.2 | (with_reducible refine Kd.C_alloc ?_ _) | (with_reducible refine Kd.C_drewN ?_ _) | (with_reducible refine Kd.C_drew ?_)))
             (case aB => exact (by repeat (first | (with_reducible first | exact HB.out | apply below_alloc | apply pw_below_drewN | apply below_drew1 | refine below_set ?_ GA.out | refine below_set ?_ GD.out) | exact HB.out)))
             (case aF => exact (fun _ _ => trivial))
             (case aO => exact (by (with_reducible repeat (first | apply Kd.R_alloc | apply Kd.R_drewN | apply Kd.R_drew)); exact HO487.out))
             (case aS => exact (below_size (by repeat (first | (with_reducible first | exact HB.out | apply below_alloc | apply pw_below_drewN | apply below_drew1 | refine below_set ?_ GA.out | refine below_set ?_ GD.out) | exact HB.out))))
             (case aL => have := LMc120.out; omega)
             intro v492 w137 ho hb hg hat
             rw [← Ny491.out] at ho
             have n0_ := Aside0.mk (Kd.V_afterv (ok := (fun k_ => k_ ≠ gA ∧ k_ ≠ gB)) (by (with_reducible repeat (first | apply Kd.V_alloc | apply Kd.V_drewN | apply Kd.V_drew)); exact HO_8.out) hg hat)
             have n1_ := Aside0.mk (blk_grown (g := gA) (o := .cells #[.string ⟨#[92, 116]⟩, .string ⟨#[10]⟩, .string ⟨#[1]⟩, .string ⟨#[127]⟩, .string ⟨#[255]⟩] 34 (0, 0)) (by exact BA.out) hg (Kd.R_ne HO487.out BA.out (by decide)))
             have n2_ := Aside0.mk (blk_grown (g := gB) (o := .cells #[.int .i64 13, .int .i64 12, .int .i64 11, .int .i64 11, .int .i64 10] 35 (0, 0)) (by exact BB.out) hg (Kd.R_ne HO487.out BB.out (by decide)))
             have n3_ := Aside0.mk (Kd.V_afterv (ok := (fun k_ => k_ ≠ gA ∧ k_ ≠ gB)) (by (with_reducible repeat (first | apply Kd.V_alloc | apply Kd.V_drewN | apply Kd.V_drew)); exact H9.out) hg hat)
             have n4_ := Aside0.mk (Kd.V_afterv (ok := (fun k_ => k_ ≠ gA ∧ k_ ≠ gB)) (by (with_reducible repeat (first | apply Kd.V_alloc | apply Kd.V_drewN | apply Kd.V_drew)); exact Kd.V_mono HO490.out (fun _ hk => ⟨⟨hk.2.1, hk.2.2⟩, hk.1⟩)) hg hat)
             have n5_ := Aside0.mk (hb)
             have n6_ := Aside0.mk (ho)
             clear HO_8
             clear BA
             clear BB
             clear H9
             clear HO490
             clear HB
             clear HO487
             have HO_8 := n0_
             have BA := n1_
             have BB := n2_
             have H9 := n3_
             have HO490 := n4_
             have HB := n5_
             have HO493 := n6_
             clear n0_ n1_ n2_ n3_ n4_ n5_ n6_
             clear ho hb hg hat
             refine hK.out _ _ ⟨(blk_cell BA.out 0).trans rfl, (blk_cell BA.out 1).trans rfl, (blk_cell BA.out 2).trans rfl, (blk_cell BA.out 3).trans rfl, (blk_cell BA.out 4).trans rfl⟩ (fun hHeld => ?_)
             clear hK K
             refine norm_ (a' := ?_) ?_ ?_
             rotate_left
             ·show Act.put _ (some 48) _ = _
              simp only [Act.put, List.setIfInBounds_toArray, List.set_cons_zero, List.set_cons_succ, i64_w, i32_w]
              rfl
             refine pure_ (i := 14) (N := some 13) (v := ?_) (a' := ?_) #[true, true, true, true, true, true, true, true, true, true, true, true, true, true, true] rfl rfl (any_of HT_.out (by kernel_rfl)) (fun _ _ _ h => h) (Or.inl ⟨by rfl, ?_⟩) ?_ ?_
             rotate_left
             ·intro w'
              go_simp
              with_reducible rfl
             rotate_left
             ·simp only [Act.put, List.setIfInBounds_toArray, List.set_cons_zero, List.set_cons_succ, i64_w, i32_w]
              rfl
             refine done_ (done_of HT_.out (by kernel_rfl)) ?_
             obtain ⟨Ao139, co139, eo139⟩ := Kd.R_slice HO493.out
             subst eo139
             go_upto_region 12 with (first | ((with_reducible refine gate_callee (f := 9) rfl ?_); refine goesL_ (some 51) rfl rfl Tryd.func9 (by kernel_rfl) rfl #[.slice Ao139 y491.length co139] rfl (by (try simp only [List.map_toArray, List.map_cons, List.map_nil]); first | done | rfl | (simp only [List.length_drop, List.length_take]; rfl)) ?_; (with_reducible refine (quote_Take.calls kj6 _ _ y491 t494 t495 t496 _ ?side1 ?side2 A121.out).mono ?_); (case side1 => repeat (first | exact (Kd.R_reads' HO493.out).2.2 | (with_reducible refine Kd.C_alloc ?_ _) | (with_reducible refine Kd.C_drewN ?_ _) | (with_reducible refine Kd.C_drew ?_))); (case side2 => exact (Kd.R_reads' HO493.out).2.1); rintro e w140 ⟨v497, rfl, ho0, hb⟩; refine ⟨_, rfl, ?_⟩; have n0_ := Aside0.mk (Kd.V_elder' (by (with_reducible repeat (first | apply Kd.V_alloc | apply Kd.V_drewN | apply Kd.V_drew)); exact HO_8.out) (Kd.R_base ho0) hb); have n1_ := Aside0.mk (Kd.V_elder' (by (with_reducible repeat (first | apply Kd.V_alloc | apply Kd.V_drewN | apply Kd.V_drew)); exact H9.out) (Kd.R_base ho0) hb); have n2_ := Aside0.mk (Kd.V_elder' (by (with_reducible repeat (first | apply Kd.V_alloc | apply Kd.V_drewN | apply Kd.V_drew)); exact HO490.out) (Kd.R_base ho0) hb); have n3_ := Aside0.mk (Kd.R_elder' (by (with_reducible repeat (first | apply Kd.R_alloc | apply Kd.R_drewN | apply Kd.R_drew)); exact HO493.out) (Kd.R_base ho0) hb); have n4_ := Aside0.mk (Kd.R_lower (Kd.R_new' ho0 (Kd.R_lt (by (with_reducible repeat (first | apply Kd.R_alloc | apply Kd.R_drewN | apply Kd.R_drew)); exact HO493.out))) (below_size (by repeat (first | (with_reducible first | exact HB.out | apply below_alloc | apply pw_below_drewN | apply below_drew1 | refine below_set ?_ GA.out | refine below_set ?_ GD.out) | exact HB.out)))); have n5_ := Aside0.mk (blk_below (g := gA) (o := .cells #[.string ⟨#[92, 116]⟩, .string ⟨#[10]⟩, .string ⟨#[1]⟩, .string ⟨#[127]⟩, .string ⟨#[255]⟩] 34 (0, 0)) (by exact BA.out) hb); have n6_ := Aside0.mk (blk_below (g := gB) (o := .cells #[.int .i64 13, .int .i64 12, .int .i64 11, .int .i64 11, .int .i64 10] 35 (0, 0)) (by exact BB.out) hb); have n7_ := Aside0.mk (below_step (by repeat (first | (with_reducible first | exact HB.out | apply below_alloc | apply pw_below_drewN | apply below_drew1 | refine below_set ?_ GA.out | refine below_set ?_ GD.out) | exact HB.out)) hb); clear HO_8; clear H9; clear HO490; clear HO493; clear BA; clear BB; clear HB; have HO_8 := n0_; have H9 := n1_; have HO490 := n2_; have HO493 := n3_; have HO498 := n4_; have BA := n5_; have BB := n6_; have HB := n7_; clear n0_ n1_ n2_ n3_ n4_ n5_ n6_ n7_; (try clear hb); (try clear hb2); (try clear hk); (try clear hi); (try clear ho0)))
             (try simp only [Act.put, List.setIfInBounds_toArray, List.set_cons_zero, List.set_cons_succ])
             go_cut [6] (fun v6 wc => ∃ (kq : Nat) (x6_121 : Bool), v6 = .bool x6_121 ∧ Aside0 (tmesislaw04_QuoteFirst.j4 kq x6_121 = some r) ∧ Aside0 (kq ≤ kj6) ∧ Aside0 (wc.heap[gA]? = some (.cells #[.string ⟨#[92, 116]⟩, .string ⟨#[10]⟩, .string ⟨#[1]⟩, .string ⟨#[127]⟩, .string ⟨#[255]⟩] 34 (0, 0))) ∧ Aside0 (wc.heap[gB]? = some (.cells #[.int .i64 13, .int .i64 12, .int .i64 11, .int .i64 11, .int .i64 10] 35 (0, 0))) ∧ Aside0 (Below w.heap.size w wc))
             case first =>
              have H := HC122.out
              clear HC122
              by_cases c141 : t419 = true
              ·subst c141
               have H1 : (if (t494.length : Int) = 0 then (if t495 = (ji17) then (tmesislaw04_QuoteFirst.j4 kj6 (t496 == 11)) else (tmesislaw04_QuoteFirst.j4 kj6 false)) else (tmesislaw04_QuoteFirst.j4 kj6 false)) = some r := by rw [if_pos rfl] at H; exact H
               clear H
               have H := H1
               clear H1
               by_cases c142 : (t494.length : Int) = 0
               ·rw [if_pos c142] at H
                have c142b0 : ((t494.length : Int) == 0) = true := beq_iff_eq.mpr c142
                have c142b1 : ((t494.length : Int) != 0) = false := bne_eq_false_iff_eq.mpr c142
                clear c142
                (first | rw [c142b0] | (simp only [i64_w, i32_w]; rw [c142b0]) | skip)
                by_cases c143 : t495 = (ji17)
                ·rw [if_pos c143] at H
                 have c143b0 : (t495 == (ji17)) = true := beq_iff_eq.mpr c143
                 have c143b1 : (t495 != (ji17)) = false := bne_eq_false_iff_eq.mpr c143
                 clear c143
                 have H' := Aside0.mk H
                 clear H
                 obtain ⟨Ao144, co144, eo144⟩ := Kd.R_slice HO498.out
                 subst eo144
                 have hnb145 := NC.out
                 have hnc145 := NA.out
                 have hcz146_0 : w140.cell? ⟨gB, 0, none⟩ = some (.int .i64 13) := (blk_cell BB.out 0).trans rfl
                 have hcz146_1 : w140.cell? ⟨gB, 1, none⟩ = some (.int .i64 12) := (blk_cell BB.out 1).trans rfl
                 have hcz146_2 : w140.cell? ⟨gB, 2, none⟩ = some (.int .i64 11) := (blk_cell BB.out 2).trans rfl
                 have hcz146_3 : w140.cell? ⟨gB, 3, none⟩ = some (.int .i64 11) := (blk_cell BB.out 3).trans rfl
                 have hcz146_4 : w140.cell? ⟨gB, 4, none⟩ = some (.int .i64 10) := (blk_cell BB.out 4).trans rfl
                 have hfz146_0 := blk_frozen BB.out 0
                 have hfz146_1 := blk_frozen BB.out 1
                 have hfz146_2 := blk_frozen BB.out 2
                 have hfz146_3 := blk_frozen BB.out 3
                 have hfz146_4 := blk_frozen BB.out 4
                 go_wp2
                 go_meet
                 case rel => exact ⟨_, ((t496 == 11)), (by first | rfl | (simp; done) | (simp [*]; done)), H', ⟨by have := HJ6.out; first | omega | exact Nat.le_refl _⟩, ⟨by exact BA.out⟩, ⟨by exact BB.out⟩, ⟨by repeat (first | (with_reducible first | exact HB.out | apply below_alloc | apply pw_below_drewN | apply below_drew1 | refine below_set ?_ GA.out | refine below_set ?_ GD.out) | exact HB.out)⟩⟩
                ·rw [if_neg c143] at H
                 have c143b0 : (t495 == (ji17)) = false := beq_eq_false_iff_ne.mpr c143
                 have c143b1 : (t495 != (ji17)) = true := bne_iff_ne.mpr c143
                 have H' := Aside0.mk H
                 clear H
                 obtain ⟨Ao147, co147, eo147⟩ := Kd.R_slice HO498.out
                 subst eo147
                 go_wp2
                 go_meet
                 case rel => exact ⟨_, (false), (by first | rfl | (simp; done) | (simp [*]; done)), H', ⟨by have := HJ6.out; first | omega | exact Nat.le_refl _⟩, ⟨by exact BA.out⟩, ⟨by exact BB.out⟩, ⟨by repeat (first | (with_reducible first | exact HB.out | apply below_alloc | apply pw_below_drewN | apply below_drew1 | refine below_set ?_ GA.out | refine below_set ?_ GD.out) | exact HB.out)⟩⟩
               ·rw [if_neg c142] at H
                have c142b0 : ((t494.length : Int) == 0) = false := beq_eq_false_iff_ne.mpr c142
                have c142b1 : ((t494.length : Int) != 0) = true := bne_iff_ne.mpr c142
                have c142b2 : ¬ (t494 = []) := fun h_ => c142 (by rw [h_]; rfl)
                (first | rw [c142b0] | (simp only [i64_w, i32_w]; rw [c142b0]) | skip)
                have H' := Aside0.mk H
                clear H
                obtain ⟨Ao148, co148, eo148⟩ := Kd.R_slice HO498.out
                subst eo148
                go_wp2
                go_meet
                case rel => exact ⟨_, (false), (by first | rfl | (simp; done) | (simp [*]; done)), H', ⟨by have := HJ6.out; first | omega | exact Nat.le_refl _⟩, ⟨by exact BA.out⟩, ⟨by exact BB.out⟩, ⟨by repeat (first | (with_reducible first | exact HB.out | apply below_alloc | apply pw_below_drewN | apply below_drew1 | refine below_set ?_ GA.out | refine below_set ?_ GD.out) | exact HB.out)⟩⟩
              ·replace c141 := Bool.eq_false_iff.mpr c141
               subst c141
               have H1 : (tmesislaw04_QuoteFirst.j4 kj6 false) = some r := by rw [if_neg (show ¬ (false = true) by decide)] at H; exact H
               clear H
               have H := H1
               clear H1
               have H' := Aside0.mk H
               clear H
               go_wp2
               go_meet
               case rel => exact ⟨_, (false), (by first | rfl | (simp; done) | (simp [*]; done)), H', ⟨by have := HJ6.out; first | omega | exact Nat.le_refl _⟩, ⟨by exact BA.out⟩, ⟨by exact BB.out⟩, ⟨by repeat (first | (with_reducible first | exact HB.out | apply below_alloc | apply pw_below_drewN | apply below_drew1 | refine below_set ?_ GA.out | refine below_set ?_ GD.out) | exact HB.out)⟩⟩
             case rest =>
              clear HC122
              (try clear c1); (try clear q1); (try clear c2); (try clear p2); (try clear c3); (try clear q3); (try clear c4); (try clear c5); (try clear c6); (try clear p6); (try clear q6); (try clear c7); (try clear c8); (try clear c9); (try clear q9); (try clear c10); (try clear c11); (try clear c12); (try clear c12b1); (try clear q13); (try clear c14); (try clear c15); (try clear c15b0); (try clear c15b1); (try clear c18); (try clear c18b0); (try clear c18b1); (try clear c19); (try clear c19b0); (try clear c19b1); (try clear c20); (try clear c21); (try clear c21b0); (try clear c21b1); (try clear c22); (try clear c24); (try clear c31); (try clear q35); (try clear c45); (try clear c46); (try clear c46b0); (try clear c46b1); (try clear c46b2); (try clear c47); (try clear c47b0); (try clear c47b1); (try clear c49); (try clear c53); (try clear c53b0); (try clear c53b1); (try clear c54); (try clear c56); (try clear c63); (try clear q67); (try clear c77); (try clear c78); (try clear c78b0); (try clear c78b1); (try clear c78b2); (try clear c79); (try clear c79b0); (try clear c79b1); (try clear c81); (try clear c85); (try clear c85b0); (try clear c85b1); (try clear c86); (try clear c88); (try clear c95); (try clear q99); (try clear c109); (try clear c110); (try clear c110b0); (try clear c110b1); (try clear c110b2); (try clear c111); (try clear c111b0); (try clear c111b1); (try clear c113); (try clear c117); (try clear c117b0); (try clear c117b1); (try clear c118); (try clear c120); (try clear c127); (try clear q131); (try clear c141); (try clear c142); (try clear c142b0); (try clear c142b1); (try clear c142b2); (try clear c143); (try clear c143b0); (try clear c143b1); (try clear c145); (try clear p2); (try clear p6); (try clear q131); (try clear q3); (try clear q35); (try clear q6); (try clear q67); (try clear q99)
              obtain ⟨kq, x6_121, rfl, HA, HJ121, BA, BB, HB⟩ := hcut
              cases kq with
              | zero => exact absurd HA.out (by simp [tmesislaw04_QuoteFirst.j4])
              | succ kj121 =>
               have H := HA.out
               clear HA
               simp only [tmesislaw04_QuoteFirst.j4] at H
               obtain rfl := Option.some.inj H
               go_wp2
               go_ret
               exact ⟨by first | rfl | (simp [errW_none, errW_some] <;> rfl) | (simp only [← hji17]; first | rfl | (simp [errW_none, errW_some] <;> rfl)) | (simp [*, errW_none, errW_some] <;> rfl), by repeat (first | (with_reducible first | exact HB.out | apply below_alloc | apply pw_below_drewN | apply below_drew1 | refine below_set ?_ GA.out | refine below_set ?_ GD.out) | exact HB.out)⟩
            ·rw [if_neg c120] at H
             exact absurd H (by simp)
           ·rw [if_neg c118] at H
            exact absurd H (by simp)
          ·rw [if_neg c117] at H
           have c117b0 : ((Int.tmod a1 5) == 3) = false := beq_eq_false_iff_ne.mpr c117
           have c117b1 : ((Int.tmod a1 5) != 3) = true := bne_iff_ne.mpr c117
           by_cases c149 : (Int.tmod a1 5) = 4
           ·rw [if_pos c149] at H
            have c149b0 : ((Int.tmod a1 5) == 4) = true := beq_iff_eq.mpr c149
            have c149b1 : ((Int.tmod a1 5) != 4) = false := bne_eq_false_iff_eq.mpr c149
            have hixc149 : (Int.tmod a1 5) = 4 := c149
            clear c149
            by_cases c150 : y440.length + 1 < 140737488355328
            ·rw [if_pos c150] at H
             have LMc150 := Aside0.mk c150
             clear c150
             obtain ⟨y499, hy499⟩ : ∃ y_ : List Int, y_ = (y440 ++ bytesOf (⟨#[255]⟩ : ByteArray)) := ⟨_, rfl⟩
             replace H : ((tmesislaw04_few.f l2).bind fun t502 => (if y499.length + t502.length < 140737488355328 then ((quote_Take.f kj6 (y499 ++ t502)).bind fun bt508 => (if t419 = true then (if (bt508.1.length : Int) = 0 then (if bt508.2.1 = (ji17) then (tmesislaw04_QuoteFirst.j5 kj6 (bt508.2.2 == 10)) else (tmesislaw04_QuoteFirst.j5 kj6 false)) else (tmesislaw04_QuoteFirst.j5 kj6 false)) else (tmesislaw04_QuoteFirst.j5 kj6 false))) else (none))) = some r := by first | (rw [hy499]; with_reducible exact H) | (have H2_ := (Option.bind_some _ _).symm.trans H; rw [hy499]; with_reducible exact H2_) | (have H2_ := (Option.bind_some _ _).symm.trans H; with_reducible exact H2_) | with_reducible exact H | (rw [hy499]; exact H) | exact H
             have Ny499 := Aside0.mk hy499
             clear hy499
             replace H := Option.bind_eq_some_iff.mp H
             obtain ⟨t502, A1510, H⟩ := H
             replace H : (if y499.length + t502.length < 140737488355328 then ((quote_Take.f kj6 (y499 ++ t502)).bind fun bt508 => (if t419 = true then (if (bt508.1.length : Int) = 0 then (if bt508.2.1 = (ji17) then (tmesislaw04_QuoteFirst.j5 kj6 (bt508.2.2 == 10)) else (tmesislaw04_QuoteFirst.j5 kj6 false)) else (tmesislaw04_QuoteFirst.j5 kj6 false)) else (tmesislaw04_QuoteFirst.j5 kj6 false))) else (none)) = some r := H
             have A151 := Aside0.mk A1510
             clear A1510
             by_cases c152 : y499.length + t502.length < 140737488355328
             ·rw [if_pos c152] at H
              have LMc152 := Aside0.mk c152
              clear c152
              obtain ⟨y505, hy505⟩ : ∃ y_ : List Int, y_ = (y499 ++ t502) := ⟨_, rfl⟩
              replace H : ((quote_Take.f kj6 y505).bind fun bt508 => (if t419 = true then (if (bt508.1.length : Int) = 0 then (if bt508.2.1 = (ji17) then (tmesislaw04_QuoteFirst.j5 kj6 (bt508.2.2 == 10)) else (tmesislaw04_QuoteFirst.j5 kj6 false)) else (tmesislaw04_QuoteFirst.j5 kj6 false)) else (tmesislaw04_QuoteFirst.j5 kj6 false))) = some r := by first | (rw [hy505]; with_reducible exact H) | (have H2_ := (Option.bind_some _ _).symm.trans H; rw [hy505]; with_reducible exact H2_) | (have H2_ := (Option.bind_some _ _).symm.trans H; with_reducible exact H2_) | with_reducible exact H | (rw [hy505]; exact H) | exact H
              have Ny505 := Aside0.mk hy505
              clear hy505
              replace H := Option.bind_eq_some_iff.mp H
              obtain ⟨⟨t508, t509, t510⟩, A1530, H⟩ := H
              replace H : (if t419 = true then (if (t508.length : Int) = 0 then (if t509 = (ji17) then (tmesislaw04_QuoteFirst.j5 kj6 (t510 == 10)) else (tmesislaw04_QuoteFirst.j5 kj6 false)) else (tmesislaw04_QuoteFirst.j5 kj6 false)) else (tmesislaw04_QuoteFirst.j5 kj6 false)) = some r := H
              have A153 := Aside0.mk A1530
              clear A1530
              have HC154 := Aside0.mk H
              clear H
              obtain ⟨Ao155, co155, eo155⟩ := Kd.V_slice HO_8.out
              subst eo155
              try go_wp2_with (first | ((with_reducible refine gate_dst (N := 10) rfl ?_); (try (refine gate_guard (by rfl) ?_; dsimp only)); refine box_event ?hg (N := 10) ?hd (cs := #[.string ⟨#[]⟩, .string ⟨#[]⟩, .string ⟨#[]⟩, .string ⟨#[]⟩, .string ⟨#[]⟩]) (t := 34) ?hr ?_; (case hd => rfl); (case hg => rfl); (case hr => first | (go_simp; done) | (go_simp; rfl)); intro gA hg w156 hbox hb; have n0_ := Aside0.mk (Kd.V_below (Kd.V_elderB (by (with_reducible repeat (first | apply Kd.V_alloc | apply Kd.V_drewN | apply Kd.V_drew)); exact HO_8.out) gA (Nat.le_of_eq hg.symm)) hb); have n1_ := Aside0.mk (below_step (by repeat (first | (with_reducible first | exact HB.out | apply below_alloc | apply pw_below_drewN | apply below_drew1) | exact HB.out)) hb); have n2_ := Aside0.mk (hbox); have n3_ := Aside0.mk ((by rw [hg]; exact (below_size (by repeat (first | (with_reducible first | exact HB.out | apply below_alloc | apply pw_below_drewN | apply below_drew1) | exact HB.out))) : w.heap.size ≤ gA)); have n4_ := Aside0.mk ((by rw [hg]; exact (below_size (by repeat (first | (with_reducible first | exact HB.out | apply below_alloc | apply pw_below_drewN | apply below_drew1) | exact HB.out))) : w.heap.size ≤ gA)); clear HO_8; clear HB; have HO_8 := n0_; have HB := n1_; have BA := n2_; have GM := n3_; have GA := n4_; clear n0_ n1_ n2_ n3_ n4_; clear hb hbox hg; have hcz157_0 : w156.cell? ⟨gA, 0, none⟩ = some (.string ⟨#[]⟩) := (blk_cell BA.out 0).trans rfl; have hcz157_1 : w156.cell? ⟨gA, 1, none⟩ = some (.string ⟨#[]⟩) := (blk_cell BA.out 1).trans rfl; have hcz157_2 : w156.cell? ⟨gA, 2, none⟩ = some (.string ⟨#[]⟩) := (blk_cell BA.out 2).trans rfl; have hcz157_3 : w156.cell? ⟨gA, 3, none⟩ = some (.string ⟨#[]⟩) := (blk_cell BA.out 3).trans rfl; have hcz157_4 : w156.cell? ⟨gA, 4, none⟩ = some (.string ⟨#[]⟩) := (blk_cell BA.out 4).trans rfl; have hfz157_0 := blk_frozen BA.out 0; have hfz157_1 := blk_frozen BA.out 1; have hfz157_2 := blk_frozen BA.out 2; have hfz157_3 := blk_frozen BA.out 3; have hfz157_4 := blk_frozen BA.out 4) | ((with_reducible refine gate_dst (N := 11) rfl ?_); (try (refine gate_guard (by rfl) ?_; dsimp only)); refine box_event ?hg (N := 11) ?hd (cs := #[.int .i64 0, .int .i64 0, .int .i64 0, .int .i64 0, .int .i64 0]) (t := 35) ?hr ?_; (case hd => rfl); (case hg => rfl); (case hr => first | (go_simp; done) | (go_simp; rfl)); intro gB hg w158 hbox hb; have n0_ := Aside0.mk (Kd.V_below (Kd.V_elderB (by (with_reducible repeat (first | apply Kd.V_alloc | apply Kd.V_drewN | apply Kd.V_drew)); exact (Kd.V_mono (Kd.V_far (p := ⟨gA, 4, none⟩) (Kd.V_far (p := ⟨gA, 3, none⟩) (Kd.V_far (p := ⟨gA, 2, none⟩) (Kd.V_far (p := ⟨gA, 1, none⟩) (Kd.V_far (p := ⟨gA, 0, none⟩) (Kd.V_mono HO_8.out (fun k_ hk => (⟨hk, hk.2⟩ : _ ∧ k_ ≠ gA))) (fun _ hk => hk.2) (.string ⟨#[92, 116]⟩)) (fun _ hk => hk.2) (.string ⟨#[10]⟩)) (fun _ hk => hk.2) (.string ⟨#[1]⟩)) (fun _ hk => hk.2) (.string ⟨#[127]⟩)) (fun _ hk => hk.2) (.string ⟨#[255]⟩)) (fun _ h_ => h_.1))) gB (Nat.le_of_eq hg.symm)) hb); have n1_ := Aside0.mk (blk_below (g := gA) (o := .cells #[.string ⟨#[92, 116]⟩, .string ⟨#[10]⟩, .string ⟨#[1]⟩, .string ⟨#[127]⟩, .string ⟨#[255]⟩] 34 (0, 0)) (by refine blk_put (cs := #[.string ⟨#[92, 116]⟩, .string ⟨#[10]⟩, .string ⟨#[1]⟩, .string ⟨#[127]⟩, .string ⟨#[]⟩]) ?_ 4 _ rfl; refine blk_put (cs := #[.string ⟨#[92, 116]⟩, .string ⟨#[10]⟩, .string ⟨#[1]⟩, .string ⟨#[]⟩, .string ⟨#[]⟩]) ?_ 3 _ rfl; refine blk_put (cs := #[.string ⟨#[92, 116]⟩, .string ⟨#[10]⟩, .string ⟨#[]⟩, .string ⟨#[]⟩, .string ⟨#[]⟩]) ?_ 2 _ rfl; refine blk_put (cs := #[.string ⟨#[92, 116]⟩, .string ⟨#[]⟩, .string ⟨#[]⟩, .string ⟨#[]⟩, .string ⟨#[]⟩]) ?_ 1 _ rfl; refine blk_put (cs := #[.string ⟨#[]⟩, .string ⟨#[]⟩, .string ⟨#[]⟩, .string ⟨#[]⟩, .string ⟨#[]⟩]) ?_ 0 _ rfl; exact BA.out) hb); have n2_ := Aside0.mk (below_step (by repeat (first | (with_reducible first | exact HB.out | apply below_alloc | apply pw_below_drewN | apply below_drew1 | refine below_set ?_ GA.out) | exact HB.out)) hb); have n3_ := Aside0.mk (hbox); have n4_ := Aside0.mk ((by rw [hg]; exact (below_size (by repeat (first | (with_reducible first | exact HB.out | apply below_alloc | apply pw_below_drewN | apply below_drew1 | refine below_set ?_ GA.out) | exact HB.out))) : w.heap.size ≤ gB)); have n5_ := Aside0.mk ((by rw [hg]; exact (below_size (by repeat (first | (with_reducible first | exact HB.out | apply below_alloc | apply pw_below_drewN | apply below_drew1 | refine below_set ?_ GA.out) | exact HB.out))) : w.heap.size ≤ gB)); have n6_ := Aside0.mk ((by rw [hg]; exact Nat.ne_of_lt (blk_lt (g := gA) (o := .cells #[.string ⟨#[92, 116]⟩, .string ⟨#[10]⟩, .string ⟨#[1]⟩, .string ⟨#[127]⟩, .string ⟨#[255]⟩] 34 (0, 0)) (by refine blk_put (cs := #[.string ⟨#[92, 116]⟩, .string ⟨#[10]⟩, .string ⟨#[1]⟩, .string ⟨#[127]⟩, .string ⟨#[]⟩]) ?_ 4 _ rfl; refine blk_put (cs := #[.string ⟨#[92, 116]⟩, .string ⟨#[10]⟩, .string ⟨#[1]⟩, .string ⟨#[]⟩, .string ⟨#[]⟩]) ?_ 3 _ rfl; refine blk_put (cs := #[.string ⟨#[92, 116]⟩, .string ⟨#[10]⟩, .string ⟨#[]⟩, .string ⟨#[]⟩, .string ⟨#[]⟩]) ?_ 2 _ rfl; refine blk_put (cs := #[.string ⟨#[92, 116]⟩, .string ⟨#[]⟩, .string ⟨#[]⟩, .string ⟨#[]⟩, .string ⟨#[]⟩]) ?_ 1 _ rfl; refine blk_put (cs := #[.string ⟨#[]⟩, .string ⟨#[]⟩, .string ⟨#[]⟩, .string ⟨#[]⟩, .string ⟨#[]⟩]) ?_ 0 _ rfl; exact BA.out)) : gA ≠ gB)); have n7_ := Aside0.mk ((by rw [hg]; exact Nat.ne_of_gt (blk_lt (g := gA) (o := .cells #[.string ⟨#[92, 116]⟩, .string ⟨#[10]⟩, .string ⟨#[1]⟩, .string ⟨#[127]⟩, .string ⟨#[255]⟩] 34 (0, 0)) (by refine blk_put (cs := #[.string ⟨#[92, 116]⟩, .string ⟨#[10]⟩, .string ⟨#[1]⟩, .string ⟨#[127]⟩, .string ⟨#[]⟩]) ?_ 4 _ rfl; refine blk_put (cs := #[.string ⟨#[92, 116]⟩, .string ⟨#[10]⟩, .string ⟨#[1]⟩, .string ⟨#[]⟩, .string ⟨#[]⟩]) ?_ 3 _ rfl; refine blk_put (cs := #[.string ⟨#[92, 116]⟩, .string ⟨#[10]⟩, .string ⟨#[]⟩, .string ⟨#[]⟩, .string ⟨#[]⟩]) ?_ 2 _ rfl; refine blk_put (cs := #[.string ⟨#[92, 116]⟩, .string ⟨#[]⟩, .string ⟨#[]⟩, .string ⟨#[]⟩, .string ⟨#[]⟩]) ?_ 1 _ rfl; refine blk_put (cs := #[.string ⟨#[]⟩, .string ⟨#[]⟩, .string ⟨#[]⟩, .string ⟨#[]⟩, .string ⟨#[]⟩]) ?_ 0 _ rfl; exact BA.out)) : gB ≠ gA)); clear HO_8; clear BA; clear HB; have HO_8 := n0_; have BA := n1_; have HB := n2_; have BB := n3_; have GN := n4_; have GD := n5_; have NA := n6_; have NC := n7_; clear n0_ n1_ n2_ n3_ n4_ n5_ n6_ n7_; clear hb hbox hg; have hnb159 := NC.out; have hnc159 := NA.out; have hcz160_0 : w158.cell? ⟨gB, 0, none⟩ = some (.int .i64 0) := (blk_cell BB.out 0).trans rfl; have hcz160_1 : w158.cell? ⟨gB, 1, none⟩ = some (.int .i64 0) := (blk_cell BB.out 1).trans rfl; have hcz160_2 : w158.cell? ⟨gB, 2, none⟩ = some (.int .i64 0) := (blk_cell BB.out 2).trans rfl; have hcz160_3 : w158.cell? ⟨gB, 3, none⟩ = some (.int .i64 0) := (blk_cell BB.out 3).trans rfl; have hcz160_4 : w158.cell? ⟨gB, 4, none⟩ = some (.int .i64 0) := (blk_cell BB.out 4).trans rfl; have hfz160_0 := blk_frozen BB.out 0; have hfz160_1 := blk_frozen BB.out 1; have hfz160_2 := blk_frozen BB.out 2; have hfz160_3 := blk_frozen BB.out 3; have hfz160_4 := blk_frozen BB.out 4))
              have n0_ : Aside0 (Kd.V (Kd.int .u8) 5 (((((w158.setCell ⟨gB, 0, none⟩ (.int .i64 13)).setCell ⟨gB, 1, none⟩ (.int .i64 12)).setCell ⟨gB, 2, none⟩ (.int .i64 11)).setCell ⟨gB, 3, none⟩ (.int .i64 11)).setCell ⟨gB, 4, none⟩ (.int .i64 10)) w.heap.size (fun k_ => k_ ≠ gA ∧ k_ ≠ gB) (.slice Ao155 x8_6.length co155) x8_6) := ⟨by (with_reducible repeat (first | apply Kd.V_alloc | apply Kd.V_drewN | apply Kd.V_drew)); exact Kd.V_mono (Kd.V_far (p := ⟨gB, 4, none⟩) (Kd.V_far (p := ⟨gB, 3, none⟩) (Kd.V_far (p := ⟨gB, 2, none⟩) (Kd.V_far (p := ⟨gB, 1, none⟩) (Kd.V_far (p := ⟨gB, 0, none⟩) (Kd.V_mono HO_8.out (fun k_ hk => (⟨hk, hk.2⟩ : _ ∧ k_ ≠ gB))) (fun _ hk => hk.2) (.int .i64 13)) (fun _ hk => hk.2) (.int .i64 12)) (fun _ hk => hk.2) (.int .i64 11)) (fun _ hk => hk.2) (.int .i64 11)) (fun _ hk => hk.2) (.int .i64 10)) (fun _ hk => ⟨hk.1.1.2, hk.1.2⟩)⟩
              have n1_ : Aside0 ((((((w158.setCell ⟨gB, 0, none⟩ (.int .i64 13)).setCell ⟨gB, 1, none⟩ (.int .i64 12)).setCell ⟨gB, 2, none⟩ (.int .i64 11)).setCell ⟨gB, 3, none⟩ (.int .i64 11)).setCell ⟨gB, 4, none⟩ (.int .i64 10)).heap[gA]? = some (.cells #[.string ⟨#[92, 116]⟩, .string ⟨#[10]⟩, .string ⟨#[1]⟩, .string ⟨#[127]⟩, .string ⟨#[255]⟩] 34 (0, 0))) := ⟨by (with_reducible repeat (first | apply blk_drewN | apply blk_drew | apply blk_alloc | refine blk_far ?_ NA.out _)); exact BA.out⟩
              have n2_ : Aside0 ((((((w158.setCell ⟨gB, 0, none⟩ (.int .i64 13)).setCell ⟨gB, 1, none⟩ (.int .i64 12)).setCell ⟨gB, 2, none⟩ (.int .i64 11)).setCell ⟨gB, 3, none⟩ (.int .i64 11)).setCell ⟨gB, 4, none⟩ (.int .i64 10)).heap[gB]? = some (.cells #[.int .i64 13, .int .i64 12, .int .i64 11, .int .i64 11, .int .i64 10] 35 (0, 0))) := ⟨by refine blk_put (cs := #[.int .i64 13, .int .i64 12, .int .i64 11, .int .i64 11, .int .i64 0]) ?_ 4 _ rfl; refine blk_put (cs := #[.int .i64 13, .int .i64 12, .int .i64 11, .int .i64 0, .int .i64 0]) ?_ 3 _ rfl; refine blk_put (cs := #[.int .i64 13, .int .i64 12, .int .i64 0, .int .i64 0, .int .i64 0]) ?_ 2 _ rfl; refine blk_put (cs := #[.int .i64 13, .int .i64 0, .int .i64 0, .int .i64 0, .int .i64 0]) ?_ 1 _ rfl; refine blk_put (cs := #[.int .i64 0, .int .i64 0, .int .i64 0, .int .i64 0, .int .i64 0]) ?_ 0 _ rfl; exact BB.out⟩
              have n3_ : Aside0 (Below w.heap.size w (((((w158.setCell ⟨gB, 0, none⟩ (.int .i64 13)).setCell ⟨gB, 1, none⟩ (.int .i64 12)).setCell ⟨gB, 2, none⟩ (.int .i64 11)).setCell ⟨gB, 3, none⟩ (.int .i64 11)).setCell ⟨gB, 4, none⟩ (.int .i64 10))) := ⟨by repeat (first | (with_reducible first | exact HB.out | apply below_alloc | apply pw_below_drewN | apply below_drew1 | refine below_set ?_ GA.out | refine below_set ?_ GD.out) | exact HB.out)⟩
              (try clear HO_8)
              (try clear BA)
              (try clear BB)
              (try clear HB)
              generalize (((((w158.setCell ⟨gB, 0, none⟩ (.int .i64 13)).setCell ⟨gB, 1, none⟩ (.int .i64 12)).setCell ⟨gB, 2, none⟩ (.int .i64 11)).setCell ⟨gB, 3, none⟩ (.int .i64 11)).setCell ⟨gB, 4, none⟩ (.int .i64 10)) = w161 at n0_ n1_ n2_ n3_ ⊢
              have HO_8 := n0_
              have BA := n1_
              have BB := n2_
              have HB := n3_
              clear n0_ n1_ n2_ n3_
              have n0_ := Aside0.mk (Kd.V_drew HO_8.out)
              have n1_ := Aside0.mk (blk_drew BA.out)
              have n2_ := Aside0.mk (blk_drew BB.out)
              have n3_ := Aside0.mk (below_drew1 HB.out)
              clear HO_8
              clear BA
              clear BB
              clear HB
              have HO_8 := n0_
              have BA := n1_
              have BB := n2_
              have HB := n3_
              clear n0_ n1_ n2_ n3_
              have q163 : ((ji17) : Int) ≤ ((x8_6.length : Int) : Int) := of_decide_eq_true (by first | (with_reducible assumption) | assumption)
              obtain ⟨i0163, hi0163, _, hsz163, _⟩ := info_parts info5
              have hroom163 : x8_6.length ≤ co155 := (Kd.V_reads' HO_8.out).2.1
              have hC163 : Kd.F (Kd.int .u8) _ _ Ao155 x8_6.length x8_6 := (Kd.V_at (base := w.heap.size) HO_8.out).2.2
              have hcut163 := cut_to (P := Tryd.prog) 22 5 .i64 Tryd.underlying22 hi0163 Ao155 x8_6.length co155 (ji17) (of_decide_eq_true (by first | (with_reducible assumption) | assumption)) q163 hroom163
              have hr163 := Kd.F_take (m := ((ji17) : Int).toNat) hC163 (by omega)
              have hy163 : y435.length = ((ji17) : Int).toNat := (by rw [Ny435.out, List.length_take]; omega)
              rw [← Ny435.out] at hr163
              rw [← hy163] at hcut163
              have H9 := Aside0.mk (show Kd.V (Kd.int .u8) 5 _ w.heap.size _ (.slice Ao155 y435.length co155) y435 from Kd.V_mk (by omega) hr163)
              have HC439 := Aside0.mk (show y435.length ≤ co155 from by omega)
              clear hr163 hC163 hroom163 hi0163 hsz163
              have KY163 := Aside0.mk hy163
              clear hy163
              replace q163 := eq_true q163
              refine start_ (n := 15) (S := fun w' => w'.cell? ⟨gA, 0, none⟩ = some (.string ⟨#[92, 116]⟩) ∧ w'.cell? ⟨gA, 1, none⟩ = some (.string ⟨#[10]⟩) ∧ w'.cell? ⟨gA, 2, none⟩ = some (.string ⟨#[1]⟩) ∧ w'.cell? ⟨gA, 3, none⟩ = some (.string ⟨#[127]⟩) ∧ w'.cell? ⟨gA, 4, none⟩ = some (.string ⟨#[255]⟩)) (ds := []) #[false, false, false, false, false, false, false, false, false, false, false, false, false, false, false] (by kernel_rfl) rfl rfl ⟨(blk_cell BA.out 0).trans rfl, (blk_cell BA.out 1).trans rfl, (blk_cell BA.out 2).trans rfl, (blk_cell BA.out 3).trans rfl, (blk_cell BA.out 4).trans rfl⟩ (fun hHeld => ?_); refine with_tabW tmesislaw04_QuoteFirst.tab10 tmesislaw04_QuoteFirst.bits10 (fun HT_ HW_ => ?_)
              generalize w161.drew = w162 at HO_8 BA BB HB H9 hHeld ⊢
              refine pure_ (i := 1) (N := some 36) (v := ?_) (a' := ?_) #[false, true, false, false, false, false, false, false, false, false, false, false, false, false, false] rfl rfl (any_of HT_.out (by kernel_rfl)) (fun _ _ _ h => h) (Or.inl ⟨by rfl, ?_⟩) ?_ ?_
              rotate_left
              ·intro w'
               go_simp
               with_reducible rfl
              rotate_left
              ·simp only [Act.put, List.setIfInBounds_toArray, List.set_cons_zero, List.set_cons_succ, i64_w, i32_w]
               rfl
              refine pure_ (i := 2) (N := some 37) (v := ?_) (a' := ?_) #[false, true, true, false, false, false, false, false, false, false, false, false, false, false, false] rfl rfl (any_of HT_.out (by kernel_rfl)) (fun _ _ _ h => h) (Or.inl ⟨by rfl, ?_⟩) ?_ ?_
              rotate_left
              ·intro w'
               go_simp
               with_reducible rfl
              rotate_left
              ·simp only [Act.put, List.setIfInBounds_toArray, List.set_cons_zero, List.set_cons_succ, i64_w, i32_w]
               rfl
              refine pure_ (i := 3) (N := some 38) (v := ?_) (a' := ?_) #[false, true, true, true, false, false, false, false, false, false, false, false, false, false, false] rfl rfl (any_of HT_.out (by kernel_rfl)) (fun _ _ _ h => h) (Or.inl ⟨by rfl, ?_⟩) ?_ ?_
              rotate_left
              ·intro w'
               go_simp
               with_reducible rfl
              rotate_left
              ·simp only [Act.put, List.setIfInBounds_toArray, List.set_cons_zero, List.set_cons_succ, i64_w, i32_w]
               rfl
              refine pure_ (i := 4) (N := some 39) (v := ?_) (a' := ?_) #[false, true, true, true, true, false, false, false, false, false, false, false, false, false, false] rfl rfl (any_of HT_.out (by kernel_rfl)) (fun _ _ _ h => h) (Or.inl ⟨by rfl, ?_⟩) ?_ ?_
              rotate_left
              ·intro w'
               go_simp
               with_reducible rfl
              rotate_left
              ·simp only [Act.put, List.setIfInBounds_toArray, List.set_cons_zero, List.set_cons_succ, i64_w, i32_w]
               rfl
              refine pure_ (i := 5) (N := some 40) (v := ?_) (a' := ?_) #[false, true, true, true, true, true, false, false, false, false, false, false, false, false, false] rfl rfl (any_of HT_.out (by kernel_rfl)) (fun _ _ _ h => h) (Or.inl ⟨by rfl, ?_⟩) ?_ ?_
              rotate_left
              ·intro w'
               go_simp
               with_reducible rfl
              rotate_left
              ·simp only [Act.put, List.setIfInBounds_toArray, List.set_cons_zero, List.set_cons_succ, i64_w, i32_w]
               rfl
              refine pure_ (i := 7) (N := some 42) (v := ?_) (a' := ?_) #[false, true, true, true, true, true, false, true, false, false, false, false, false, false, false] rfl rfl (any_of HT_.out (by kernel_rfl)) (fun _ _ _ h => h) (Or.inl ⟨by rfl, ?_⟩) ?_ ?_
              rotate_left
              ·intro w'
               go_simp
               with_reducible rfl
              rotate_left
              ·simp only [Act.put, List.setIfInBounds_toArray, List.set_cons_zero, List.set_cons_succ, i64_w, i32_w]
               rfl
              refine pure_ (i := 8) (N := some 43) (v := ?_) (a' := ?_) #[false, true, true, true, true, true, false, true, true, false, false, false, false, false, false] rfl rfl (any_of HT_.out (by kernel_rfl)) (fun _ _ _ h => h) (Or.inl ⟨by rfl, ?_⟩) ?_ ?_
              rotate_left
              ·intro w'
               go_simp
               with_reducible rfl
              rotate_left
              ·simp only [Act.put, List.setIfInBounds_toArray, List.set_cons_zero, List.set_cons_succ, i64_w, i32_w]
               rfl
              refine pure_ (i := 11) (N := some 46) (v := ?_) (a' := ?_) #[false, true, true, true, true, true, false, true, true, false, false, true, false, false, false] rfl rfl (any_of HT_.out (by kernel_rfl)) (fun _ _ _ h => h) (Or.inl ⟨by rfl, ?_⟩) ?_ ?_
              rotate_left
              ·intro w'
               go_simp
               with_reducible rfl
              rotate_left
              ·simp only [Act.put, List.setIfInBounds_toArray, List.set_cons_zero, List.set_cons_succ, i64_w, i32_w]
               rfl
              refine take_ (i := 9) (N := some 44) (v := ?_) (a' := ?_) #[false, true, true, true, true, true, false, true, true, true, false, true, false, false, false] rfl rfl (take_ofW HT_.out HW_.out (by kernel_rfl)) (fun _ _ _ h => h) (Or.inl ⟨by rfl, ?_⟩) hHeld ?_ ?_
              rotate_left
              ·rintro w' ⟨s0, s1, s2, s3, s4⟩
               go_simp
               with_reducible rfl
              rotate_left
              ·simp only [Act.put, List.setIfInBounds_toArray, List.set_cons_zero, List.set_cons_succ, i64_w, i32_w]
               rfl
              refine one_ (i := 0) (N := some 35) #[true, true, true, true, true, true, false, true, true, true, false, true, false, false, false] rfl rfl (one_of HT_.out (by kernel_rfl)) (by decide) (fun K hK => ?_)
              refine Kd.R_lit_step (Kd.int .u8) _ 5 ?hg (N := 35) ?hd (xs := ([] : List Int)) (inner := []) (ok := fun _ => True) (okp := fun _ => True) ?hr ?hp (fun _ hk => hk) trivial (Below.refl _ _) (Nat.le_refl _) (by simp) ?_; (case hd => rfl); (case hg => rfl); (case hr => first | (go_simp; done) | (go_simp; rfl)); (case hp => exact (Reps.none _ _))
              intro v433 w164 ho165 hb hg_ hnew_
              clear hg_ hnew_
              (first | rw [← Ny432.out] at ho165 | (simp only [Int.reduceToNat] at ho165; rw [← Ny432.out] at ho165))
              have n0_ := Aside0.mk (Kd.V_elder' (by (with_reducible repeat (first | apply Kd.V_alloc | apply Kd.V_drewN | apply Kd.V_drew)); exact HO_8.out) (Kd.R_base ho165) hb)
              have n1_ := Aside0.mk (Kd.V_elder' (by (with_reducible repeat (first | apply Kd.V_alloc | apply Kd.V_drewN | apply Kd.V_drew)); exact H9.out) (Kd.R_base ho165) hb)
              have n2_ := Aside0.mk (Kd.R_lower ho165 (below_size (by repeat (first | (with_reducible first | exact HB.out | apply below_alloc | apply pw_below_drewN | apply below_drew1 | refine below_set ?_ GA.out | refine below_set ?_ GD.out) | exact HB.out))))
              have n3_ := Aside0.mk (blk_below (g := gA) (o := .cells #[.string ⟨#[92, 116]⟩, .string ⟨#[10]⟩, .string ⟨#[1]⟩, .string ⟨#[127]⟩, .string ⟨#[255]⟩] 34 (0, 0)) (by exact BA.out) hb)
              have n4_ := Aside0.mk (blk_below (g := gB) (o := .cells #[.int .i64 13, .int .i64 12, .int .i64 11, .int .i64 11, .int .i64 10] 35 (0, 0)) (by exact BB.out) hb)
              have n5_ := Aside0.mk (below_step (by repeat (first | (with_reducible first | exact HB.out | apply below_alloc | apply pw_below_drewN | apply below_drew1 | refine below_set ?_ GA.out | refine below_set ?_ GD.out) | exact HB.out)) hb)
              clear HO_8
              clear H9
              clear BA
              clear BB
              clear HB
              have HO_8 := n0_
              have H9 := n1_
              have HO434 := n2_
              have BA := n3_
              have BB := n4_
              have HB := n5_
              clear n0_ n1_ n2_ n3_ n4_ n5_
              clear hb ho165
              refine hK.out _ _ ⟨(blk_cell BA.out 0).trans rfl, (blk_cell BA.out 1).trans rfl, (blk_cell BA.out 2).trans rfl, (blk_cell BA.out 3).trans rfl, (blk_cell BA.out 4).trans rfl⟩ (fun hHeld => ?_)
              clear hK K
              refine norm_ (a' := ?_) ?_ ?_
              rotate_left
              ·show Act.put _ (some 35) _ = _
               simp only [Act.put, List.setIfInBounds_toArray, List.set_cons_zero, List.set_cons_succ, i64_w, i32_w]
               rfl
              refine one_ (i := 6) (N := some 41) #[true, true, true, true, true, true, true, true, true, true, false, true, false, false, false] rfl rfl (one_of HT_.out (by kernel_rfl)) (by decide) (fun K hK => ?_)
              refine Kd.R_append_rows_step (Kd.int .u8) (w0 := w) w.heap.size (by rfl) (.tmp 35) (.tmp 40) 22 5 (.int .u8 0) 1 rfl Tryd.underlying22 info5 rfl (by decide) (by omega) v433 y432 y435 _ _ _ (fun _ => True) (fun _ => False) rfl rfl ?aO ?aR (fun _ _ h => h) (fun _ h => h.elim) ?aF ?aB ?aS ?aL ?_
              (case aR => repeat (first | exact (Kd.V_reads' H9.out).2.2 | (with_reducible refine Kd.C_alloc ?_ _) | (with_reducible refine Kd.C_drewN ?_ _) | (with_reducible refine Kd.C_drew ?_)))
              (case aB => exact (by repeat (first | (with_reducible first | exact HB.out | apply below_alloc | apply pw_below_drewN | apply below_drew1 | refine below_set ?_ GA.out | refine below_set ?_ GD.out) | exact HB.out)))
              (case aF => exact (fun _ _ => trivial))
              (case aO => exact (by (with_reducible repeat (first | apply Kd.R_alloc | apply Kd.R_drewN | apply Kd.R_drew)); exact HO434.out))
              (case aS => exact (below_size (by repeat (first | (with_reducible first | exact HB.out | apply below_alloc | apply pw_below_drewN | apply below_drew1 | refine below_set ?_ GA.out | refine below_set ?_ GD.out) | exact HB.out))))
              (case aL => have := LMc20.out; omega)
              intro v441 w166 ho hb hg hat
              rw [← Ny440.out] at ho
              have n0_ := Aside0.mk (Kd.V_afterv (ok := (fun k_ => k_ ≠ gA ∧ k_ ≠ gB)) (by (with_reducible repeat (first | apply Kd.V_alloc | apply Kd.V_drewN | apply Kd.V_drew)); exact HO_8.out) hg hat)
              have n1_ := Aside0.mk (blk_grown (g := gA) (o := .cells #[.string ⟨#[92, 116]⟩, .string ⟨#[10]⟩, .string ⟨#[1]⟩, .string ⟨#[127]⟩, .string ⟨#[255]⟩] 34 (0, 0)) (by exact BA.out) hg (Kd.R_ne HO434.out BA.out (by decide)))
              have n2_ := Aside0.mk (blk_grown (g := gB) (o := .cells #[.int .i64 13, .int .i64 12, .int .i64 11, .int .i64 11, .int .i64 10] 35 (0, 0)) (by exact BB.out) hg (Kd.R_ne HO434.out BB.out (by decide)))
              have n3_ := Aside0.mk (Kd.V_afterv (ok := (fun k_ => k_ ≠ gA ∧ k_ ≠ gB)) (by (with_reducible repeat (first | apply Kd.V_alloc | apply Kd.V_drewN | apply Kd.V_drew)); exact H9.out) hg hat)
              have n4_ := Aside0.mk (hb)
              have n5_ := Aside0.mk (ho)
              clear HO_8
              clear BA
              clear BB
              clear H9
              clear HB
              clear HO434
              have HO_8 := n0_
              have BA := n1_
              have BB := n2_
              have H9 := n3_
              have HB := n4_
              have HO442 := n5_
              clear n0_ n1_ n2_ n3_ n4_ n5_
              clear ho hb hg hat
              refine hK.out _ _ ⟨(blk_cell BA.out 0).trans rfl, (blk_cell BA.out 1).trans rfl, (blk_cell BA.out 2).trans rfl, (blk_cell BA.out 3).trans rfl, (blk_cell BA.out 4).trans rfl⟩ (fun hHeld => ?_)
              clear hK K
              refine norm_ (a' := ?_) ?_ ?_
              rotate_left
              ·show Act.put _ (some 41) _ = _
               simp only [Act.put, List.setIfInBounds_toArray, List.set_cons_zero, List.set_cons_succ, i64_w, i32_w]
               rfl
              refine one_ (i := 10) (N := some 45) #[true, true, true, true, true, true, true, true, true, true, true, true, false, false, false] rfl rfl (one_of HT_.out (by kernel_rfl)) (by decide) (fun K hK => ?_)
              refine R_append_str_step (w0 := w) w.heap.size (by rfl) (.tmp 41) _ 22 9 5 rfl Tryd.underlying22 Tryd.underlying9 info5 v441 y440 (⟨#[255]⟩ : ByteArray) (fun _ => True) rfl rfl ?aO ?aF ?aB ?aS ?aL ?_
              (case aB => exact (by repeat (first | (with_reducible first | exact HB.out | apply below_alloc | apply pw_below_drewN | apply below_drew1 | refine below_set ?_ GA.out | refine below_set ?_ GD.out) | exact HB.out)))
              (case aF => exact (fun _ _ => trivial))
              (case aO => exact (by (with_reducible repeat (first | apply Kd.R_alloc | apply Kd.R_drewN | apply Kd.R_drew)); exact HO442.out))
              (case aS => exact (below_size (by repeat (first | (with_reducible first | exact HB.out | apply below_alloc | apply pw_below_drewN | apply below_drew1 | refine below_set ?_ GA.out | refine below_set ?_ GD.out) | exact HB.out))))
              (case aL => have := LMc150.out; have zs_ : (⟨#[255]⟩ : ByteArray).size = 1 := rfl; omega)
              intro v500 w167 ho hb hg hat
              rw [← Ny499.out] at ho
              have n0_ := Aside0.mk (Kd.V_afterv (ok := (fun k_ => k_ ≠ gA ∧ k_ ≠ gB)) (by (with_reducible repeat (first | apply Kd.V_alloc | apply Kd.V_drewN | apply Kd.V_drew)); exact HO_8.out) hg hat)
              have n1_ := Aside0.mk (blk_grown (g := gA) (o := .cells #[.string ⟨#[92, 116]⟩, .string ⟨#[10]⟩, .string ⟨#[1]⟩, .string ⟨#[127]⟩, .string ⟨#[255]⟩] 34 (0, 0)) (by exact BA.out) hg (Kd.R_ne HO442.out BA.out (by decide)))
              have n2_ := Aside0.mk (blk_grown (g := gB) (o := .cells #[.int .i64 13, .int .i64 12, .int .i64 11, .int .i64 11, .int .i64 10] 35 (0, 0)) (by exact BB.out) hg (Kd.R_ne HO442.out BB.out (by decide)))
              have n3_ := Aside0.mk (Kd.V_afterv (ok := (fun k_ => k_ ≠ gA ∧ k_ ≠ gB)) (by (with_reducible repeat (first | apply Kd.V_alloc | apply Kd.V_drewN | apply Kd.V_drew)); exact H9.out) hg hat)
              have n4_ := Aside0.mk (hb)
              have n5_ := Aside0.mk (ho)
              clear HO_8
              clear BA
              clear BB
              clear H9
              clear HB
              clear HO442
              have HO_8 := n0_
              have BA := n1_
              have BB := n2_
              have H9 := n3_
              have HB := n4_
              have HO501 := n5_
              clear n0_ n1_ n2_ n3_ n4_ n5_
              clear ho hb hg hat
              refine hK.out _ _ ⟨(blk_cell BA.out 0).trans rfl, (blk_cell BA.out 1).trans rfl, (blk_cell BA.out 2).trans rfl, (blk_cell BA.out 3).trans rfl, (blk_cell BA.out 4).trans rfl⟩ (fun hHeld => ?_)
              clear hK K
              refine norm_ (a' := ?_) ?_ ?_
              rotate_left
              ·show Act.put _ (some 45) _ = _
               simp only [Act.put, List.setIfInBounds_toArray, List.set_cons_zero, List.set_cons_succ, i64_w, i32_w]
               rfl
              refine one_ (i := 12) (N := some 47) #[true, true, true, true, true, true, true, true, true, true, true, true, true, false, false] rfl rfl (one_of HT_.out (by kernel_rfl)) (by decide) (fun K hK => ?_)
              refine goes_ Tryd.func10 (by kernel_rfl) rfl #[.slice A2 l2.length c2] (by rfl) rfl rfl (by (try simp only [List.map_toArray, List.map_cons, List.map_nil]); first | done | rfl | (simp only [List.length_drop, List.length_take]; rfl)) ?_
              with_reducible refine (tmesislaw04_few.calls (fun k_ => k_ < w.heap.size) _ _ l2 t502 _ ?side1 A151.out).mono ?_
              (case side1 => exact Kd.V_mk HC2.out (Kd.F_below (Kd.C_F (Kd.heap_int .u8) HR2.out) (by repeat (first | (with_reducible first | exact HB.out | apply below_alloc | apply pw_below_drewN | apply below_drew1 | refine below_set ?_ GA.out | refine below_set ?_ GD.out) | exact HB.out))))
              rintro e w168 ⟨v503, rfl, ho0, hb⟩
              refine ⟨_, rfl, ?_⟩
              have n0_ := Aside0.mk (Kd.V_below (by (with_reducible repeat (first | apply Kd.V_alloc | apply Kd.V_drewN | apply Kd.V_drew)); exact HO_8.out) hb)
              have n1_ := Aside0.mk (Kd.V_below (by (with_reducible repeat (first | apply Kd.V_alloc | apply Kd.V_drewN | apply Kd.V_drew)); exact H9.out) hb)
              have n2_ := Aside0.mk (Kd.R_below (by (with_reducible repeat (first | apply Kd.R_alloc | apply Kd.R_drewN | apply Kd.R_drew)); exact HO501.out) hb)
              have n3_ := Aside0.mk (Kd.V_lower (Kd.V_mono (ok' := fun k_ => some k_ ≠ (v500 : Value).ownBlock ∧ k_ ≠ gA ∧ k_ ≠ gB) ho0 (fun k_ hk_ => ⟨Or.elim hk_ (fun hs_ => fun e_ => Nat.not_le.2 hs_ (Kd.R_base HO501.out k_ e_.symm)) (fun hn_ => (Kd.fresh' (Kd.R_lt (by (with_reducible repeat (first | apply Kd.R_alloc | apply Kd.R_drewN | apply Kd.R_drew)); exact HO501.out)) k_ hn_)), Or.elim hk_ (fun hs_ => fun e_ => Nat.not_le.2 hs_ (by rw [e_]; exact GM.out)) (fun hn_ => (Kd.freshB (g := gA) (o := .cells #[.string ⟨#[92, 116]⟩, .string ⟨#[10]⟩, .string ⟨#[1]⟩, .string ⟨#[127]⟩, .string ⟨#[255]⟩] 34 (0, 0)) (by exact BA.out) k_ hn_)), Or.elim hk_ (fun hs_ => fun e_ => Nat.not_le.2 hs_ (by rw [e_]; exact GN.out)) (fun hn_ => (Kd.freshB (g := gB) (o := .cells #[.int .i64 13, .int .i64 12, .int .i64 11, .int .i64 11, .int .i64 10] 35 (0, 0)) (by exact BB.out) k_ hn_))⟩)) (below_size (by repeat (first | (with_reducible first | exact HB.out | apply below_alloc | apply pw_below_drewN | apply below_drew1 | refine below_set ?_ GA.out | refine below_set ?_ GD.out) | exact HB.out))))
              have n4_ := Aside0.mk (blk_below (g := gA) (o := .cells #[.string ⟨#[92, 116]⟩, .string ⟨#[10]⟩, .string ⟨#[1]⟩, .string ⟨#[127]⟩, .string ⟨#[255]⟩] 34 (0, 0)) (by exact BA.out) hb)
              have n5_ := Aside0.mk (blk_below (g := gB) (o := .cells #[.int .i64 13, .int .i64 12, .int .i64 11, .int .i64 11, .int .i64 10] 35 (0, 0)) (by exact BB.out) hb)
              have n6_ := Aside0.mk (below_step (by repeat (first | (with_reducible first | exact HB.out | apply below_alloc | apply pw_below_drewN | apply below_drew1 | refine below_set ?_ GA.out | refine below_set ?_ GD.out) | exact HB.out)) hb)
              clear HO_8
              clear H9
              clear HO501
              clear BA
              clear BB
              clear HB
              have HO_8 := n0_
              have H9 := n1_
              have HO501 := n2_
              have HO504 := n3_
              have BA := n4_
              have BB := n5_
              have HB := n6_
              clear n0_ n1_ n2_ n3_ n4_ n5_ n6_
              (try clear hb)
              (try clear hb2)
              (try clear hk)
              (try clear hi)
              (try clear ho0)
              obtain ⟨Ao170, co170, eo170⟩ := Kd.V_slice HO504.out
              (first | subst eo170 | (injection eo170 with f1_ f2_ f3_; have f4_ := f1_.symm; have f5_ := f3_.symm; clear f1_ f2_ f3_; subst f4_; subst f5_))
              refine hK.out _ _ ⟨(blk_cell BA.out 0).trans rfl, (blk_cell BA.out 1).trans rfl, (blk_cell BA.out 2).trans rfl, (blk_cell BA.out 3).trans rfl, (blk_cell BA.out 4).trans rfl⟩ (fun hHeld => ?_)
              clear hK K
              refine norm_ (a' := ?_) ?_ ?_
              rotate_left
              ·show Act.put _ (some 47) _ = _
               simp only [Act.put, List.setIfInBounds_toArray, List.set_cons_zero, List.set_cons_succ, i64_w, i32_w]
               rfl
              refine one_ (i := 13) (N := some 48) #[true, true, true, true, true, true, true, true, true, true, true, true, true, true, false] rfl rfl (one_of HT_.out (by kernel_rfl)) (by decide) (fun K hK => ?_)
              refine Kd.R_append_rows_step (Kd.int .u8) (w0 := w) w.heap.size (by rfl) (.tmp 45) (.tmp 47) 22 5 (.int .u8 0) 1 rfl Tryd.underlying22 info5 rfl (by decide) (by omega) v500 y499 t502 _ _ _ (fun _ => True) (fun _ => False) rfl rfl ?aO ?aR (fun _ _ h => h) (fun _ h => h.elim) ?aF ?aB ?aS ?aL ?_
              (case aR => repeat (first | exact (Kd.V_reads' HO504.out).2.2 | (with_reducible refine Kd.C_alloc ?_ _) | (with_reducible refine Kd.C_drewN ?_ _) | (with_reducible refine Kd.C_drew ?_)))
              (case aB => exact (by repeat (first | (with_reducible first | exact HB.out | apply below_alloc | apply pw_below_drewN | apply below_drew1 | refine below_set ?_ GA.out | refine below_set ?_ GD.out) | exact HB.out)))
              (case aF => exact (fun _ _ => trivial))
              (case aO => exact (by (with_reducible repeat (first | apply Kd.R_alloc | apply Kd.R_drewN | apply Kd.R_drew)); exact HO501.out))
              (case aS => exact (below_size (by repeat (first | (with_reducible first | exact HB.out | apply below_alloc | apply pw_below_drewN | apply below_drew1 | refine below_set ?_ GA.out | refine below_set ?_ GD.out) | exact HB.out))))
              (case aL => have := LMc152.out; omega)
              intro v506 w169 ho hb hg hat
              rw [← Ny505.out] at ho
              have n0_ := Aside0.mk (Kd.V_afterv (ok := (fun k_ => k_ ≠ gA ∧ k_ ≠ gB)) (by (with_reducible repeat (first | apply Kd.V_alloc | apply Kd.V_drewN | apply Kd.V_drew)); exact HO_8.out) hg hat)
              have n1_ := Aside0.mk (blk_grown (g := gA) (o := .cells #[.string ⟨#[92, 116]⟩, .string ⟨#[10]⟩, .string ⟨#[1]⟩, .string ⟨#[127]⟩, .string ⟨#[255]⟩] 34 (0, 0)) (by exact BA.out) hg (Kd.R_ne HO501.out BA.out (by decide)))
              have n2_ := Aside0.mk (blk_grown (g := gB) (o := .cells #[.int .i64 13, .int .i64 12, .int .i64 11, .int .i64 11, .int .i64 10] 35 (0, 0)) (by exact BB.out) hg (Kd.R_ne HO501.out BB.out (by decide)))
              have n3_ := Aside0.mk (Kd.V_afterv (ok := (fun k_ => k_ ≠ gA ∧ k_ ≠ gB)) (by (with_reducible repeat (first | apply Kd.V_alloc | apply Kd.V_drewN | apply Kd.V_drew)); exact H9.out) hg hat)
              have n4_ := Aside0.mk (Kd.V_afterv (ok := (fun k_ => k_ ≠ gA ∧ k_ ≠ gB)) (by (with_reducible repeat (first | apply Kd.V_alloc | apply Kd.V_drewN | apply Kd.V_drew)); exact Kd.V_mono HO504.out (fun _ hk => ⟨⟨hk.2.1, hk.2.2⟩, hk.1⟩)) hg hat)
              have n5_ := Aside0.mk (hb)
              have n6_ := Aside0.mk (ho)
              clear HO_8
              clear BA
              clear BB
              clear H9
              clear HO504
              clear HB
              clear HO501
              have HO_8 := n0_
              have BA := n1_
              have BB := n2_
              have H9 := n3_
              have HO504 := n4_
              have HB := n5_
              have HO507 := n6_
              clear n0_ n1_ n2_ n3_ n4_ n5_ n6_
              clear ho hb hg hat
              refine hK.out _ _ ⟨(blk_cell BA.out 0).trans rfl, (blk_cell BA.out 1).trans rfl, (blk_cell BA.out 2).trans rfl, (blk_cell BA.out 3).trans rfl, (blk_cell BA.out 4).trans rfl⟩ (fun hHeld => ?_)
              clear hK K
              refine norm_ (a' := ?_) ?_ ?_
              rotate_left
              ·show Act.put _ (some 48) _ = _
               simp only [Act.put, List.setIfInBounds_toArray, List.set_cons_zero, List.set_cons_succ, i64_w, i32_w]
               rfl
              refine pure_ (i := 14) (N := some 13) (v := ?_) (a' := ?_) #[true, true, true, true, true, true, true, true, true, true, true, true, true, true, true] rfl rfl (any_of HT_.out (by kernel_rfl)) (fun _ _ _ h => h) (Or.inl ⟨by rfl, ?_⟩) ?_ ?_
              rotate_left
              ·intro w'
               go_simp
               with_reducible rfl
              rotate_left
              ·simp only [Act.put, List.setIfInBounds_toArray, List.set_cons_zero, List.set_cons_succ, i64_w, i32_w]
               rfl
              refine done_ (done_of HT_.out (by kernel_rfl)) ?_
              obtain ⟨Ao171, co171, eo171⟩ := Kd.R_slice HO507.out
              subst eo171
              go_upto_region 12 with (first | ((with_reducible refine gate_callee (f := 9) rfl ?_); refine goesL_ (some 51) rfl rfl Tryd.func9 (by kernel_rfl) rfl #[.slice Ao171 y505.length co171] rfl (by (try simp only [List.map_toArray, List.map_cons, List.map_nil]); first | done | rfl | (simp only [List.length_drop, List.length_take]; rfl)) ?_; (with_reducible refine (quote_Take.calls kj6 _ _ y505 t508 t509 t510 _ ?side1 ?side2 A153.out).mono ?_); (case side1 => repeat (first | exact (Kd.R_reads' HO507.out).2.2 | (with_reducible refine Kd.C_alloc ?_ _) | (with_reducible refine Kd.C_drewN ?_ _) | (with_reducible refine Kd.C_drew ?_))); (case side2 => exact (Kd.R_reads' HO507.out).2.1); rintro e w172 ⟨v511, rfl, ho0, hb⟩; refine ⟨_, rfl, ?_⟩; have n0_ := Aside0.mk (Kd.V_elder' (by (with_reducible repeat (first | apply Kd.V_alloc | apply Kd.V_drewN | apply Kd.V_drew)); exact HO_8.out) (Kd.R_base ho0) hb); have n1_ := Aside0.mk (Kd.V_elder' (by (with_reducible repeat (first | apply Kd.V_alloc | apply Kd.V_drewN | apply Kd.V_drew)); exact H9.out) (Kd.R_base ho0) hb); have n2_ := Aside0.mk (Kd.V_elder' (by (with_reducible repeat (first | apply Kd.V_alloc | apply Kd.V_drewN | apply Kd.V_drew)); exact HO504.out) (Kd.R_base ho0) hb); have n3_ := Aside0.mk (Kd.R_elder' (by (with_reducible repeat (first | apply Kd.R_alloc | apply Kd.R_drewN | apply Kd.R_drew)); exact HO507.out) (Kd.R_base ho0) hb); have n4_ := Aside0.mk (Kd.R_lower (Kd.R_new' ho0 (Kd.R_lt (by (with_reducible repeat (first | apply Kd.R_alloc | apply Kd.R_drewN | apply Kd.R_drew)); exact HO507.out))) (below_size (by repeat (first | (with_reducible first | exact HB.out | apply below_alloc | apply pw_below_drewN | apply below_drew1 | refine below_set ?_ GA.out | refine below_set ?_ GD.out) | exact HB.out)))); have n5_ := Aside0.mk (blk_below (g := gA) (o := .cells #[.string ⟨#[92, 116]⟩, .string ⟨#[10]⟩, .string ⟨#[1]⟩, .string ⟨#[127]⟩, .string ⟨#[255]⟩] 34 (0, 0)) (by exact BA.out) hb); have n6_ := Aside0.mk (blk_below (g := gB) (o := .cells #[.int .i64 13, .int .i64 12, .int .i64 11, .int .i64 11, .int .i64 10] 35 (0, 0)) (by exact BB.out) hb); have n7_ := Aside0.mk (below_step (by repeat (first | (with_reducible first | exact HB.out | apply below_alloc | apply pw_below_drewN | apply below_drew1 | refine below_set ?_ GA.out | refine below_set ?_ GD.out) | exact HB.out)) hb); clear HO_8; clear H9; clear HO504; clear HO507; clear BA; clear BB; clear HB; have HO_8 := n0_; have H9 := n1_; have HO504 := n2_; have HO507 := n3_; have HO512 := n4_; have BA := n5_; have BB := n6_; have HB := n7_; clear n0_ n1_ n2_ n3_ n4_ n5_ n6_ n7_; (try clear hb); (try clear hb2); (try clear hk); (try clear hi); (try clear ho0)))
              (try simp only [Act.put, List.setIfInBounds_toArray, List.set_cons_zero, List.set_cons_succ])
              go_cut [6] (fun v6 wc => ∃ (kq : Nat) (x6_153 : Bool), v6 = .bool x6_153 ∧ Aside0 (tmesislaw04_QuoteFirst.j5 kq x6_153 = some r) ∧ Aside0 (kq ≤ kj6) ∧ Aside0 (wc.heap[gA]? = some (.cells #[.string ⟨#[92, 116]⟩, .string ⟨#[10]⟩, .string ⟨#[1]⟩, .string ⟨#[127]⟩, .string ⟨#[255]⟩] 34 (0, 0))) ∧ Aside0 (wc.heap[gB]? = some (.cells #[.int .i64 13, .int .i64 12, .int .i64 11, .int .i64 11, .int .i64 10] 35 (0, 0))) ∧ Aside0 (Below w.heap.size w wc))
              case first =>
               have H := HC154.out
               clear HC154
               by_cases c173 : t419 = true
               ·subst c173
                have H1 : (if (t508.length : Int) = 0 then (if t509 = (ji17) then (tmesislaw04_QuoteFirst.j5 kj6 (t510 == 10)) else (tmesislaw04_QuoteFirst.j5 kj6 false)) else (tmesislaw04_QuoteFirst.j5 kj6 false)) = some r := by rw [if_pos rfl] at H; exact H
                clear H
                have H := H1
                clear H1
                by_cases c174 : (t508.length : Int) = 0
                ·rw [if_pos c174] at H
                 have c174b0 : ((t508.length : Int) == 0) = true := beq_iff_eq.mpr c174
                 have c174b1 : ((t508.length : Int) != 0) = false := bne_eq_false_iff_eq.mpr c174
                 clear c174
                 (first | rw [c174b0] | (simp only [i64_w, i32_w]; rw [c174b0]) | skip)
                 by_cases c175 : t509 = (ji17)
                 ·rw [if_pos c175] at H
                  have c175b0 : (t509 == (ji17)) = true := beq_iff_eq.mpr c175
                  have c175b1 : (t509 != (ji17)) = false := bne_eq_false_iff_eq.mpr c175
                  clear c175
                  have H' := Aside0.mk H
                  clear H
                  obtain ⟨Ao176, co176, eo176⟩ := Kd.R_slice HO512.out
                  subst eo176
                  have hnb177 := NC.out
                  have hnc177 := NA.out
                  have hcz178_0 : w172.cell? ⟨gB, 0, none⟩ = some (.int .i64 13) := (blk_cell BB.out 0).trans rfl
                  have hcz178_1 : w172.cell? ⟨gB, 1, none⟩ = some (.int .i64 12) := (blk_cell BB.out 1).trans rfl
                  have hcz178_2 : w172.cell? ⟨gB, 2, none⟩ = some (.int .i64 11) := (blk_cell BB.out 2).trans rfl
                  have hcz178_3 : w172.cell? ⟨gB, 3, none⟩ = some (.int .i64 11) := (blk_cell BB.out 3).trans rfl
                  have hcz178_4 : w172.cell? ⟨gB, 4, none⟩ = some (.int .i64 10) := (blk_cell BB.out 4).trans rfl
                  have hfz178_0 := blk_frozen BB.out 0
                  have hfz178_1 := blk_frozen BB.out 1
                  have hfz178_2 := blk_frozen BB.out 2
                  have hfz178_3 := blk_frozen BB.out 3
                  have hfz178_4 := blk_frozen BB.out 4
                  go_wp2
                  go_meet
                  case rel => exact ⟨_, ((t510 == 10)), (by first | rfl | (simp; done) | (simp [*]; done)), H', ⟨by have := HJ6.out; first | omega | exact Nat.le_refl _⟩, ⟨by exact BA.out⟩, ⟨by exact BB.out⟩, ⟨by repeat (first | (with_reducible first | exact HB.out | apply below_alloc | apply pw_below_drewN | apply below_drew1 | refine below_set ?_ GA.out | refine below_set ?_ GD.out) | exact HB.out)⟩⟩
                 ·rw [if_neg c175] at H
                  have c175b0 : (t509 == (ji17)) = false := beq_eq_false_iff_ne.mpr c175
                  have c175b1 : (t509 != (ji17)) = true := bne_iff_ne.mpr c175
                  have H' := Aside0.mk H
                  clear H
                  obtain ⟨Ao179, co179, eo179⟩ := Kd.R_slice HO512.out
                  subst eo179
                  go_wp2
                  go_meet
                  case rel => exact ⟨_, (false), (by first | rfl | (simp; done) | (simp [*]; done)), H', ⟨by have := HJ6.out; first | omega | exact Nat.le_refl _⟩, ⟨by exact BA.out⟩, ⟨by exact BB.out⟩, ⟨by repeat (first | (with_reducible first | exact HB.out | apply below_alloc | apply pw_below_drewN | apply below_drew1 | refine below_set ?_ GA.out | refine below_set ?_ GD.out) | exact HB.out)⟩⟩
                ·rw [if_neg c174] at H
                 have c174b0 : ((t508.length : Int) == 0) = false := beq_eq_false_iff_ne.mpr c174
                 have c174b1 : ((t508.length : Int) != 0) = true := bne_iff_ne.mpr c174
                 have c174b2 : ¬ (t508 = []) := fun h_ => c174 (by rw [h_]; rfl)
                 (first | rw [c174b0] | (simp only [i64_w, i32_w]; rw [c174b0]) | skip)
                 have H' := Aside0.mk H
                 clear H
                 obtain ⟨Ao180, co180, eo180⟩ := Kd.R_slice HO512.out
                 subst eo180
                 go_wp2
                 go_meet
                 case rel => exact ⟨_, (false), (by first | rfl | (simp; done) | (simp [*]; done)), H', ⟨by have := HJ6.out; first | omega | exact Nat.le_refl _⟩, ⟨by exact BA.out⟩, ⟨by exact BB.out⟩, ⟨by repeat (first | (with_reducible first | exact HB.out | apply below_alloc | apply pw_below_drewN | apply below_drew1 | refine below_set ?_ GA.out | refine below_set ?_ GD.out) | exact HB.out)⟩⟩
               ·replace c173 := Bool.eq_false_iff.mpr c173
                subst c173
                have H1 : (tmesislaw04_QuoteFirst.j5 kj6 false) = some r := by rw [if_neg (show ¬ (false = true) by decide)] at H; exact H
                clear H
                have H := H1
                clear H1
                have H' := Aside0.mk H
                clear H
                go_wp2
                go_meet
                case rel => exact ⟨_, (false), (by first | rfl | (simp; done) | (simp [*]; done)), H', ⟨by have := HJ6.out; first | omega | exact Nat.le_refl _⟩, ⟨by exact BA.out⟩, ⟨by exact BB.out⟩, ⟨by repeat (first | (with_reducible first | exact HB.out | apply below_alloc | apply pw_below_drewN | apply below_drew1 | refine below_set ?_ GA.out | refine below_set ?_ GD.out) | exact HB.out)⟩⟩
              case rest =>
               clear HC154
               (try clear c1); (try clear q1); (try clear c2); (try clear p2); (try clear q3); (try clear p6); (try clear q6); (try clear c8); (try clear c9); (try clear q9); (try clear c10); (try clear c11); (try clear c12); (try clear q13); (try clear c14); (try clear c15); (try clear q16); (try clear c17); (try clear c20); (try clear q35); (try clear q67); (try clear c88); (try clear c95); (try clear q99); (try clear c109); (try clear c110); (try clear c110b0); (try clear c110b1); (try clear c110b2); (try clear c111); (try clear c111b0); (try clear c111b1); (try clear c113); (try clear c117); (try clear c117b0); (try clear c117b1); (try clear c118); (try clear c120); (try clear c127); (try clear q131); (try clear c141); (try clear c142); (try clear c142b0); (try clear c142b1); (try clear c142b2); (try clear c143); (try clear c143b0); (try clear c143b1); (try clear c145); (try clear c149); (try clear c149b0); (try clear c149b1); (try clear c150); (try clear c152); (try clear c159); (try clear q163); (try clear c173); (try clear c174); (try clear c174b0); (try clear c174b1); (try clear c174b2); (try clear c175); (try clear c175b0); (try clear c175b1); (try clear c177); (try clear p2); (try clear p6); (try clear q131); (try clear q163); (try clear q3); (try clear q35); (try clear q6); (try clear q67); (try clear q99)
               obtain ⟨kq, x6_153, rfl, HA, HJ153, BA, BB, HB⟩ := hcut
               cases kq with
               | zero => exact absurd HA.out (by simp [tmesislaw04_QuoteFirst.j5])
               | succ kj153 =>
                have H := HA.out
                clear HA
                simp only [tmesislaw04_QuoteFirst.j5] at H
                obtain rfl := Option.some.inj H
                go_wp2
                go_ret
                exact ⟨by first | rfl | (simp [errW_none, errW_some] <;> rfl) | (simp only [← hji17]; first | rfl | (simp [errW_none, errW_some] <;> rfl)) | (simp [*, errW_none, errW_some] <;> rfl), by repeat (first | (with_reducible first | exact HB.out | apply below_alloc | apply pw_below_drewN | apply below_drew1 | refine below_set ?_ GA.out | refine below_set ?_ GD.out) | exact HB.out)⟩
             ·rw [if_neg c152] at H
              exact absurd H (by simp)
            ·rw [if_neg c150] at H
             exact absurd H (by simp)
           ·rw [if_neg c149] at H
            exact absurd H (by simp)
      ·rw [if_neg c20] at H
       exact absurd H (by simp)
     ·rw [if_neg c19] at H
      exact absurd H (by simp)
    ·rw [if_neg c18] at H
     exact absurd H (by simp)
/-- THE ONE PURE STATEMENT of tmesislaw04_QuoteFirst: yours. -/
def tmesislaw04_QuoteFirst.Pure : Prop := ∀ (l0 : List Int) (a1 : Int) (l2 : List Int), l0.length ≤ maxLen → l0.length * 1 ≤ 140737488351232 → (∀ x ∈ l0, (Lit.int .u8 x).wf = true) → (Lit.int .u8 a1).wf = true → l2.length ≤ maxLen → l2.length * 1 ≤ 140737488351232 → (∀ x ∈ l2, (Lit.int .u8 x).wf = true) → ∃ k, tmesislaw04_QuoteFirst.f k l0 a1 l2 = some true
theorem tmesislaw04_QuoteFirst.walk (P : tmesislaw04_QuoteFirst.Pure) (a0 : Option Addr) (len0 cap0 : Nat) (z0 : List Int) (a1 : Int) (a2 : Option Addr) (len2 cap2 : Nat) (z2 : List Int) (w : World) (hG : Gl w) (w0 : (a0 = none ∧ len0 = 0 ∧ cap0 = 0 ∧ z0 = []) ∨ ∃ x, a0 = some x ∧ len0 ≤ cap0 ∧ cap0 ≤ maxLen ∧ z0.length = cap0 ∧ (∀ i, i < z0.length → w.cell? (x.add i) = some (.int .u8 (z0.getD i 0))) ∧ ∀ n ∈ z0, (Lit.int .u8 n).wf = true) (y0 : len0 * 1 ≤ 140737488351232) (w1 : (Lit.int .u8 a1).wf = true) (w2 : (a2 = none ∧ len2 = 0 ∧ cap2 = 0 ∧ z2 = []) ∨ ∃ x, a2 = some x ∧ len2 ≤ cap2 ∧ cap2 ≤ maxLen ∧ z2.length = cap2 ∧ (∀ i, i < z2.length → w.cell? (x.add i) = some (.int .u8 (z2.getD i 0))) ∧ ∀ n ∈ z2, (Lit.int .u8 n).wf = true) (y2 : len2 * 1 ≤ 140737488351232) :
  Calls Tryd.prog 6 #[.slice a0 len0 cap0, .int .u8 a1, .slice a2 len2 cap2] w fun e w' => e = .returned (.bool true) ∧ Below w.heap.size w w' := by
 obtain ⟨l0, rfl, hr0, hm0, hw0, hc0⟩ := ReadsInt.ofRowC w0
 obtain ⟨l2, rfl, hr2, hm2, hw2, hc2⟩ := ReadsInt.ofRowC w2
 obtain ⟨k, h⟩ := P l0 a1 l2 hm0 y0 hw0 w1 hm2 y2 hw2
 refine (tmesislaw04_QuoteFirst.calls k _ _ l0 a1 _ _ l2 true w hG (Kd.C_of_reads (d := (0 : Int)) (h1 := fun _ => rfl) hr0) hc0 (Kd.C_of_reads (d := (0 : Int)) (h1 := fun _ => rfl) hr2) hc2 h).mono ?_
 rintro e w' ⟨rfl, hd⟩
 exact ⟨rfl, hd⟩
end Go.Proofs.YtkicabbgcopjdaaDoor.P
