/- Part of the proof: what the theorem needs of this text. -/
import Derived.Test.YtkicabbgcopjdaaDoorKHG
import Derived.Test.YtkicabbgcopjdaaDoorKPx0
import Derived.Test.YtkicabbgcopjdaaDoorKPx10
import Derived.Test.YtkicabbgcopjdaaDoorKPx2
import Derived.Test.YtkicabbgcopjdaaDoorKPx3
import Derived.Test.YtkicabbgcopjdaaDoorKPx6
namespace Go.Proofs.YtkicabbgcopjdaaDoor.P
open Go.RowKit Go.Proofs.YtkicabbgcopjdaaDoorW.PrintWords Go.Proofs.YtkicabbgcopjdaaDoorW.PrintLast Go.Proofs.YtkicabbgcopjdaaDoorW.PrintMore
attribute [local go_sem] max2_int min2_int max_two min_two max_three min_three max_four min_four   -- for this text's walks alone
set_option linter.unusedVariables false
set_option linter.unusedSimpArgs false
mutual
def tmesislaw04_QuoteBack.l0 : Nat → List Int → Bool → List Int → Bool → Int → Option (Bool)
 | 0, _, _, _, _, _ => none
 | k + 1, x1, x5, x6, x7, x8 => if x8 < (x6.length : Int) then (if x7 = true then (if 0 ≤ x8 then (if (rd x6 x8) ≥ 32 then (tmesislaw04_QuoteBack.j1 k x1 x5 x6 ((rd x6 x8) != 127) x8) else (if (rd x6 x8) = 10 then (tmesislaw04_QuoteBack.j1 k x1 x5 x6 ((rd x6 x8) != 127) x8) else (tmesislaw04_QuoteBack.j1 k x1 x5 x6 false x8))) else (none)) else (tmesislaw04_QuoteBack.j1 k x1 x5 x6 false x8)) else ((quote_Put.f k x6).bind fun bt491 => (if x7 = true then ((tmesislaw04_few.f x1).bind fun t495 => (if (t495.length : Int) > 0 then (if 0 < (t495.length : Int) then (tmesislaw04_QuoteBack.j3 k x5 x6 bt491.1 bt491.2 t495 ((rd t495 0) == 39)) else (none)) else (tmesislaw04_QuoteBack.j3 k x5 x6 bt491.1 bt491.2 t495 false))) else (if x5 = true then (if bt491.2 = 1 then (tmesislaw04_QuoteBack.j2 k ((bt491.1.length : Int) == 0)) else (tmesislaw04_QuoteBack.j2 k false)) else (tmesislaw04_QuoteBack.j2 k false))))
def tmesislaw04_QuoteBack.j1 : Nat → List Int → Bool → List Int → Bool → Int → Option (Bool)
 | 0, _, _, _, _, _ => none
 | k + 1, x1, x5, x6, x7, x8 => tmesislaw04_QuoteBack.l0 k x1 x5 x6 x7 (wrap64 (x8 + 1))
def tmesislaw04_QuoteBack.j3 : Nat → Bool → List Int → List Int → Int → List Int → Bool → Option (Bool)
 | 0, _, _, _, _, _, _ => none
 | k + 1, x5, x6, x9, x10, x11, x75 => if x75 = true then (tmesislaw04_QuoteBack.j4 k x5 x6 x9 x10 ([] : List Int)) else (tmesislaw04_QuoteBack.j4 k x5 x6 x9 x10 x11)
def tmesislaw04_QuoteBack.j4 : Nat → Bool → List Int → List Int → Int → List Int → Option (Bool)
 | 0, _, _, _, _, _ => none
 | k + 1, x5, x6, x9, x10, x11 => (some (([] : List Int) : List Int)).bind fun y499 => (if y499.length + x9.length < 140737488355328 then ((some (y499 ++ x9 : List Int)).bind fun y502 => (if y502.length + x11.length < 140737488355328 then ((quote_Take.f k (y502 ++ x11)).bind fun bt508 => (if x5 = true then (if x10 = 0 then (if bt508.2.2 = 0 then (if (strOfNums bt508.1).toList = (strOfNums x6).toList then (if bt508.2.1 = (x9.length : Int) then (tmesislaw04_QuoteBack.j5 k (decide (bt508.2.1 ≥ (wrap64 ((x6.length : Int) + 2))))) else (tmesislaw04_QuoteBack.j5 k false)) else (tmesislaw04_QuoteBack.j5 k false)) else (tmesislaw04_QuoteBack.j5 k false)) else (tmesislaw04_QuoteBack.j5 k false)) else (tmesislaw04_QuoteBack.j5 k false))) else (none))) else (none))
def tmesislaw04_QuoteBack.j5 : Nat → Bool → Option (Bool)
 | 0, _ => none
 | k + 1, x4 => some x4
def tmesislaw04_QuoteBack.j2 : Nat → Bool → Option (Bool)
 | 0, _ => none
 | k + 1, x4 => some x4
end
def tmesislaw04_QuoteBack.f (k : Nat) (l0 : List Int) (l1 : List Int) : Option (Bool) := (tmesislaw04_shown.f k).bind fun t482 => ((tmesislaw04_few.f l0).bind fun t483 => ((utf_Valid.f k t483).bind fun t486 => (tmesislaw04_QuoteBack.l0 k l1 t482 t483 t486 0)))
theorem tmesislaw04_QuoteBack.mono_l : ∀ k, (∀ y0 y1 y2 y3 y4, LeO (tmesislaw04_QuoteBack.l0 k y0 y1 y2 y3 y4) (tmesislaw04_QuoteBack.l0 (k + 1) y0 y1 y2 y3 y4)) ∧ (∀ y0 y1 y2 y3 y4, LeO (tmesislaw04_QuoteBack.j1 k y0 y1 y2 y3 y4) (tmesislaw04_QuoteBack.j1 (k + 1) y0 y1 y2 y3 y4)) ∧ (∀ y0 y1 y2 y3 y4 y5, LeO (tmesislaw04_QuoteBack.j3 k y0 y1 y2 y3 y4 y5) (tmesislaw04_QuoteBack.j3 (k + 1) y0 y1 y2 y3 y4 y5)) ∧ (∀ y0 y1 y2 y3 y4, LeO (tmesislaw04_QuoteBack.j4 k y0 y1 y2 y3 y4) (tmesislaw04_QuoteBack.j4 (k + 1) y0 y1 y2 y3 y4)) ∧ (∀ y0, LeO (tmesislaw04_QuoteBack.j5 k y0) (tmesislaw04_QuoteBack.j5 (k + 1) y0)) ∧ (∀ y0, LeO (tmesislaw04_QuoteBack.j2 k y0) (tmesislaw04_QuoteBack.j2 (k + 1) y0))
 | 0 => ⟨fun _ _ _ _ _ r h => by simp [tmesislaw04_QuoteBack.l0] at h, fun _ _ _ _ _ r h => by simp [tmesislaw04_QuoteBack.j1] at h, fun _ _ _ _ _ _ r h => by simp [tmesislaw04_QuoteBack.j3] at h, fun _ _ _ _ _ r h => by simp [tmesislaw04_QuoteBack.j4] at h, fun _ r h => by simp [tmesislaw04_QuoteBack.j5] at h, fun _ r h => by simp [tmesislaw04_QuoteBack.j2] at h⟩
 | k + 1 => by
  obtain ⟨ih0, ih1, ih2, ih3, ih4, ih5⟩ := tmesislaw04_QuoteBack.mono_l k
  refine ⟨?_, ?_, ?_, ?_, ?_, ?_⟩
  ·intro y0 y1 y2 y3 y4
   unfold tmesislaw04_QuoteBack.l0
   repeat' first
   | (with_reducible exact ih0 _ _ _ _ _)
   | (with_reducible exact ih1 _ _ _ _ _)
   | (with_reducible exact ih2 _ _ _ _ _ _)
   | (with_reducible exact ih3 _ _ _ _ _)
   | (with_reducible exact ih4 _)
   | (with_reducible exact ih5 _)
   | (with_reducible exact quote_Put.mono _ _)
   | (with_reducible exact quote_Take.mono _ _)
   | (with_reducible exact tmesislaw04_shown.mono _)
   | (with_reducible exact utf_Valid.mono _ _)
   | (with_reducible exact LeO.refl _)
   | (with_reducible exact LeO.none _)
   | (with_reducible refine LeO.ite ?_ ?_)
   | (with_reducible refine LeO.bind ?_ (fun _ => ?_))
   | exact ih0 _ _ _ _ _
   | exact ih1 _ _ _ _ _
   | exact ih2 _ _ _ _ _ _
   | exact ih3 _ _ _ _ _
   | exact ih4 _
   | exact ih5 _
   | exact quote_Put.mono _ _
   | exact quote_Take.mono _ _
   | exact tmesislaw04_shown.mono _
   | exact utf_Valid.mono _ _
   | exact LeO.none _
   | refine LeO.ite ?_ ?_
   | refine LeO.bind ?_ (fun _ => ?_)
  ·intro y0 y1 y2 y3 y4
   unfold tmesislaw04_QuoteBack.j1
   repeat' first
   | (with_reducible exact ih0 _ _ _ _ _)
   | (with_reducible exact ih1 _ _ _ _ _)
   | (with_reducible exact ih2 _ _ _ _ _ _)
   | (with_reducible exact ih3 _ _ _ _ _)
   | (with_reducible exact ih4 _)
   | (with_reducible exact ih5 _)
   | (with_reducible exact quote_Put.mono _ _)
   | (with_reducible exact quote_Take.mono _ _)
   | (with_reducible exact tmesislaw04_shown.mono _)
   | (with_reducible exact utf_Valid.mono _ _)
   | (with_reducible exact LeO.refl _)
   | (with_reducible exact LeO.none _)
   | (with_reducible refine LeO.ite ?_ ?_)
   | (with_reducible refine LeO.bind ?_ (fun _ => ?_))
   | exact ih0 _ _ _ _ _
   | exact ih1 _ _ _ _ _
   | exact ih2 _ _ _ _ _ _
   | exact ih3 _ _ _ _ _
   | exact ih4 _
   | exact ih5 _
   | exact quote_Put.mono _ _
   | exact quote_Take.mono _ _
   | exact tmesislaw04_shown.mono _
   | exact utf_Valid.mono _ _
   | exact LeO.none _
   | refine LeO.ite ?_ ?_
   | refine LeO.bind ?_ (fun _ => ?_)
  ·intro y0 y1 y2 y3 y4 y5
   unfold tmesislaw04_QuoteBack.j3
   repeat' first
   | (with_reducible exact ih0 _ _ _ _ _)
   | (with_reducible exact ih1 _ _ _ _ _)
   | (with_reducible exact ih2 _ _ _ _ _ _)
   | (with_reducible exact ih3 _ _ _ _ _)
   | (with_reducible exact ih4 _)
   | (with_reducible exact ih5 _)
   | (with_reducible exact quote_Put.mono _ _)
   | (with_reducible exact quote_Take.mono _ _)
   | (with_reducible exact tmesislaw04_shown.mono _)
   | (with_reducible exact utf_Valid.mono _ _)
   | (with_reducible exact LeO.refl _)
   | (with_reducible exact LeO.none _)
   | (with_reducible refine LeO.ite ?_ ?_)
   | (with_reducible refine LeO.bind ?_ (fun _ => ?_))
   | exact ih0 _ _ _ _ _
   | exact ih1 _ _ _ _ _
   | exact ih2 _ _ _ _ _ _
   | exact ih3 _ _ _ _ _
   | exact ih4 _
   | exact ih5 _
   | exact quote_Put.mono _ _
   | exact quote_Take.mono _ _
   | exact tmesislaw04_shown.mono _
   | exact utf_Valid.mono _ _
   | exact LeO.none _
   | refine LeO.ite ?_ ?_
   | refine LeO.bind ?_ (fun _ => ?_)
  ·intro y0 y1 y2 y3 y4
   unfold tmesislaw04_QuoteBack.j4
   repeat' first
   | (with_reducible exact ih0 _ _ _ _ _)
   | (with_reducible exact ih1 _ _ _ _ _)
   | (with_reducible exact ih2 _ _ _ _ _ _)
   | (with_reducible exact ih3 _ _ _ _ _)
   | (with_reducible exact ih4 _)
   | (with_reducible exact ih5 _)
   | (with_reducible exact quote_Put.mono _ _)
   | (with_reducible exact quote_Take.mono _ _)
   | (with_reducible exact tmesislaw04_shown.mono _)
   | (with_reducible exact utf_Valid.mono _ _)
   | (with_reducible exact LeO.refl _)
   | (with_reducible exact LeO.none _)
   | (with_reducible refine LeO.ite ?_ ?_)
   | (with_reducible refine LeO.bind ?_ (fun _ => ?_))
   | exact ih0 _ _ _ _ _
   | exact ih1 _ _ _ _ _
   | exact ih2 _ _ _ _ _ _
   | exact ih3 _ _ _ _ _
   | exact ih4 _
   | exact ih5 _
   | exact quote_Put.mono _ _
   | exact quote_Take.mono _ _
   | exact tmesislaw04_shown.mono _
   | exact utf_Valid.mono _ _
   | exact LeO.none _
   | refine LeO.ite ?_ ?_
   | refine LeO.bind ?_ (fun _ => ?_)
  ·intro y0
   unfold tmesislaw04_QuoteBack.j5
   repeat' first
   | (with_reducible exact ih0 _ _ _ _ _)
   | (with_reducible exact ih1 _ _ _ _ _)
   | (with_reducible exact ih2 _ _ _ _ _ _)
   | (with_reducible exact ih3 _ _ _ _ _)
   | (with_reducible exact ih4 _)
   | (with_reducible exact ih5 _)
   | (with_reducible exact quote_Put.mono _ _)
   | (with_reducible exact quote_Take.mono _ _)
   | (with_reducible exact tmesislaw04_shown.mono _)
   | (with_reducible exact utf_Valid.mono _ _)
   | (with_reducible exact LeO.refl _)
   | (with_reducible exact LeO.none _)
   | (with_reducible refine LeO.ite ?_ ?_)
   | (with_reducible refine LeO.bind ?_ (fun _ => ?_))
   | exact ih0 _ _ _ _ _
   | exact ih1 _ _ _ _ _
   | exact ih2 _ _ _ _ _ _
   | exact ih3 _ _ _ _ _
   | exact ih4 _
   | exact ih5 _
   | exact quote_Put.mono _ _
   | exact quote_Take.mono _ _
   | exact tmesislaw04_shown.mono _
   | exact utf_Valid.mono _ _
   | exact LeO.none _
   | refine LeO.ite ?_ ?_
   | refine LeO.bind ?_ (fun _ => ?_)
  ·intro y0
   unfold tmesislaw04_QuoteBack.j2
   repeat' first
   | (with_reducible exact ih0 _ _ _ _ _)
   | (with_reducible exact ih1 _ _ _ _ _)
   | (with_reducible exact ih2 _ _ _ _ _ _)
   | (with_reducible exact ih3 _ _ _ _ _)
   | (with_reducible exact ih4 _)
   | (with_reducible exact ih5 _)
   | (with_reducible exact quote_Put.mono _ _)
   | (with_reducible exact quote_Take.mono _ _)
   | (with_reducible exact tmesislaw04_shown.mono _)
   | (with_reducible exact utf_Valid.mono _ _)
   | (with_reducible exact LeO.refl _)
   | (with_reducible exact LeO.none _)
   | (with_reducible refine LeO.ite ?_ ?_)
   | (with_reducible refine LeO.bind ?_ (fun _ => ?_))
   | exact ih0 _ _ _ _ _
   | exact ih1 _ _ _ _ _
   | exact ih2 _ _ _ _ _ _
   | exact ih3 _ _ _ _ _
   | exact ih4 _
   | exact ih5 _
   | exact quote_Put.mono _ _
   | exact quote_Take.mono _ _
   | exact tmesislaw04_shown.mono _
   | exact utf_Valid.mono _ _
   | exact LeO.none _
   | refine LeO.ite ?_ ?_
   | refine LeO.bind ?_ (fun _ => ?_)
theorem tmesislaw04_QuoteBack.mono : ∀ a0 a1 k, LeO (tmesislaw04_QuoteBack.f k a0 a1) (tmesislaw04_QuoteBack.f (k + 1) a0 a1) := by
 intro a0 a1 k
 obtain ⟨ih0, ih1, ih2, ih3, ih4, ih5⟩ := tmesislaw04_QuoteBack.mono_l k
 unfold tmesislaw04_QuoteBack.f
 repeat' first
   | (with_reducible exact ih0 _ _ _ _ _)
   | (with_reducible exact ih1 _ _ _ _ _)
   | (with_reducible exact ih2 _ _ _ _ _ _)
   | (with_reducible exact ih3 _ _ _ _ _)
   | (with_reducible exact ih4 _)
   | (with_reducible exact ih5 _)
   | (with_reducible exact quote_Put.mono _ _)
   | (with_reducible exact quote_Take.mono _ _)
   | (with_reducible exact tmesislaw04_shown.mono _)
   | (with_reducible exact utf_Valid.mono _ _)
   | (with_reducible exact LeO.refl _)
   | (with_reducible exact LeO.none _)
   | (with_reducible refine LeO.ite ?_ ?_)
   | (with_reducible refine LeO.bind ?_ (fun _ => ?_))
   | exact ih0 _ _ _ _ _
   | exact ih1 _ _ _ _ _
   | exact ih2 _ _ _ _ _ _
   | exact ih3 _ _ _ _ _
   | exact ih4 _
   | exact ih5 _
   | exact quote_Put.mono _ _
   | exact quote_Take.mono _ _
   | exact tmesislaw04_shown.mono _
   | exact utf_Valid.mono _ _
   | exact LeO.none _
   | refine LeO.ite ?_ ?_
   | refine LeO.bind ?_ (fun _ => ?_)
set_option maxHeartbeats 8000000 in
set_option maxRecDepth 100000 in
theorem tmesislaw04_QuoteBack.calls (k : Nat) (A0 : Option Addr) (c0 : Nat) (l0 : List Int) (A1 : Option Addr) (c1 : Nat) (l1 : List Int) (r : Bool) (w : World) (hG : Gl w) (hr0 : Kd.C (Kd.int .u8) w A0 l0.length l0) (hc0 : l0.length ≤ c0) (hr1 : Kd.C (Kd.int .u8) w A1 l1.length l1) (hc1 : l1.length ≤ c1) (h : tmesislaw04_QuoteBack.f k l0 l1 = some r) :
  Calls Tryd.prog 7 #[.slice A0 l0.length c0, .slice A1 l1.length c1] w fun e w' => e = .returned (.bool r) ∧ Below w.heap.size w w' := by
 have HR0 := Aside0.mk hr0
 have HC0 := Aside0.mk hc0
 clear hr0 hc0
 have HR1 := Aside0.mk hr1
 have HC1 := Aside0.mk hc1
 clear hr1 hc1
 have HB := Aside0.mk (Below.refl w.heap.size w)
 have HG := Aside0.mk hG
 clear hG
 have H : ((tmesislaw04_shown.f k).bind fun t482 => ((tmesislaw04_few.f l0).bind fun t483 => ((utf_Valid.f k t483).bind fun t486 => (tmesislaw04_QuoteBack.l0 k l1 t482 t483 t486 0)))) = some r := h
 clear h
 replace H := Option.bind_eq_some_iff.mp H
 obtain ⟨t482, A30, H⟩ := H
 replace H : ((tmesislaw04_few.f l0).bind fun t483 => ((utf_Valid.f k t483).bind fun t486 => (tmesislaw04_QuoteBack.l0 k l1 t482 t483 t486 0))) = some r := H
 have A3 := Aside0.mk A30
 clear A30
 replace H := Option.bind_eq_some_iff.mp H
 obtain ⟨t483, A40, H⟩ := H
 replace H : ((utf_Valid.f k t483).bind fun t486 => (tmesislaw04_QuoteBack.l0 k l1 t482 t483 t486 0)) = some r := H
 have A4 := Aside0.mk A40
 clear A40
 replace H := Option.bind_eq_some_iff.mp H
 obtain ⟨t486, A50, H⟩ := H
 replace H : (tmesislaw04_QuoteBack.l0 k l1 t482 t483 t486 0) = some r := H
 have A5 := Aside0.mk A50
 clear A50
 have H' := Aside0.mk H
 clear H
 go_enter Tryd.func7, Tryd.ntmps7
 go_wp2_with (first | ((with_reducible refine gate_callee (f := 8) rfl ?_); refine goesL_ (some 15) rfl rfl Tryd.func8 (by kernel_rfl) rfl #[] rfl (by (try simp only [List.map_toArray, List.map_cons, List.map_nil]); first | done | rfl | (simp only [List.length_drop, List.length_take]; rfl)) ?_; (with_reducible refine (tmesislaw04_shown.calls k  t482 _ A3.out).mono ?_); rintro e w6 ⟨rfl, hb⟩; refine ⟨_, rfl, ?_⟩; have n0_ := Aside0.mk (below_step (by repeat (first | (with_reducible first | exact HB.out | apply below_alloc | apply pw_below_drewN | apply below_drew1) | exact HB.out)) hb); clear HB; have HB := n0_; clear n0_; (try clear hb); (try clear hb2); (try clear hk); (try clear hi)) | ((with_reducible refine gate_callee (f := 10) rfl ?_); refine goesL_ (some 17) rfl rfl Tryd.func10 (by kernel_rfl) rfl #[.slice A0 l0.length c0] rfl (by (try simp only [List.map_toArray, List.map_cons, List.map_nil]); first | done | rfl | (simp only [List.length_drop, List.length_take]; rfl)) ?_; (with_reducible refine (tmesislaw04_few.calls (fun k_ => k_ < w.heap.size) _ _ l0 t483 _ ?side1 A4.out).mono ?_); (case side1 => exact Kd.V_mk HC0.out (Kd.F_below (Kd.C_F (Kd.heap_int .u8) HR0.out) (by repeat (first | (with_reducible first | exact HB.out | apply below_alloc | apply pw_below_drewN | apply below_drew1) | exact HB.out)))); rintro e w7 ⟨v484, rfl, ho0, hb⟩; refine ⟨_, rfl, ?_⟩; have n0_ := Aside0.mk (Kd.V_lower (Kd.V_mono (ok' := fun k_ => True) ho0 (fun k_ hk_ => trivial)) (below_size (by repeat (first | (with_reducible first | exact HB.out | apply below_alloc | apply pw_below_drewN | apply below_drew1) | exact HB.out)))); have n1_ := Aside0.mk (below_step (by repeat (first | (with_reducible first | exact HB.out | apply below_alloc | apply pw_below_drewN | apply below_drew1) | exact HB.out)) hb); clear HB; have HO485 := n0_; have HB := n1_; clear n0_ n1_; (try clear hb); (try clear hb2); (try clear hk); (try clear hi); (try clear ho0); obtain ⟨Ao8, co8, eo8⟩ := Kd.V_slice HO485.out; subst eo8) | ((with_reducible refine gate_callee (f := 14) rfl ?_); refine goesL_ (some 19) rfl rfl Tryd.func14 (by kernel_rfl) rfl #[.slice Ao8 t483.length co8] rfl (by (try simp only [List.map_toArray, List.map_cons, List.map_nil]); first | done | rfl | (simp only [List.length_drop, List.length_take]; rfl)) ?_; (with_reducible refine (utf_Valid.calls k _ _ t483 t486 _ ?side1 ?side2 A5.out).mono ?_); (case side1 => repeat (first | exact (Kd.V_reads' HO485.out).2.2 | (with_reducible refine Kd.C_alloc ?_ _) | (with_reducible refine Kd.C_drewN ?_ _) | (with_reducible refine Kd.C_drew ?_))); (case side2 => exact (Kd.V_reads' HO485.out).2.1); rintro e w9 ⟨rfl, hb⟩; refine ⟨_, rfl, ?_⟩; have n0_ := Aside0.mk (Kd.V_below (by (with_reducible repeat (first | apply Kd.V_alloc | apply Kd.V_drewN | apply Kd.V_drew)); exact HO485.out) hb); have n1_ := Aside0.mk (below_step (by repeat (first | (with_reducible first | exact HB.out | apply below_alloc | apply pw_below_drewN | apply below_drew1) | exact HB.out)) hb); clear HO485; clear HB; have HO485 := n0_; have HB := n1_; clear n0_ n1_; (try clear hb); (try clear hb2); (try clear hk); (try clear hi)))
 go_loopg [7, 8] k (fun kq v7 v8 w' => ∃ (x7_1 : Bool) (x8_1 : Int), v7 = .bool x7_1 ∧ v8 = .int .i64 x8_1 ∧ Aside0 (tmesislaw04_QuoteBack.l0 kq l1 t482 t483 x7_1 x8_1 = some r) ∧ Aside0 (kq ≤ k) ∧ Aside0 (Kd.V (Kd.int .u8) 5 w' w.heap.size (fun _ => True) (.slice Ao8 t483.length co8) t483) ∧ Aside0 (Below w.heap.size w w'))
 case atStart => exact ⟨(t486), (0), (by first | rfl | (simp; done) | (simp [*]; done)), (by first | rfl | (simp; done) | (simp [*]; done)), H', ⟨Nat.le_refl _⟩, ⟨by (with_reducible repeat (first | apply Kd.V_alloc | apply Kd.V_drewN | apply Kd.V_drew)); exact HO485.out⟩, ⟨by repeat (first | (with_reducible first | exact HB.out | apply below_alloc | apply pw_below_drewN | apply below_drew1) | exact HB.out)⟩⟩
 case round =>
  clear H'
  try clear c1
  try clear p2
  try clear c7
  try clear c8
  obtain ⟨x7_1, x8_1, rfl, rfl, HA, HK1, HO_6, HB⟩ := hrel
  cases gk with
  | zero => exact absurd HA.out (by simp [tmesislaw04_QuoteBack.l0])
  | succ k1 =>
   have H := HA.out
   clear HA
   simp only [tmesislaw04_QuoteBack.l0] at H
   by_cases c10 : x8_1 < (t483.length : Int)
   ·rw [if_pos c10] at H
    have c10b0 : decide (x8_1 < (t483.length : Int)) = true := decide_eq_true c10
    clear c10
    have HC11 := Aside0.mk H
    clear H
    go_upto_block 1 with (fail)
    go_cut [7] (fun v7 wc => ∃ (kq : Nat) (x7_10 : Bool), v7 = .bool x7_10 ∧ Aside0 (tmesislaw04_QuoteBack.j1 kq l1 t482 t483 x7_10 x8_1 = some r) ∧ Aside0 (kq ≤ k1) ∧ Aside0 (Kd.V (Kd.int .u8) 5 wc w.heap.size (fun _ => True) (.slice Ao8 t483.length co8) t483) ∧ Aside0 (Below w.heap.size w wc))
    case first =>
     have H := HC11.out
     clear HC11
     by_cases c12 : x7_1 = true
     ·subst c12
      have H1 : (if 0 ≤ x8_1 then (if (rd t483 x8_1) ≥ 32 then (tmesislaw04_QuoteBack.j1 k1 l1 t482 t483 ((rd t483 x8_1) != 127) x8_1) else (if (rd t483 x8_1) = 10 then (tmesislaw04_QuoteBack.j1 k1 l1 t482 t483 ((rd t483 x8_1) != 127) x8_1) else (tmesislaw04_QuoteBack.j1 k1 l1 t482 t483 false x8_1))) else (none)) = some r := by rw [if_pos rfl] at H; exact H
      clear H
      have H := H1
      clear H1
      by_cases c13 : 0 ≤ x8_1
      ·rw [if_pos c13] at H
       have c13b0 : decide (0 ≤ x8_1) = true := decide_eq_true c13
       clear c13
       (first | rw [c13b0] | (simp only [i64_w, i32_w]; rw [c13b0]) | skip)
       by_cases c14 : (rd t483 x8_1) ≥ 32
       ·rw [if_pos c14] at H
        have c14b0 : decide (32 ≤ (rd t483 x8_1)) = true := decide_eq_true c14
        clear c14
        have H' := Aside0.mk H
        clear H
        have p487 : 0 ≤ (x8_1 : Int) := of_decide_eq_true (by first | (with_reducible assumption) | assumption)
        have q487 : x8_1 < (t483.length : Int) := of_decide_eq_true (by first | (with_reducible assumption) | assumption)
        obtain ⟨ad487, e487, hx487_0⟩ := Kd.at_int (Kd.V_reads' HO_6.out).2.2 x8_1 p487 q487
        cases e487
        replace p487 := eq_true p487
        replace q487 := eq_true q487
        have p488 : 0 ≤ (x8_1 : Int) := of_decide_eq_true (by first | (with_reducible assumption) | assumption)
        have q488 : x8_1 < (t483.length : Int) := of_decide_eq_true (by first | (with_reducible assumption) | assumption)
        obtain ⟨ad488, e488, hx488_0⟩ := Kd.at_int (Kd.V_reads' HO_6.out).2.2 x8_1 p488 q488
        obtain rfl : ad487 = ad488 := (by injection e488)
        replace p488 := eq_true p488
        replace q488 := eq_true q488
        go_wp2
        go_meet
        case rel => exact ⟨_, (((rd t483 x8_1) != 127)), (by first | rfl | (simp; done) | (simp [*]; done)), H', ⟨by have := HK1.out; first | omega | exact Nat.le_refl _⟩, ⟨by (with_reducible repeat (first | apply Kd.V_alloc | apply Kd.V_drewN | apply Kd.V_drew)); exact HO_6.out⟩, ⟨by repeat (first | (with_reducible first | exact HB.out | apply below_alloc | apply pw_below_drewN | apply below_drew1) | exact HB.out)⟩⟩
       ·rw [if_neg c14] at H
        have c14b0 : decide (32 ≤ (rd t483 x8_1)) = false := decide_eq_false c14
        clear c14
        by_cases c15 : (rd t483 x8_1) = 10
        ·rw [if_pos c15] at H
         have c15b0 : ((rd t483 x8_1) == 10) = true := beq_iff_eq.mpr c15
         have c15b1 : ((rd t483 x8_1) != 10) = false := bne_eq_false_iff_eq.mpr c15
         clear c15
         have H' := Aside0.mk H
         clear H
         have p487 : 0 ≤ (x8_1 : Int) := of_decide_eq_true (by first | (with_reducible assumption) | assumption)
         have q487 : x8_1 < (t483.length : Int) := of_decide_eq_true (by first | (with_reducible assumption) | assumption)
         obtain ⟨ad487, e487, hx487_0⟩ := Kd.at_int (Kd.V_reads' HO_6.out).2.2 x8_1 p487 q487
         cases e487
         replace p487 := eq_true p487
         replace q487 := eq_true q487
         have p489 : 0 ≤ (x8_1 : Int) := of_decide_eq_true (by first | (with_reducible assumption) | assumption)
         have q489 : x8_1 < (t483.length : Int) := of_decide_eq_true (by first | (with_reducible assumption) | assumption)
         obtain ⟨ad489, e489, hx489_0⟩ := Kd.at_int (Kd.V_reads' HO_6.out).2.2 x8_1 p489 q489
         obtain rfl : ad487 = ad489 := (by injection e489)
         replace p489 := eq_true p489
         replace q489 := eq_true q489
         have p490 : 0 ≤ (x8_1 : Int) := of_decide_eq_true (by first | (with_reducible assumption) | assumption)
         have q490 : x8_1 < (t483.length : Int) := of_decide_eq_true (by first | (with_reducible assumption) | assumption)
         obtain ⟨ad490, e490, hx490_0⟩ := Kd.at_int (Kd.V_reads' HO_6.out).2.2 x8_1 p490 q490
         obtain rfl : ad487 = ad490 := (by injection e490)
         replace p490 := eq_true p490
         replace q490 := eq_true q490
         go_wp2
         go_meet
         case rel => exact ⟨_, (((rd t483 x8_1) != 127)), (by first | rfl | (simp; done) | (simp [*]; done)), H', ⟨by have := HK1.out; first | omega | exact Nat.le_refl _⟩, ⟨by (with_reducible repeat (first | apply Kd.V_alloc | apply Kd.V_drewN | apply Kd.V_drew)); exact HO_6.out⟩, ⟨by repeat (first | (with_reducible first | exact HB.out | apply below_alloc | apply pw_below_drewN | apply below_drew1) | exact HB.out)⟩⟩
        ·rw [if_neg c15] at H
         have c15b0 : ((rd t483 x8_1) == 10) = false := beq_eq_false_iff_ne.mpr c15
         have c15b1 : ((rd t483 x8_1) != 10) = true := bne_iff_ne.mpr c15
         have H' := Aside0.mk H
         clear H
         have p487 : 0 ≤ (x8_1 : Int) := of_decide_eq_true (by first | (with_reducible assumption) | assumption)
         have q487 : x8_1 < (t483.length : Int) := of_decide_eq_true (by first | (with_reducible assumption) | assumption)
         obtain ⟨ad487, e487, hx487_0⟩ := Kd.at_int (Kd.V_reads' HO_6.out).2.2 x8_1 p487 q487
         cases e487
         replace p487 := eq_true p487
         replace q487 := eq_true q487
         have p489 : 0 ≤ (x8_1 : Int) := of_decide_eq_true (by first | (with_reducible assumption) | assumption)
         have q489 : x8_1 < (t483.length : Int) := of_decide_eq_true (by first | (with_reducible assumption) | assumption)
         obtain ⟨ad489, e489, hx489_0⟩ := Kd.at_int (Kd.V_reads' HO_6.out).2.2 x8_1 p489 q489
         obtain rfl : ad487 = ad489 := (by injection e489)
         replace p489 := eq_true p489
         replace q489 := eq_true q489
         go_wp2
         go_meet
         case rel => exact ⟨_, (false), (by first | rfl | (simp; done) | (simp [*]; done)), H', ⟨by have := HK1.out; first | omega | exact Nat.le_refl _⟩, ⟨by (with_reducible repeat (first | apply Kd.V_alloc | apply Kd.V_drewN | apply Kd.V_drew)); exact HO_6.out⟩, ⟨by repeat (first | (with_reducible first | exact HB.out | apply below_alloc | apply pw_below_drewN | apply below_drew1) | exact HB.out)⟩⟩
      ·rw [if_neg c13] at H
       exact absurd H (by simp)
     ·replace c12 := Bool.eq_false_iff.mpr c12
      subst c12
      have H1 : (tmesislaw04_QuoteBack.j1 k1 l1 t482 t483 false x8_1) = some r := by rw [if_neg (show ¬ (false = true) by decide)] at H; exact H
      clear H
      have H := H1
      clear H1
      have H' := Aside0.mk H
      clear H
      go_wp2
      go_meet
      case rel => exact ⟨_, (false), (by first | rfl | (simp; done) | (simp [*]; done)), H', ⟨by have := HK1.out; first | omega | exact Nat.le_refl _⟩, ⟨by (with_reducible repeat (first | apply Kd.V_alloc | apply Kd.V_drewN | apply Kd.V_drew)); exact HO_6.out⟩, ⟨by repeat (first | (with_reducible first | exact HB.out | apply below_alloc | apply pw_below_drewN | apply below_drew1) | exact HB.out)⟩⟩
    case rest =>
     clear HC11
     try clear c1
     try clear p2
     try clear p4
     try clear q4
     try clear hx4
     try clear c7
     try clear c8
     try clear c10
     try clear c10b0
     try clear c12
     try clear c13
     try clear c13b0
     try clear c14
     try clear c14b0
     try clear c15
     try clear c15b0
     try clear c15b1
     try clear hx487_0
     try clear hx488_0
     try clear hx489_0
     try clear hx490_0
     try clear p2
     try clear p487
     try clear p488
     try clear p489
     try clear p490
     try clear q487
     try clear q488
     try clear q489
     try clear q490
     obtain ⟨kq, x7_10, rfl, HA, HJ10, HO_6, HB⟩ := hcut
     cases kq with
     | zero => exact absurd HA.out (by simp [tmesislaw04_QuoteBack.j1])
     | succ kj10 =>
      have H := HA.out
      clear HA
      simp only [tmesislaw04_QuoteBack.j1] at H
      have H' := Aside0.mk H
      clear H
      go_wp2
      go_roundg kj10
      case measure => have := HK1.out; have := HJ10.out; omega
      case rel => exact ⟨(x7_10), (wrap64 (x8_1 + 1)), (by first | rfl | (simp; done) | (simp [*]; done)), (by first | rfl | (simp; done) | (simp [*]; done)), H', ⟨by have := HK1.out; have := HJ10.out; omega⟩, ⟨by (with_reducible repeat (first | apply Kd.V_alloc | apply Kd.V_drewN | apply Kd.V_drew)); exact HO_6.out⟩, ⟨by repeat (first | (with_reducible first | exact HB.out | apply below_alloc | apply pw_below_drewN | apply below_drew1) | exact HB.out)⟩⟩
   ·rw [if_neg c10] at H
    have c10b0 : decide (x8_1 < (t483.length : Int)) = false := decide_eq_false c10
    clear c10
    replace H := Option.bind_eq_some_iff.mp H
    obtain ⟨⟨t491, t492⟩, A160, H⟩ := H
    replace H : (if x7_1 = true then ((tmesislaw04_few.f l1).bind fun t495 => (if (t495.length : Int) > 0 then (if 0 < (t495.length : Int) then (tmesislaw04_QuoteBack.j3 k1 t482 t483 t491 t492 t495 ((rd t495 0) == 39)) else (none)) else (tmesislaw04_QuoteBack.j3 k1 t482 t483 t491 t492 t495 false))) else (if t482 = true then (if t492 = 1 then (tmesislaw04_QuoteBack.j2 k1 ((t491.length : Int) == 0)) else (tmesislaw04_QuoteBack.j2 k1 false)) else (tmesislaw04_QuoteBack.j2 k1 false))) = some r := H
    have A16 := Aside0.mk A160
    clear A160
    by_cases c17 : x7_1 = true
    ·subst c17
     have H1 : ((tmesislaw04_few.f l1).bind fun t495 => (if (t495.length : Int) > 0 then (if 0 < (t495.length : Int) then (tmesislaw04_QuoteBack.j3 k1 t482 t483 t491 t492 t495 ((rd t495 0) == 39)) else (none)) else (tmesislaw04_QuoteBack.j3 k1 t482 t483 t491 t492 t495 false))) = some r := by rw [if_pos rfl] at H; exact H
     clear H
     have H := H1
     clear H1
     replace H := Option.bind_eq_some_iff.mp H
     obtain ⟨t495, A180, H⟩ := H
     replace H : (if (t495.length : Int) > 0 then (if 0 < (t495.length : Int) then (tmesislaw04_QuoteBack.j3 k1 t482 t483 t491 t492 t495 ((rd t495 0) == 39)) else (none)) else (tmesislaw04_QuoteBack.j3 k1 t482 t483 t491 t492 t495 false)) = some r := H
     have A18 := Aside0.mk A180
     clear A180
     have HC19 := Aside0.mk H
     clear H
     go_upto_region 12 with (first | ((with_reducible refine gate_callee (f := 12) rfl ?_); refine goesL_ (some 50) rfl rfl Tryd.func12 (by kernel_rfl) rfl #[.slice Ao8 t483.length co8] rfl (by (try simp only [List.map_toArray, List.map_cons, List.map_nil]); first | done | rfl | (simp only [List.length_drop, List.length_take]; rfl)) ?_; (with_reducible refine (quote_Put.calls k1 _ _ t483 t491 t492 _ ?side1 ?side2 ?side3 A16.out).mono ?_); (case side1 => exact Gl.below HG.out (by repeat (first | (with_reducible first | exact HB.out | apply below_alloc | apply pw_below_drewN | apply below_drew1) | exact HB.out))); (case side2 => repeat (first | exact (Kd.V_reads' HO_6.out).2.2 | (with_reducible refine Kd.C_alloc ?_ _) | (with_reducible refine Kd.C_drewN ?_ _) | (with_reducible refine Kd.C_drew ?_))); (case side3 => exact (Kd.V_reads' HO_6.out).2.1); rintro e w20 ⟨v493, rfl, ho0, hb⟩; refine ⟨_, rfl, ?_⟩; have n0_ := Aside0.mk (Kd.V_elder' (by (with_reducible repeat (first | apply Kd.V_alloc | apply Kd.V_drewN | apply Kd.V_drew)); exact HO_6.out) (Kd.R_base ho0) hb); have n1_ := Aside0.mk (Kd.R_lower ho0 (below_size (by repeat (first | (with_reducible first | exact HB.out | apply below_alloc | apply pw_below_drewN | apply below_drew1) | exact HB.out)))); have n2_ := Aside0.mk (below_step (by repeat (first | (with_reducible first | exact HB.out | apply below_alloc | apply pw_below_drewN | apply below_drew1) | exact HB.out)) hb); clear HO_6; clear HB; have HO_6 := n0_; have HO494 := n1_; have HB := n2_; clear n0_ n1_ n2_; (try clear hb); (try clear hb2); (try clear hk); (try clear hi); (try clear ho0)) | ((with_reducible refine gate_callee (f := 10) rfl ?_); refine goesL_ (some 66) rfl rfl Tryd.func10 (by kernel_rfl) rfl #[.slice A1 l1.length c1] rfl (by (try simp only [List.map_toArray, List.map_cons, List.map_nil]); first | done | rfl | (simp only [List.length_drop, List.length_take]; rfl)) ?_; (with_reducible refine (tmesislaw04_few.calls (fun k_ => k_ < w.heap.size) _ _ l1 t495 _ ?side1 A18.out).mono ?_); (case side1 => exact Kd.V_mk HC1.out (Kd.F_below (Kd.C_F (Kd.heap_int .u8) HR1.out) (by repeat (first | (with_reducible first | exact HB.out | apply below_alloc | apply pw_below_drewN | apply below_drew1) | exact HB.out)))); rintro e w21 ⟨v496, rfl, ho0, hb⟩; refine ⟨_, rfl, ?_⟩; have n0_ := Aside0.mk (Kd.V_below (by (with_reducible repeat (first | apply Kd.V_alloc | apply Kd.V_drewN | apply Kd.V_drew)); exact HO_6.out) hb); have n1_ := Aside0.mk (Kd.R_below (by (with_reducible repeat (first | apply Kd.R_alloc | apply Kd.R_drewN | apply Kd.R_drew)); exact HO494.out) hb); have n2_ := Aside0.mk (Kd.V_lower (Kd.V_mono (ok' := fun k_ => some k_ ≠ (v493 : Value).ownBlock) ho0 (fun k_ hk_ => Or.elim hk_ (fun hs_ => fun e_ => Nat.not_le.2 hs_ (Kd.R_base HO494.out k_ e_.symm)) (fun hn_ => (Kd.fresh' (Kd.R_lt (by (with_reducible repeat (first | apply Kd.R_alloc | apply Kd.R_drewN | apply Kd.R_drew)); exact HO494.out)) k_ hn_)))) (below_size (by repeat (first | (with_reducible first | exact HB.out | apply below_alloc | apply pw_below_drewN | apply below_drew1) | exact HB.out)))); have n3_ := Aside0.mk (below_step (by repeat (first | (with_reducible first | exact HB.out | apply below_alloc | apply pw_below_drewN | apply below_drew1) | exact HB.out)) hb); clear HO_6; clear HO494; clear HB; have HO_6 := n0_; have HO494 := n1_; have HO497 := n2_; have HB := n3_; clear n0_ n1_ n2_ n3_; (try clear hb); (try clear hb2); (try clear hk); (try clear hi); (try clear ho0)))
     (try simp only [Act.put, List.setIfInBounds_toArray, List.set_cons_zero, List.set_cons_succ])
     go_cut [75] (fun v75 wc => ∃ (kq : Nat) (x75_18 : Bool), v75 = .bool x75_18 ∧ Aside0 (tmesislaw04_QuoteBack.j3 kq t482 t483 t491 t492 t495 x75_18 = some r) ∧ Aside0 (kq ≤ k1) ∧ Aside0 (Kd.V (Kd.int .u8) 5 wc w.heap.size (fun k_ => some k_ ≠ (v493 : Value).ownBlock) (.slice Ao8 t483.length co8) t483) ∧ Aside0 (Kd.R (Kd.int .u8) 5 wc w.heap.size (fun _ => True) v493 t491) ∧ Aside0 (Kd.V (Kd.int .u8) 5 wc w.heap.size (fun k_ => some k_ ≠ (v493 : Value).ownBlock) v496 t495) ∧ Aside0 (Below w.heap.size w wc))
     case first =>
      have H := HC19.out
      clear HC19
      by_cases c22 : (t495.length : Int) > 0
      ·rw [if_pos c22] at H
       have c22b0 : decide (0 < (t495.length : Int)) = true := decide_eq_true c22
       have c22b1 : decide (0 < t495.length) = true := decide_eq_true (by omega)
       clear c22
       (first | rw [c22b0] | (simp only [i64_w, i32_w]; rw [c22b0]) | skip)
       by_cases c23 : 0 < (t495.length : Int)
       ·rw [if_pos c23] at H
        have c23b0 : decide (0 < (t495.length : Int)) = true := decide_eq_true c23
        have c23b1 : decide (0 < t495.length) = true := decide_eq_true (by omega)
        clear c23
        have H' := Aside0.mk H
        clear H
        obtain ⟨Ao24, co24, eo24⟩ := Kd.V_slice HO497.out
        subst eo24
        have p498 : 0 ≤ (0 : Int) := (by omega)
        have q498 : 0 < (t495.length : Int) := of_decide_eq_true (by first | (with_reducible assumption) | assumption)
        obtain ⟨ad498, e498, hx498_0⟩ := Kd.at_int (Kd.V_reads' HO497.out).2.2 0 p498 q498
        cases e498
        have qi498 : (0 < t495.length) = True := eq_true (by omega)
        (try rw [show ((0 : Int)).toNat = 0 from rfl] at hx498_0)
        (try rw [Addr.add_zero'] at hx498_0)
        replace p498 := eq_true p498
        replace q498 := eq_true q498
        go_wp2
        go_meet
        case rel => exact ⟨_, (((rd t495 0) == 39)), (by first | rfl | (simp; done) | (simp [*]; done)), H', ⟨by have := HK1.out; first | omega | exact Nat.le_refl _⟩, ⟨by (with_reducible repeat (first | apply Kd.V_alloc | apply Kd.V_drewN | apply Kd.V_drew)); exact Kd.V_mono HO_6.out (fun _ hk => hk.2)⟩, ⟨by (with_reducible repeat (first | apply Kd.R_alloc | apply Kd.R_drewN | apply Kd.R_drew)); exact HO494.out⟩, ⟨by (with_reducible repeat (first | apply Kd.V_alloc | apply Kd.V_drewN | apply Kd.V_drew)); exact HO497.out⟩, ⟨by repeat (first | (with_reducible first | exact HB.out | apply below_alloc | apply pw_below_drewN | apply below_drew1) | exact HB.out)⟩⟩
       ·rw [if_neg c23] at H
        exact absurd H (by simp)
      ·rw [if_neg c22] at H
       have c22b0 : decide (0 < (t495.length : Int)) = false := decide_eq_false c22
       have c22b1 : decide (0 < t495.length) = false := decide_eq_false (by omega)
       clear c22
       (first | rw [c22b0] | (simp only [i64_w, i32_w]; rw [c22b0]) | skip)
       have H' := Aside0.mk H
       clear H
       obtain ⟨Ao25, co25, eo25⟩ := Kd.V_slice HO497.out
       subst eo25
       go_wp2
       go_meet
       case rel => exact ⟨_, (false), (by first | rfl | (simp; done) | (simp [*]; done)), H', ⟨by have := HK1.out; first | omega | exact Nat.le_refl _⟩, ⟨by (with_reducible repeat (first | apply Kd.V_alloc | apply Kd.V_drewN | apply Kd.V_drew)); exact Kd.V_mono HO_6.out (fun _ hk => hk.2)⟩, ⟨by (with_reducible repeat (first | apply Kd.R_alloc | apply Kd.R_drewN | apply Kd.R_drew)); exact HO494.out⟩, ⟨by (with_reducible repeat (first | apply Kd.V_alloc | apply Kd.V_drewN | apply Kd.V_drew)); exact HO497.out⟩, ⟨by repeat (first | (with_reducible first | exact HB.out | apply below_alloc | apply pw_below_drewN | apply below_drew1) | exact HB.out)⟩⟩
     case rest =>
      clear HC19
      try clear c1
      try clear c2
      try clear p2
      try clear p4
      try clear q4
      try clear hx4
      try clear qi4
      try clear p6
      try clear c7
      try clear c8
      try clear c10
      try clear c10b0
      try clear c12
      try clear c13
      try clear c13b0
      try clear c14
      try clear c14b0
      try clear c15
      try clear c15b0
      try clear c15b1
      try clear c17
      try clear c22
      try clear c22b0
      try clear c22b1
      try clear c23
      try clear c23b0
      try clear c23b1
      try clear hx487_0
      try clear hx488_0
      try clear hx489_0
      try clear hx490_0
      try clear hx498_0
      try clear p2
      try clear p4
      try clear p487
      try clear p488
      try clear p489
      try clear p490
      try clear p498
      try clear q4
      try clear q487
      try clear q488
      try clear q489
      try clear q490
      try clear q498
      obtain ⟨kq, x75_18, rfl, HA, HJ18, HO_6, HO_9, HO_11, HB⟩ := hcut
      cases kq with
      | zero => exact absurd HA.out (by simp [tmesislaw04_QuoteBack.j3])
      | succ kj18 =>
       have H := HA.out
       clear HA
       simp only [tmesislaw04_QuoteBack.j3] at H
       have HC26 := Aside0.mk H
       clear H
       go_upto_if 75 with (fail)
       go_cut [11] (fun v11 wc => ∃ (kq : Nat) (x11_25 : List Int), Aside0 (tmesislaw04_QuoteBack.j4 kq t482 t483 t491 t492 x11_25 = some r) ∧ Aside0 (kq ≤ kj18) ∧ Aside0 (Kd.V (Kd.int .u8) 5 wc w.heap.size (fun k_ => some k_ ≠ (v493 : Value).ownBlock) (.slice Ao8 t483.length co8) t483) ∧ Aside0 (Kd.R (Kd.int .u8) 5 wc w.heap.size (fun _ => True) v493 t491) ∧ Aside0 (Kd.V (Kd.int .u8) 5 wc w.heap.size (fun k_ => some k_ ≠ (v493 : Value).ownBlock) v11 x11_25) ∧ Aside0 (Below w.heap.size w wc))
       case first =>
        have H := HC26.out
        clear HC26
        by_cases c27 : x75_18 = true
        ·subst c27
         have H1 : (tmesislaw04_QuoteBack.j4 kj18 t482 t483 t491 t492 ([] : List Int)) = some r := by rw [if_pos rfl] at H; exact H
         clear H
         have H := H1
         clear H1
         have H' := Aside0.mk H
         clear H
         go_wp2
         go_meet
         case rel => exact ⟨_, (([] : List Int)), H', ⟨by have := HK1.out; have := HJ18.out; first | omega | exact Nat.le_refl _⟩, ⟨by (with_reducible repeat (first | apply Kd.V_alloc | apply Kd.V_drewN | apply Kd.V_drew)); exact HO_6.out⟩, ⟨by (with_reducible repeat (first | apply Kd.R_alloc | apply Kd.R_drewN | apply Kd.R_drew)); exact HO_9.out⟩, ⟨(by first | exact Kd.V_nil _ _ _ _ _ | exact Kd.R_V (Kd.R_nil _ _ _ 0 _))⟩, ⟨by repeat (first | (with_reducible first | exact HB.out | apply below_alloc | apply pw_below_drewN | apply below_drew1) | exact HB.out)⟩⟩
        ·replace c27 := Bool.eq_false_iff.mpr c27
         subst c27
         have H1 : (tmesislaw04_QuoteBack.j4 kj18 t482 t483 t491 t492 t495) = some r := by rw [if_neg (show ¬ (false = true) by decide)] at H; exact H
         clear H
         have H := H1
         clear H1
         have H' := Aside0.mk H
         clear H
         go_wp2
         go_meet
         case rel => exact ⟨_, (t495), H', ⟨by have := HK1.out; have := HJ18.out; first | omega | exact Nat.le_refl _⟩, ⟨by (with_reducible repeat (first | apply Kd.V_alloc | apply Kd.V_drewN | apply Kd.V_drew)); exact HO_6.out⟩, ⟨by (with_reducible repeat (first | apply Kd.R_alloc | apply Kd.R_drewN | apply Kd.R_drew)); exact HO_9.out⟩, ⟨by (with_reducible repeat (first | apply Kd.V_alloc | apply Kd.V_drewN | apply Kd.V_drew)); exact HO_11.out⟩, ⟨by repeat (first | (with_reducible first | exact HB.out | apply below_alloc | apply pw_below_drewN | apply below_drew1) | exact HB.out)⟩⟩
       case rest =>
        clear HC26
        try clear c1
        try clear c2
        try clear p2
        try clear p4
        try clear q4
        try clear hx4
        try clear qi4
        try clear p6
        try clear c7
        try clear c8
        try clear c10
        try clear c10b0
        try clear c12
        try clear c13
        try clear c13b0
        try clear c14
        try clear c14b0
        try clear c15
        try clear c15b0
        try clear c15b1
        try clear c17
        try clear c22
        try clear c22b0
        try clear c22b1
        try clear c23
        try clear c23b0
        try clear c23b1
        try clear c27
        try clear hx487_0
        try clear hx488_0
        try clear hx489_0
        try clear hx490_0
        try clear hx498_0
        try clear p2
        try clear p4
        try clear p487
        try clear p488
        try clear p489
        try clear p490
        try clear p498
        try clear p6
        try clear q4
        try clear q487
        try clear q488
        try clear q489
        try clear q490
        try clear q498
        obtain ⟨kq, x11_25, HA, HJ25, HO_6, HO_9, HO_11, HB⟩ := hcut
        cases kq with
        | zero => exact absurd HA.out (by simp [tmesislaw04_QuoteBack.j4])
        | succ kj25 =>
         have H := HA.out
         clear HA
         simp only [tmesislaw04_QuoteBack.j4] at H
         obtain ⟨y499, hy499⟩ : ∃ y_ : List Int, y_ = (([] : List Int)) := ⟨_, rfl⟩
         replace H : (if y499.length + t491.length < 140737488355328 then ((some (y499 ++ t491 : List Int)).bind fun y502 => (if y502.length + x11_25.length < 140737488355328 then ((quote_Take.f kj25 (y502 ++ x11_25)).bind fun bt508 => (if t482 = true then (if t492 = 0 then (if bt508.2.2 = 0 then (if (strOfNums bt508.1).toList = (strOfNums t483).toList then (if bt508.2.1 = (t491.length : Int) then (tmesislaw04_QuoteBack.j5 kj25 (decide (bt508.2.1 ≥ (wrap64 ((t483.length : Int) + 2))))) else (tmesislaw04_QuoteBack.j5 kj25 false)) else (tmesislaw04_QuoteBack.j5 kj25 false)) else (tmesislaw04_QuoteBack.j5 kj25 false)) else (tmesislaw04_QuoteBack.j5 kj25 false)) else (tmesislaw04_QuoteBack.j5 kj25 false))) else (none))) else (none)) = some r := by first | (rw [hy499]; with_reducible exact H) | (have H2_ := (Option.bind_some _ _).symm.trans H; rw [hy499]; with_reducible exact H2_) | (have H2_ := (Option.bind_some _ _).symm.trans H; with_reducible exact H2_) | with_reducible exact H | (rw [hy499]; exact H) | exact H
         have Ny499 := Aside0.mk hy499
         clear hy499
         by_cases c28 : y499.length + t491.length < 140737488355328
         ·rw [if_pos c28] at H
          have LMc28 := Aside0.mk c28
          clear c28
          obtain ⟨y502, hy502⟩ : ∃ y_ : List Int, y_ = (y499 ++ t491) := ⟨_, rfl⟩
          replace H : (if y502.length + x11_25.length < 140737488355328 then ((quote_Take.f kj25 (y502 ++ x11_25)).bind fun bt508 => (if t482 = true then (if t492 = 0 then (if bt508.2.2 = 0 then (if (strOfNums bt508.1).toList = (strOfNums t483).toList then (if bt508.2.1 = (t491.length : Int) then (tmesislaw04_QuoteBack.j5 kj25 (decide (bt508.2.1 ≥ (wrap64 ((t483.length : Int) + 2))))) else (tmesislaw04_QuoteBack.j5 kj25 false)) else (tmesislaw04_QuoteBack.j5 kj25 false)) else (tmesislaw04_QuoteBack.j5 kj25 false)) else (tmesislaw04_QuoteBack.j5 kj25 false)) else (tmesislaw04_QuoteBack.j5 kj25 false))) else (none)) = some r := by first | (rw [hy502]; with_reducible exact H) | (have H2_ := (Option.bind_some _ _).symm.trans H; rw [hy502]; with_reducible exact H2_) | (have H2_ := (Option.bind_some _ _).symm.trans H; with_reducible exact H2_) | with_reducible exact H | (rw [hy502]; exact H) | exact H
          have Ny502 := Aside0.mk hy502
          clear hy502
          by_cases c29 : y502.length + x11_25.length < 140737488355328
          ·rw [if_pos c29] at H
           have LMc29 := Aside0.mk c29
           clear c29
           obtain ⟨y505, hy505⟩ : ∃ y_ : List Int, y_ = (y502 ++ x11_25) := ⟨_, rfl⟩
           replace H : ((quote_Take.f kj25 y505).bind fun bt508 => (if t482 = true then (if t492 = 0 then (if bt508.2.2 = 0 then (if (strOfNums bt508.1).toList = (strOfNums t483).toList then (if bt508.2.1 = (t491.length : Int) then (tmesislaw04_QuoteBack.j5 kj25 (decide (bt508.2.1 ≥ (wrap64 ((t483.length : Int) + 2))))) else (tmesislaw04_QuoteBack.j5 kj25 false)) else (tmesislaw04_QuoteBack.j5 kj25 false)) else (tmesislaw04_QuoteBack.j5 kj25 false)) else (tmesislaw04_QuoteBack.j5 kj25 false)) else (tmesislaw04_QuoteBack.j5 kj25 false))) = some r := by first | (rw [hy505]; with_reducible exact H) | (have H2_ := (Option.bind_some _ _).symm.trans H; rw [hy505]; with_reducible exact H2_) | (have H2_ := (Option.bind_some _ _).symm.trans H; with_reducible exact H2_) | with_reducible exact H | (rw [hy505]; exact H) | exact H
           have Ny505 := Aside0.mk hy505
           clear hy505
           replace H := Option.bind_eq_some_iff.mp H
           obtain ⟨⟨t508, t509, t510⟩, A300, H⟩ := H
           replace H : (if t482 = true then (if t492 = 0 then (if t510 = 0 then (if (strOfNums t508).toList = (strOfNums t483).toList then (if t509 = (t491.length : Int) then (tmesislaw04_QuoteBack.j5 kj25 (decide (t509 ≥ (wrap64 ((t483.length : Int) + 2))))) else (tmesislaw04_QuoteBack.j5 kj25 false)) else (tmesislaw04_QuoteBack.j5 kj25 false)) else (tmesislaw04_QuoteBack.j5 kj25 false)) else (tmesislaw04_QuoteBack.j5 kj25 false)) else (tmesislaw04_QuoteBack.j5 kj25 false)) = some r := H
           have A30 := Aside0.mk A300
           clear A300
           have HC31 := Aside0.mk H
           clear H
           go_upto_region 15 with (first | ((with_reducible refine gate_dst (N := 77) rfl ?_); (try (refine gate_guard (by rfl) ?_; dsimp only)); refine Kd.R_lit (Kd.int .u8) _ 5 ?hg (N := 77) ?hd (xs := ([] : List Int)) (inner := []) (ok := fun _ => True) (okp := fun _ => True) ?hr ?hp (fun _ hk => hk) trivial (Below.refl _ _) (Nat.le_refl _) (by simp) ?_; (case hd => rfl); (case hg => rfl); (case hr => first | (go_simp; done) | (go_simp; rfl)); (case hp => exact (Reps.none _ _)); intro v500 w32 ho33 hb hg_ hnew_; clear hg_ hnew_; (first | rw [← Ny499.out] at ho33 | (simp only [Int.reduceToNat] at ho33; rw [← Ny499.out] at ho33)); have n0_ := Aside0.mk (Kd.V_elder' (by (with_reducible repeat (first | apply Kd.V_alloc | apply Kd.V_drewN | apply Kd.V_drew)); exact HO_6.out) (Kd.R_base ho33) hb); have n1_ := Aside0.mk (Kd.R_elder' (by (with_reducible repeat (first | apply Kd.R_alloc | apply Kd.R_drewN | apply Kd.R_drew)); exact HO_9.out) (Kd.R_base ho33) hb); have n2_ := Aside0.mk (Kd.V_elder' (by (with_reducible repeat (first | apply Kd.V_alloc | apply Kd.V_drewN | apply Kd.V_drew)); exact HO_11.out) (Kd.R_base ho33) hb); have n3_ := Aside0.mk (Kd.R_lower (Kd.R_new' ho33 (Kd.R_lt (by (with_reducible repeat (first | apply Kd.R_alloc | apply Kd.R_drewN | apply Kd.R_drew)); exact HO_9.out))) (below_size (by repeat (first | (with_reducible first | exact HB.out | apply below_alloc | apply pw_below_drewN | apply below_drew1) | exact HB.out)))); have n4_ := Aside0.mk (below_step (by repeat (first | (with_reducible first | exact HB.out | apply below_alloc | apply pw_below_drewN | apply below_drew1) | exact HB.out)) hb); clear HO_6; clear HO_9; clear HO_11; clear HB; have HO_6 := n0_; have HO_9 := n1_; have HO_11 := n2_; have HO501 := n3_; have HB := n4_; clear n0_ n1_ n2_ n3_ n4_; clear hb ho33; obtain ⟨Ao35, co35, eo35⟩ := Kd.R_slice HO_9.out; subst eo35) | ((with_reducible refine gate_builtin (b := .append) (xs := #[.tmp 77, .tmp 78]) rfl ?_); (try (refine gate_guard (by rfl) ?_; dsimp only)); at_builtin; refine Kd.R_append_rows (Kd.int .u8) (w0 := w) w.heap.size rfl (.tmp 77) (.tmp 78) 22 5 (.int .u8 0) 1 rfl Tryd.underlying22 info5 rfl (by decide) (by omega) v500 y499 t491 _ _ _ (fun k_ => some k_ ≠ (.slice Ao35 t491.length co35 : Value).ownBlock) (fun _ => False) rfl rfl ?aO ?aR (fun _ _ h => h) (fun _ h => h.elim) ?aF ?aB ?aS ?aL ?_; (case aR => repeat (first | exact (Kd.R_reads' HO_9.out).2.2 | (with_reducible refine Kd.C_alloc ?_ _) | (with_reducible refine Kd.C_drewN ?_ _) | (with_reducible refine Kd.C_drew ?_))); (case aB => exact (by repeat (first | (with_reducible first | exact HB.out | apply below_alloc | apply pw_below_drewN | apply below_drew1) | exact HB.out))); (case aF => exact (fun k_ hk => Kd.fresh' (Kd.R_lt (by (with_reducible repeat (first | apply Kd.R_alloc | apply Kd.R_drewN | apply Kd.R_drew)); exact HO_9.out)) k_ hk)); (case aO => exact (by (with_reducible repeat (first | apply Kd.R_alloc | apply Kd.R_drewN | apply Kd.R_drew)); exact Kd.R_mono HO501.out (fun _ hk => hk.2))); (case aS => exact (below_size (by repeat (first | (with_reducible first | exact HB.out | apply below_alloc | apply pw_below_drewN | apply below_drew1) | exact HB.out)))); (case aL => have := LMc28.out; omega); intro v503 w34 ho hb hg hat; rw [← Ny502.out] at ho; have n0_ := Aside0.mk (Kd.V_afterv (ok := (fun k_ => some k_ ≠ (.slice Ao35 t491.length co35 : Value).ownBlock)) (by (with_reducible repeat (first | apply Kd.V_alloc | apply Kd.V_drewN | apply Kd.V_drew)); exact HO_6.out) hg hat); have n1_ := Aside0.mk (Kd.R_after (ok := (fun _ => True)) (by (with_reducible repeat (first | apply Kd.R_alloc | apply Kd.R_drewN | apply Kd.R_drew)); exact HO_9.out) hg hat); have n2_ := Aside0.mk (Kd.V_afterv (ok := (fun k_ => some k_ ≠ (.slice Ao35 t491.length co35 : Value).ownBlock)) (by (with_reducible repeat (first | apply Kd.V_alloc | apply Kd.V_drewN | apply Kd.V_drew)); exact HO_11.out) hg hat); have n3_ := Aside0.mk (hb); have n4_ := Aside0.mk (ho); clear HO_6; clear HO_9; clear HO_11; clear HB; clear HO501; have HO_6 := n0_; have HO_9 := n1_; have HO_11 := n2_; have HB := n3_; have HO504 := n4_; clear n0_ n1_ n2_ n3_ n4_; clear ho hb hg hat; obtain ⟨Ao37, co37, eo37⟩ := Kd.V_slice HO_11.out; subst eo37) | ((with_reducible refine gate_builtin (b := .append) (xs := #[.tmp 79, .tmp 80]) rfl ?_); (try (refine gate_guard (by rfl) ?_; dsimp only)); at_builtin; refine Kd.R_append_rows (Kd.int .u8) (w0 := w) w.heap.size rfl (.tmp 79) (.tmp 80) 22 5 (.int .u8 0) 1 rfl Tryd.underlying22 info5 rfl (by decide) (by omega) v503 y502 x11_25 _ _ _ (fun k_ => some k_ ≠ (.slice Ao35 t491.length co35 : Value).ownBlock) (fun _ => False) rfl rfl ?aO ?aR (fun _ _ h => h) (fun _ h => h.elim) ?aF ?aB ?aS ?aL ?_; (case aR => repeat (first | exact (Kd.V_reads' HO_11.out).2.2 | (with_reducible refine Kd.C_alloc ?_ _) | (with_reducible refine Kd.C_drewN ?_ _) | (with_reducible refine Kd.C_drew ?_))); (case aB => exact (by repeat (first | (with_reducible first | exact HB.out | apply below_alloc | apply pw_below_drewN | apply below_drew1) | exact HB.out))); (case aF => exact (fun k_ hk => Kd.fresh' (Kd.R_lt (by (with_reducible repeat (first | apply Kd.R_alloc | apply Kd.R_drewN | apply Kd.R_drew)); exact HO_9.out)) k_ hk)); (case aO => exact (by (with_reducible repeat (first | apply Kd.R_alloc | apply Kd.R_drewN | apply Kd.R_drew)); exact HO504.out)); (case aS => exact (below_size (by repeat (first | (with_reducible first | exact HB.out | apply below_alloc | apply pw_below_drewN | apply below_drew1) | exact HB.out)))); (case aL => have := LMc29.out; omega); intro v506 w36 ho hb hg hat; rw [← Ny505.out] at ho; have n0_ := Aside0.mk (Kd.V_afterv (ok := (fun k_ => some k_ ≠ (.slice Ao35 t491.length co35 : Value).ownBlock)) (by (with_reducible repeat (first | apply Kd.V_alloc | apply Kd.V_drewN | apply Kd.V_drew)); exact HO_6.out) hg hat); have n1_ := Aside0.mk (Kd.R_after (ok := (fun _ => True)) (by (with_reducible repeat (first | apply Kd.R_alloc | apply Kd.R_drewN | apply Kd.R_drew)); exact HO_9.out) hg hat); have n2_ := Aside0.mk (Kd.V_afterv (ok := (fun k_ => some k_ ≠ (.slice Ao35 t491.length co35 : Value).ownBlock)) (by (with_reducible repeat (first | apply Kd.V_alloc | apply Kd.V_drewN | apply Kd.V_drew)); exact HO_11.out) hg hat); have n3_ := Aside0.mk (hb); have n4_ := Aside0.mk (ho); clear HO_6; clear HO_9; clear HO_11; clear HB; clear HO504; have HO_6 := n0_; have HO_9 := n1_; have HO_11 := n2_; have HB := n3_; have HO507 := n4_; clear n0_ n1_ n2_ n3_ n4_; clear ho hb hg hat; obtain ⟨Ao38, co38, eo38⟩ := Kd.R_slice HO507.out; subst eo38) | ((with_reducible refine gate_callee (f := 9) rfl ?_); refine goesL_ (some 82) rfl rfl Tryd.func9 (by kernel_rfl) rfl #[.slice Ao38 y505.length co38] rfl (by (try simp only [List.map_toArray, List.map_cons, List.map_nil]); first | done | rfl | (simp only [List.length_drop, List.length_take]; rfl)) ?_; (with_reducible refine (quote_Take.calls kj25 _ _ y505 t508 t509 t510 _ ?side1 ?side2 A30.out).mono ?_); (case side1 => repeat (first | exact (Kd.R_reads' HO507.out).2.2 | (with_reducible refine Kd.C_alloc ?_ _) | (with_reducible refine Kd.C_drewN ?_ _) | (with_reducible refine Kd.C_drew ?_))); (case side2 => exact (Kd.R_reads' HO507.out).2.1); rintro e w39 ⟨v511, rfl, ho0, hb⟩; refine ⟨_, rfl, ?_⟩; have n0_ := Aside0.mk (Kd.V_elder' (by (with_reducible repeat (first | apply Kd.V_alloc | apply Kd.V_drewN | apply Kd.V_drew)); exact HO_6.out) (Kd.R_base ho0) hb); have n1_ := Aside0.mk (Kd.R_elder' (by (with_reducible repeat (first | apply Kd.R_alloc | apply Kd.R_drewN | apply Kd.R_drew)); exact HO_9.out) (Kd.R_base ho0) hb); have n2_ := Aside0.mk (Kd.V_elder' (by (with_reducible repeat (first | apply Kd.V_alloc | apply Kd.V_drewN | apply Kd.V_drew)); exact HO_11.out) (Kd.R_base ho0) hb); have n3_ := Aside0.mk (Kd.R_elder' (by (with_reducible repeat (first | apply Kd.R_alloc | apply Kd.R_drewN | apply Kd.R_drew)); exact HO507.out) (Kd.R_base ho0) hb); have n4_ := Aside0.mk (Kd.R_lower (Kd.R_new' (Kd.R_new' ho0 (Kd.R_lt (by (with_reducible repeat (first | apply Kd.R_alloc | apply Kd.R_drewN | apply Kd.R_drew)); exact HO_9.out))) (Kd.R_lt (by (with_reducible repeat (first | apply Kd.R_alloc | apply Kd.R_drewN | apply Kd.R_drew)); exact HO507.out))) (below_size (by repeat (first | (with_reducible first | exact HB.out | apply below_alloc | apply pw_below_drewN | apply below_drew1) | exact HB.out)))); have n5_ := Aside0.mk (below_step (by repeat (first | (with_reducible first | exact HB.out | apply below_alloc | apply pw_below_drewN | apply below_drew1) | exact HB.out)) hb); clear HO_6; clear HO_9; clear HO_11; clear HO507; clear HB; have HO_6 := n0_; have HO_9 := n1_; have HO_11 := n2_; have HO507 := n3_; have HO512 := n4_; have HB := n5_; clear n0_ n1_ n2_ n3_ n4_ n5_; (try clear hb); (try clear hb2); (try clear hk); (try clear hi); (try clear ho0)))
           (try simp only [Act.put, List.setIfInBounds_toArray, List.set_cons_zero, List.set_cons_succ])
           go_cut [4] (fun v4 wc => ∃ (kq : Nat) (x4_30 : Bool), v4 = .bool x4_30 ∧ Aside0 (tmesislaw04_QuoteBack.j5 kq x4_30 = some r) ∧ Aside0 (kq ≤ kj25) ∧ Aside0 (Below w.heap.size w wc))
           case first =>
            have H := HC31.out
            clear HC31
            by_cases c40 : t482 = true
            ·subst c40
             have H1 : (if t492 = 0 then (if t510 = 0 then (if (strOfNums t508).toList = (strOfNums t483).toList then (if t509 = (t491.length : Int) then (tmesislaw04_QuoteBack.j5 kj25 (decide (t509 ≥ (wrap64 ((t483.length : Int) + 2))))) else (tmesislaw04_QuoteBack.j5 kj25 false)) else (tmesislaw04_QuoteBack.j5 kj25 false)) else (tmesislaw04_QuoteBack.j5 kj25 false)) else (tmesislaw04_QuoteBack.j5 kj25 false)) = some r := by rw [if_pos rfl] at H; exact H
             clear H
             have H := H1
             clear H1
             by_cases c41 : t492 = 0
             ·rw [if_pos c41] at H
              have c41b0 : (t492 == 0) = true := beq_iff_eq.mpr c41
              have c41b1 : (t492 != 0) = false := bne_eq_false_iff_eq.mpr c41
              clear c41
              (first | rw [c41b0] | (simp only [i64_w, i32_w]; rw [c41b0]) | skip)
              by_cases c42 : t510 = 0
              ·rw [if_pos c42] at H
               have c42b0 : (t510 == 0) = true := beq_iff_eq.mpr c42
               have c42b1 : (t510 != 0) = false := bne_eq_false_iff_eq.mpr c42
               clear c42
               by_cases c43 : (strOfNums t508).toList = (strOfNums t483).toList
               ·rw [if_pos c43] at H
                have c43b0 : ((strOfNums t508).toList == (strOfNums t483).toList) = true := beq_iff_eq.mpr c43
                have c43b1 : ((strOfNums t508).toList != (strOfNums t483).toList) = false := bne_eq_false_iff_eq.mpr c43
                clear c43
                by_cases c44 : t509 = (t491.length : Int)
                ·rw [if_pos c44] at H
                 have c44b0 : (t509 == (t491.length : Int)) = true := beq_iff_eq.mpr c44
                 have c44b1 : (t509 != (t491.length : Int)) = false := bne_eq_false_iff_eq.mpr c44
                 clear c44
                 have H' := Aside0.mk H
                 clear H
                 (first | (have hcv45 := own_string (P := Tryd.prog) Tryd.underlying22 Tryd.underlying5 Tryd.underlying9 (Kd.own_of_R HO512.out); have hcv45q := fun (q_ : Nat) => own_string (P := Tryd.prog) Tryd.underlying22 Tryd.underlying5 Tryd.underlying9 (pw_own_drewN (Kd.own_of_R HO512.out) q_)) | (have hcv45 := V_string (P := Tryd.prog) Tryd.underlying22 Tryd.underlying5 Tryd.underlying9 HO512.out; have hcv45q := fun (q_ : Nat) => V_string (P := Tryd.prog) Tryd.underlying22 Tryd.underlying5 Tryd.underlying9 (Kd.V_drewN HO512.out q_)))
                 (first | (have hcv46 := own_string (P := Tryd.prog) Tryd.underlying22 Tryd.underlying5 Tryd.underlying9 (Kd.own_of_R HO_6.out); have hcv46q := fun (q_ : Nat) => own_string (P := Tryd.prog) Tryd.underlying22 Tryd.underlying5 Tryd.underlying9 (pw_own_drewN (Kd.own_of_R HO_6.out) q_)) | (have hcv46 := V_string (P := Tryd.prog) Tryd.underlying22 Tryd.underlying5 Tryd.underlying9 HO_6.out; have hcv46q := fun (q_ : Nat) => V_string (P := Tryd.prog) Tryd.underlying22 Tryd.underlying5 Tryd.underlying9 (Kd.V_drewN HO_6.out q_)))
                 go_wp2
                 go_meet
                 case rel => exact ⟨_, (decide (t509 ≥ (wrap64 ((t483.length : Int) + 2)))), (by first | rfl | (simp; done) | (simp [*]; done)), H', ⟨by have := HK1.out; have := HJ18.out; have := HJ25.out; first | omega | exact Nat.le_refl _⟩, ⟨by repeat (first | (with_reducible first | exact HB.out | apply below_alloc | apply pw_below_drewN | apply below_drew1) | exact HB.out)⟩⟩
                ·rw [if_neg c44] at H
                 have c44b0 : (t509 == (t491.length : Int)) = false := beq_eq_false_iff_ne.mpr c44
                 have c44b1 : (t509 != (t491.length : Int)) = true := bne_iff_ne.mpr c44
                 have H' := Aside0.mk H
                 clear H
                 (first | (have hcv47 := own_string (P := Tryd.prog) Tryd.underlying22 Tryd.underlying5 Tryd.underlying9 (Kd.own_of_R HO512.out); have hcv47q := fun (q_ : Nat) => own_string (P := Tryd.prog) Tryd.underlying22 Tryd.underlying5 Tryd.underlying9 (pw_own_drewN (Kd.own_of_R HO512.out) q_)) | (have hcv47 := V_string (P := Tryd.prog) Tryd.underlying22 Tryd.underlying5 Tryd.underlying9 HO512.out; have hcv47q := fun (q_ : Nat) => V_string (P := Tryd.prog) Tryd.underlying22 Tryd.underlying5 Tryd.underlying9 (Kd.V_drewN HO512.out q_)))
                 (first | (have hcv48 := own_string (P := Tryd.prog) Tryd.underlying22 Tryd.underlying5 Tryd.underlying9 (Kd.own_of_R HO_6.out); have hcv48q := fun (q_ : Nat) => own_string (P := Tryd.prog) Tryd.underlying22 Tryd.underlying5 Tryd.underlying9 (pw_own_drewN (Kd.own_of_R HO_6.out) q_)) | (have hcv48 := V_string (P := Tryd.prog) Tryd.underlying22 Tryd.underlying5 Tryd.underlying9 HO_6.out; have hcv48q := fun (q_ : Nat) => V_string (P := Tryd.prog) Tryd.underlying22 Tryd.underlying5 Tryd.underlying9 (Kd.V_drewN HO_6.out q_)))
                 go_wp2
                 go_meet
                 case rel => exact ⟨_, (false), (by first | rfl | (simp; done) | (simp [*]; done)), H', ⟨by have := HK1.out; have := HJ18.out; have := HJ25.out; first | omega | exact Nat.le_refl _⟩, ⟨by repeat (first | (with_reducible first | exact HB.out | apply below_alloc | apply pw_below_drewN | apply below_drew1) | exact HB.out)⟩⟩
               ·rw [if_neg c43] at H
                have c43b0 : ((strOfNums t508).toList == (strOfNums t483).toList) = false := beq_eq_false_iff_ne.mpr c43
                have c43b1 : ((strOfNums t508).toList != (strOfNums t483).toList) = true := bne_iff_ne.mpr c43
                have H' := Aside0.mk H
                clear H
                (first | (have hcv49 := own_string (P := Tryd.prog) Tryd.underlying22 Tryd.underlying5 Tryd.underlying9 (Kd.own_of_R HO512.out); have hcv49q := fun (q_ : Nat) => own_string (P := Tryd.prog) Tryd.underlying22 Tryd.underlying5 Tryd.underlying9 (pw_own_drewN (Kd.own_of_R HO512.out) q_)) | (have hcv49 := V_string (P := Tryd.prog) Tryd.underlying22 Tryd.underlying5 Tryd.underlying9 HO512.out; have hcv49q := fun (q_ : Nat) => V_string (P := Tryd.prog) Tryd.underlying22 Tryd.underlying5 Tryd.underlying9 (Kd.V_drewN HO512.out q_)))
                (first | (have hcv50 := own_string (P := Tryd.prog) Tryd.underlying22 Tryd.underlying5 Tryd.underlying9 (Kd.own_of_R HO_6.out); have hcv50q := fun (q_ : Nat) => own_string (P := Tryd.prog) Tryd.underlying22 Tryd.underlying5 Tryd.underlying9 (pw_own_drewN (Kd.own_of_R HO_6.out) q_)) | (have hcv50 := V_string (P := Tryd.prog) Tryd.underlying22 Tryd.underlying5 Tryd.underlying9 HO_6.out; have hcv50q := fun (q_ : Nat) => V_string (P := Tryd.prog) Tryd.underlying22 Tryd.underlying5 Tryd.underlying9 (Kd.V_drewN HO_6.out q_)))
                go_wp2
                go_meet
                case rel => exact ⟨_, (false), (by first | rfl | (simp; done) | (simp [*]; done)), H', ⟨by have := HK1.out; have := HJ18.out; have := HJ25.out; first | omega | exact Nat.le_refl _⟩, ⟨by repeat (first | (with_reducible first | exact HB.out | apply below_alloc | apply pw_below_drewN | apply below_drew1) | exact HB.out)⟩⟩
              ·rw [if_neg c42] at H
               have c42b0 : (t510 == 0) = false := beq_eq_false_iff_ne.mpr c42
               have c42b1 : (t510 != 0) = true := bne_iff_ne.mpr c42
               have H' := Aside0.mk H
               clear H
               go_wp2
               go_meet
               case rel => exact ⟨_, (false), (by first | rfl | (simp; done) | (simp [*]; done)), H', ⟨by have := HK1.out; have := HJ18.out; have := HJ25.out; first | omega | exact Nat.le_refl _⟩, ⟨by repeat (first | (with_reducible first | exact HB.out | apply below_alloc | apply pw_below_drewN | apply below_drew1) | exact HB.out)⟩⟩
             ·rw [if_neg c41] at H
              have c41b0 : (t492 == 0) = false := beq_eq_false_iff_ne.mpr c41
              have c41b1 : (t492 != 0) = true := bne_iff_ne.mpr c41
              (first | rw [c41b0] | (simp only [i64_w, i32_w]; rw [c41b0]) | skip)
              have H' := Aside0.mk H
              clear H
              go_wp2
              go_meet
              case rel => exact ⟨_, (false), (by first | rfl | (simp; done) | (simp [*]; done)), H', ⟨by have := HK1.out; have := HJ18.out; have := HJ25.out; first | omega | exact Nat.le_refl _⟩, ⟨by repeat (first | (with_reducible first | exact HB.out | apply below_alloc | apply pw_below_drewN | apply below_drew1) | exact HB.out)⟩⟩
            ·replace c40 := Bool.eq_false_iff.mpr c40
             subst c40
             have H1 : (tmesislaw04_QuoteBack.j5 kj25 false) = some r := by rw [if_neg (show ¬ (false = true) by decide)] at H; exact H
             clear H
             have H := H1
             clear H1
             have H' := Aside0.mk H
             clear H
             go_wp2
             go_meet
             case rel => exact ⟨_, (false), (by first | rfl | (simp; done) | (simp [*]; done)), H', ⟨by have := HK1.out; have := HJ18.out; have := HJ25.out; first | omega | exact Nat.le_refl _⟩, ⟨by repeat (first | (with_reducible first | exact HB.out | apply below_alloc | apply pw_below_drewN | apply below_drew1) | exact HB.out)⟩⟩
           case rest =>
            clear HC31
            try clear c1
            try clear c2
            try clear p2
            try clear c4
            try clear p4
            try clear q4
            try clear hx4
            try clear hcv4
            try clear qi4
            try clear hcv5
            try clear p6
            try clear c7
            try clear c8
            try clear c9
            try clear c10
            try clear c10b0
            try clear c12
            try clear c13
            try clear c13b0
            try clear c14
            try clear c14b0
            try clear c15
            try clear c15b0
            try clear c15b1
            try clear c17
            try clear c22
            try clear c22b0
            try clear c22b1
            try clear c23
            try clear c23b0
            try clear c23b1
            try clear c27
            try clear c28
            try clear c29
            try clear c40
            try clear c41
            try clear c41b0
            try clear c41b1
            try clear c42
            try clear c42b0
            try clear c42b1
            try clear c43
            try clear c43b0
            try clear c43b1
            try clear c44
            try clear c44b0
            try clear c44b1
            try clear hcv45
            try clear hcv46
            try clear hcv47
            try clear p48
            try clear q48
            try clear hx48
            try clear hcv48
            try clear p49
            try clear q49
            try clear hx49
            try clear hcv49
            try clear qi49
            try clear hcv50
            try clear hx487_0
            try clear hx488_0
            try clear hx489_0
            try clear hx490_0
            try clear hx498_0
            try clear p2
            try clear p4
            try clear p487
            try clear p488
            try clear p489
            try clear p490
            try clear p498
            try clear p6
            try clear q4
            try clear q487
            try clear q488
            try clear q489
            try clear q490
            try clear q498
            obtain ⟨kq, x4_30, rfl, HA, HJ30, HB⟩ := hcut
            cases kq with
            | zero => exact absurd HA.out (by simp [tmesislaw04_QuoteBack.j5])
            | succ kj30 =>
             have H := HA.out
             clear HA
             simp only [tmesislaw04_QuoteBack.j5] at H
             obtain rfl := Option.some.inj H
             go_wp2
             go_ret
             exact ⟨by first | rfl | (simp [errW_none, errW_some] <;> rfl) | (simp [*, errW_none, errW_some] <;> rfl), by repeat (first | (with_reducible first | exact HB.out | apply below_alloc | apply pw_below_drewN | apply below_drew1) | exact HB.out)⟩
          ·rw [if_neg c29] at H
           exact absurd H (by simp)
         ·rw [if_neg c28] at H
          exact absurd H (by simp)
    ·replace c17 := Bool.eq_false_iff.mpr c17
     subst c17
     have H1 : (if t482 = true then (if t492 = 1 then (tmesislaw04_QuoteBack.j2 k1 ((t491.length : Int) == 0)) else (tmesislaw04_QuoteBack.j2 k1 false)) else (tmesislaw04_QuoteBack.j2 k1 false)) = some r := by rw [if_neg (show ¬ (false = true) by decide)] at H; exact H
     clear H
     have H := H1
     clear H1
     have HC51 := Aside0.mk H
     clear H
     go_upto_region 10 with (first | ((with_reducible refine gate_callee (f := 12) rfl ?_); refine goesL_ (some 50) rfl rfl Tryd.func12 (by kernel_rfl) rfl #[.slice Ao8 t483.length co8] rfl (by (try simp only [List.map_toArray, List.map_cons, List.map_nil]); first | done | rfl | (simp only [List.length_drop, List.length_take]; rfl)) ?_; (with_reducible refine (quote_Put.calls k1 _ _ t483 t491 t492 _ ?side1 ?side2 ?side3 A16.out).mono ?_); (case side1 => exact Gl.below HG.out (by repeat (first | (with_reducible first | exact HB.out | apply below_alloc | apply pw_below_drewN | apply below_drew1) | exact HB.out))); (case side2 => repeat (first | exact (Kd.V_reads' HO_6.out).2.2 | (with_reducible refine Kd.C_alloc ?_ _) | (with_reducible refine Kd.C_drewN ?_ _) | (with_reducible refine Kd.C_drew ?_))); (case side3 => exact (Kd.V_reads' HO_6.out).2.1); rintro e w52 ⟨v493, rfl, ho0, hb⟩; refine ⟨_, rfl, ?_⟩; have n0_ := Aside0.mk (Kd.V_elder' (by (with_reducible repeat (first | apply Kd.V_alloc | apply Kd.V_drewN | apply Kd.V_drew)); exact HO_6.out) (Kd.R_base ho0) hb); have n1_ := Aside0.mk (Kd.R_lower ho0 (below_size (by repeat (first | (with_reducible first | exact HB.out | apply below_alloc | apply pw_below_drewN | apply below_drew1) | exact HB.out)))); have n2_ := Aside0.mk (below_step (by repeat (first | (with_reducible first | exact HB.out | apply below_alloc | apply pw_below_drewN | apply below_drew1) | exact HB.out)) hb); clear HO_6; clear HB; have HO_6 := n0_; have HO494 := n1_; have HB := n2_; clear n0_ n1_ n2_; (try clear hb); (try clear hb2); (try clear hk); (try clear hi); (try clear ho0)))
     (try simp only [Act.put, List.setIfInBounds_toArray, List.set_cons_zero, List.set_cons_succ])
     go_cut [4] (fun v4 wc => ∃ (kq : Nat) (x4_50 : Bool), v4 = .bool x4_50 ∧ Aside0 (tmesislaw04_QuoteBack.j2 kq x4_50 = some r) ∧ Aside0 (kq ≤ k1) ∧ Aside0 (Below w.heap.size w wc))
     case first =>
      have H := HC51.out
      clear HC51
      by_cases c53 : t482 = true
      ·subst c53
       have H1 : (if t492 = 1 then (tmesislaw04_QuoteBack.j2 k1 ((t491.length : Int) == 0)) else (tmesislaw04_QuoteBack.j2 k1 false)) = some r := by rw [if_pos rfl] at H; exact H
       clear H
       have H := H1
       clear H1
       by_cases c54 : t492 = 1
       ·rw [if_pos c54] at H
        have c54b0 : (t492 == 1) = true := beq_iff_eq.mpr c54
        have c54b1 : (t492 != 1) = false := bne_eq_false_iff_eq.mpr c54
        clear c54
        (first | rw [c54b0] | (simp only [i64_w, i32_w]; rw [c54b0]) | skip)
        have H' := Aside0.mk H
        clear H
        obtain ⟨Ao55, co55, eo55⟩ := Kd.R_slice HO494.out
        subst eo55
        go_wp2
        go_meet
        case rel => exact ⟨_, (((t491.length : Int) == 0)), (by first | rfl | (simp; done) | (simp [*]; done)), H', ⟨by have := HK1.out; first | omega | exact Nat.le_refl _⟩, ⟨by repeat (first | (with_reducible first | exact HB.out | apply below_alloc | apply pw_below_drewN | apply below_drew1) | exact HB.out)⟩⟩
       ·rw [if_neg c54] at H
        have c54b0 : (t492 == 1) = false := beq_eq_false_iff_ne.mpr c54
        have c54b1 : (t492 != 1) = true := bne_iff_ne.mpr c54
        (first | rw [c54b0] | (simp only [i64_w, i32_w]; rw [c54b0]) | skip)
        have H' := Aside0.mk H
        clear H
        go_wp2
        go_meet
        case rel => exact ⟨_, (false), (by first | rfl | (simp; done) | (simp [*]; done)), H', ⟨by have := HK1.out; first | omega | exact Nat.le_refl _⟩, ⟨by repeat (first | (with_reducible first | exact HB.out | apply below_alloc | apply pw_below_drewN | apply below_drew1) | exact HB.out)⟩⟩
      ·replace c53 := Bool.eq_false_iff.mpr c53
       subst c53
       have H1 : (tmesislaw04_QuoteBack.j2 k1 false) = some r := by rw [if_neg (show ¬ (false = true) by decide)] at H; exact H
       clear H
       have H := H1
       clear H1
       have H' := Aside0.mk H
       clear H
       go_wp2
       go_meet
       case rel => exact ⟨_, (false), (by first | rfl | (simp; done) | (simp [*]; done)), H', ⟨by have := HK1.out; first | omega | exact Nat.le_refl _⟩, ⟨by repeat (first | (with_reducible first | exact HB.out | apply below_alloc | apply pw_below_drewN | apply below_drew1) | exact HB.out)⟩⟩
     case rest =>
      clear HC51
      try clear c1
      try clear c2
      try clear p2
      try clear c4
      try clear p4
      try clear q4
      try clear hx4
      try clear hcv4
      try clear qi4
      try clear c5
      try clear hcv5
      try clear p6
      try clear c7
      try clear c8
      try clear c9
      try clear c10
      try clear c10b0
      try clear c12
      try clear c13
      try clear c13b0
      try clear c14
      try clear c14b0
      try clear c15
      try clear c15b0
      try clear c15b1
      try clear c17
      try clear c22
      try clear c22b0
      try clear c22b1
      try clear c23
      try clear c23b0
      try clear c23b1
      try clear c27
      try clear c28
      try clear c29
      try clear c40
      try clear c41
      try clear c41b0
      try clear c41b1
      try clear c42
      try clear c42b0
      try clear c42b1
      try clear c43
      try clear c43b0
      try clear c43b1
      try clear c44
      try clear c44b0
      try clear c44b1
      try clear hcv45
      try clear hcv46
      try clear hcv47
      try clear p48
      try clear q48
      try clear hx48
      try clear hcv48
      try clear p49
      try clear q49
      try clear hx49
      try clear hcv49
      try clear qi49
      try clear hcv50
      try clear c53
      try clear c54
      try clear c54b0
      try clear c54b1
      try clear hx487_0
      try clear hx488_0
      try clear hx489_0
      try clear hx490_0
      try clear hx498_0
      try clear p2
      try clear p4
      try clear p48
      try clear p487
      try clear p488
      try clear p489
      try clear p49
      try clear p490
      try clear p498
      try clear p6
      try clear q4
      try clear q48
      try clear q487
      try clear q488
      try clear q489
      try clear q49
      try clear q490
      try clear q498
      obtain ⟨kq, x4_50, rfl, HA, HJ50, HB⟩ := hcut
      cases kq with
      | zero => exact absurd HA.out (by simp [tmesislaw04_QuoteBack.j2])
      | succ kj50 =>
       have H := HA.out
       clear HA
       simp only [tmesislaw04_QuoteBack.j2] at H
       obtain rfl := Option.some.inj H
       go_wp2
       go_ret
       exact ⟨by first | rfl | (simp [errW_none, errW_some] <;> rfl) | (simp [*, errW_none, errW_some] <;> rfl), by repeat (first | (with_reducible first | exact HB.out | apply below_alloc | apply pw_below_drewN | apply below_drew1) | exact HB.out)⟩
/-- THE ONE PURE STATEMENT of tmesislaw04_QuoteBack: yours. -/
def tmesislaw04_QuoteBack.Pure : Prop := ∀ (l0 : List Int) (l1 : List Int), l0.length ≤ maxLen → l0.length * 1 ≤ 140737488351232 → (∀ x ∈ l0, (Lit.int .u8 x).wf = true) → l1.length ≤ maxLen → l1.length * 1 ≤ 140737488351232 → (∀ x ∈ l1, (Lit.int .u8 x).wf = true) → ∃ k, tmesislaw04_QuoteBack.f k l0 l1 = some true
theorem tmesislaw04_QuoteBack.walk (P : tmesislaw04_QuoteBack.Pure) (a0 : Option Addr) (len0 cap0 : Nat) (z0 : List Int) (a1 : Option Addr) (len1 cap1 : Nat) (z1 : List Int) (w : World) (hG : Gl w) (w0 : (a0 = none ∧ len0 = 0 ∧ cap0 = 0 ∧ z0 = []) ∨ ∃ x, a0 = some x ∧ len0 ≤ cap0 ∧ cap0 ≤ maxLen ∧ z0.length = cap0 ∧ (∀ i, i < z0.length → w.cell? (x.add i) = some (.int .u8 (z0.getD i 0))) ∧ ∀ n ∈ z0, (Lit.int .u8 n).wf = true) (y0 : len0 * 1 ≤ 140737488351232) (w1 : (a1 = none ∧ len1 = 0 ∧ cap1 = 0 ∧ z1 = []) ∨ ∃ x, a1 = some x ∧ len1 ≤ cap1 ∧ cap1 ≤ maxLen ∧ z1.length = cap1 ∧ (∀ i, i < z1.length → w.cell? (x.add i) = some (.int .u8 (z1.getD i 0))) ∧ ∀ n ∈ z1, (Lit.int .u8 n).wf = true) (y1 : len1 * 1 ≤ 140737488351232) :
  Calls Tryd.prog 7 #[.slice a0 len0 cap0, .slice a1 len1 cap1] w fun e w' => e = .returned (.bool true) ∧ Below w.heap.size w w' := by
 obtain ⟨l0, rfl, hr0, hm0, hw0, hc0⟩ := ReadsInt.ofRowC w0
 obtain ⟨l1, rfl, hr1, hm1, hw1, hc1⟩ := ReadsInt.ofRowC w1
 obtain ⟨k, h⟩ := P l0 l1 hm0 y0 hw0 hm1 y1 hw1
 refine (tmesislaw04_QuoteBack.calls k _ _ l0 _ _ l1 true w hG (Kd.C_of_reads (d := (0 : Int)) (h1 := fun _ => rfl) hr0) hc0 (Kd.C_of_reads (d := (0 : Int)) (h1 := fun _ => rfl) hr1) hc1 h).mono ?_
 rintro e w' ⟨rfl, hd⟩
 exact ⟨rfl, hd⟩
end Go.Proofs.YtkicabbgcopjdaaDoor.P
