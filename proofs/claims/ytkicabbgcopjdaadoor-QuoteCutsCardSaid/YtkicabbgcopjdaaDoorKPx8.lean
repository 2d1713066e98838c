/- Part of the proof: what the theorem needs of this text. -/
import Derived.Test.YtkicabbgcopjdaaDoorKHG
import Derived.Test.YtkicabbgcopjdaaDoorKPx0
import Derived.Test.YtkicabbgcopjdaaDoorKPx2
import Derived.Test.YtkicabbgcopjdaaDoorKPx3
import Derived.Test.YtkicabbgcopjdaaDoorKPx6
namespace Go.Proofs.YtkicabbgcopjdaaDoor.P
open Go.RowKit Go.Proofs.YtkicabbgcopjdaaDoorW.PrintWords Go.Proofs.YtkicabbgcopjdaaDoorW.PrintLast Go.Proofs.YtkicabbgcopjdaaDoorW.PrintMore
attribute [local go_sem] max2_int min2_int max_two min_two max_three min_three max_four min_four   -- for this text's walks alone
set_option linter.unusedVariables false
set_option linter.unusedSimpArgs false
mutual
def tmesislaw04_QuoteCuts.j0 : Nat → Int → Bool → List Int → Int → Bool → Option (Bool)
 | 0, _, _, _, _, _ => none
 | k + 1, x1, x5, x6, x7, x25 => if x25 = true then (if x5 = true then (tmesislaw04_QuoteCuts.j1 k (x7 == 1)) else (tmesislaw04_QuoteCuts.j1 k false)) else (if (wrap64 ((x6.length : Int) - 1)) = 0 then (none) else (if 0 ≤ (wrap64 (1 + (Int.tmod (wrap64 (x1)) (wrap64 ((x6.length : Int) - 1))))) then (if (wrap64 (1 + (Int.tmod (wrap64 (x1)) (wrap64 ((x6.length : Int) - 1))))) ≤ (x6.length : Int) then ((quote_Take.f k (x6.take ((wrap64 (1 + (Int.tmod (wrap64 (x1)) (wrap64 ((x6.length : Int) - 1))))) : Int).toNat)).bind fun bt323 => (if bt323.2.2 = 0 then (if x5 = true then (if 0 ≤ (wrap64 ((wrap64 (1 + (Int.tmod (wrap64 (x1)) (wrap64 ((x6.length : Int) - 1))))) - 1)) then (if (wrap64 ((wrap64 (1 + (Int.tmod (wrap64 (x1)) (wrap64 ((x6.length : Int) - 1))))) - 1)) < (x6.length : Int) then (if (rd x6 (wrap64 ((wrap64 (1 + (Int.tmod (wrap64 (x1)) (wrap64 ((x6.length : Int) - 1))))) - 1))) = 39 then (if bt323.2.1 = (wrap64 (1 + (Int.tmod (wrap64 (x1)) (wrap64 ((x6.length : Int) - 1))))) then (tmesislaw04_QuoteCuts.j2 k (decide ((bt323.1.length : Int) ≤ (wrap64 ((wrap64 (1 + (Int.tmod (wrap64 (x1)) (wrap64 ((x6.length : Int) - 1))))) - 2))))) else (tmesislaw04_QuoteCuts.j2 k false)) else (tmesislaw04_QuoteCuts.j2 k false)) else (none)) else (none)) else (tmesislaw04_QuoteCuts.j2 k false)) else (if x5 = true then (if (bt323.1.length : Int) = 0 then (if bt323.2.1 ≥ 1 then (if bt323.2.1 ≤ (wrap64 (1 + (Int.tmod (wrap64 (x1)) (wrap64 ((x6.length : Int) - 1))))) then (if bt323.2.2 = 12 then (if bt323.2.1 = (wrap64 (1 + (Int.tmod (wrap64 (x1)) (wrap64 ((x6.length : Int) - 1))))) then (tmesislaw04_QuoteCuts.j3 k true) else (if bt323.2.2 = 13 then (if bt323.2.1 = (wrap64 ((wrap64 (1 + (Int.tmod (wrap64 (x1)) (wrap64 ((x6.length : Int) - 1))))) - 1)) then (if 0 ≤ (wrap64 ((wrap64 (1 + (Int.tmod (wrap64 (x1)) (wrap64 ((x6.length : Int) - 1))))) - 1)) then (if (wrap64 ((wrap64 (1 + (Int.tmod (wrap64 (x1)) (wrap64 ((x6.length : Int) - 1))))) - 1)) < (x6.length : Int) then (if (rd x6 (wrap64 ((wrap64 (1 + (Int.tmod (wrap64 (x1)) (wrap64 ((x6.length : Int) - 1))))) - 1))) = 92 then (tmesislaw04_QuoteCuts.j3 k true) else (if bt323.2.2 = 10 then (if bt323.2.1 < (wrap64 (1 + (Int.tmod (wrap64 (x1)) (wrap64 ((x6.length : Int) - 1))))) then (tmesislaw04_QuoteCuts.j3 k (decide ((rd x6 (wrap64 ((wrap64 (1 + (Int.tmod (wrap64 (x1)) (wrap64 ((x6.length : Int) - 1))))) - 1))) ≥ 128))) else (tmesislaw04_QuoteCuts.j3 k false)) else (tmesislaw04_QuoteCuts.j3 k false))) else (none)) else (none)) else (if bt323.2.2 = 10 then (if bt323.2.1 < (wrap64 (1 + (Int.tmod (wrap64 (x1)) (wrap64 ((x6.length : Int) - 1))))) then (if 0 ≤ (wrap64 ((wrap64 (1 + (Int.tmod (wrap64 (x1)) (wrap64 ((x6.length : Int) - 1))))) - 1)) then (if (wrap64 ((wrap64 (1 + (Int.tmod (wrap64 (x1)) (wrap64 ((x6.length : Int) - 1))))) - 1)) < (x6.length : Int) then (tmesislaw04_QuoteCuts.j3 k (decide ((rd x6 (wrap64 ((wrap64 (1 + (Int.tmod (wrap64 (x1)) (wrap64 ((x6.length : Int) - 1))))) - 1))) ≥ 128))) else (none)) else (none)) else (tmesislaw04_QuoteCuts.j3 k false)) else (tmesislaw04_QuoteCuts.j3 k false))) else (if bt323.2.2 = 10 then (if bt323.2.1 < (wrap64 (1 + (Int.tmod (wrap64 (x1)) (wrap64 ((x6.length : Int) - 1))))) then (if 0 ≤ (wrap64 ((wrap64 (1 + (Int.tmod (wrap64 (x1)) (wrap64 ((x6.length : Int) - 1))))) - 1)) then (if (wrap64 ((wrap64 (1 + (Int.tmod (wrap64 (x1)) (wrap64 ((x6.length : Int) - 1))))) - 1)) < (x6.length : Int) then (tmesislaw04_QuoteCuts.j3 k (decide ((rd x6 (wrap64 ((wrap64 (1 + (Int.tmod (wrap64 (x1)) (wrap64 ((x6.length : Int) - 1))))) - 1))) ≥ 128))) else (none)) else (none)) else (tmesislaw04_QuoteCuts.j3 k false)) else (tmesislaw04_QuoteCuts.j3 k false)))) else (if bt323.2.2 = 13 then (if bt323.2.1 = (wrap64 ((wrap64 (1 + (Int.tmod (wrap64 (x1)) (wrap64 ((x6.length : Int) - 1))))) - 1)) then (if 0 ≤ (wrap64 ((wrap64 (1 + (Int.tmod (wrap64 (x1)) (wrap64 ((x6.length : Int) - 1))))) - 1)) then (if (wrap64 ((wrap64 (1 + (Int.tmod (wrap64 (x1)) (wrap64 ((x6.length : Int) - 1))))) - 1)) < (x6.length : Int) then (if (rd x6 (wrap64 ((wrap64 (1 + (Int.tmod (wrap64 (x1)) (wrap64 ((x6.length : Int) - 1))))) - 1))) = 92 then (tmesislaw04_QuoteCuts.j3 k true) else (if bt323.2.2 = 10 then (if bt323.2.1 < (wrap64 (1 + (Int.tmod (wrap64 (x1)) (wrap64 ((x6.length : Int) - 1))))) then (tmesislaw04_QuoteCuts.j3 k (decide ((rd x6 (wrap64 ((wrap64 (1 + (Int.tmod (wrap64 (x1)) (wrap64 ((x6.length : Int) - 1))))) - 1))) ≥ 128))) else (tmesislaw04_QuoteCuts.j3 k false)) else (tmesislaw04_QuoteCuts.j3 k false))) else (none)) else (none)) else (if bt323.2.2 = 10 then (if bt323.2.1 < (wrap64 (1 + (Int.tmod (wrap64 (x1)) (wrap64 ((x6.length : Int) - 1))))) then (if 0 ≤ (wrap64 ((wrap64 (1 + (Int.tmod (wrap64 (x1)) (wrap64 ((x6.length : Int) - 1))))) - 1)) then (if (wrap64 ((wrap64 (1 + (Int.tmod (wrap64 (x1)) (wrap64 ((x6.length : Int) - 1))))) - 1)) < (x6.length : Int) then (tmesislaw04_QuoteCuts.j3 k (decide ((rd x6 (wrap64 ((wrap64 (1 + (Int.tmod (wrap64 (x1)) (wrap64 ((x6.length : Int) - 1))))) - 1))) ≥ 128))) else (none)) else (none)) else (tmesislaw04_QuoteCuts.j3 k false)) else (tmesislaw04_QuoteCuts.j3 k false))) else (if bt323.2.2 = 10 then (if bt323.2.1 < (wrap64 (1 + (Int.tmod (wrap64 (x1)) (wrap64 ((x6.length : Int) - 1))))) then (if 0 ≤ (wrap64 ((wrap64 (1 + (Int.tmod (wrap64 (x1)) (wrap64 ((x6.length : Int) - 1))))) - 1)) then (if (wrap64 ((wrap64 (1 + (Int.tmod (wrap64 (x1)) (wrap64 ((x6.length : Int) - 1))))) - 1)) < (x6.length : Int) then (tmesislaw04_QuoteCuts.j3 k (decide ((rd x6 (wrap64 ((wrap64 (1 + (Int.tmod (wrap64 (x1)) (wrap64 ((x6.length : Int) - 1))))) - 1))) ≥ 128))) else (none)) else (none)) else (tmesislaw04_QuoteCuts.j3 k false)) else (tmesislaw04_QuoteCuts.j3 k false)))) else (tmesislaw04_QuoteCuts.j3 k false)) else (tmesislaw04_QuoteCuts.j3 k false)) else (tmesislaw04_QuoteCuts.j3 k false)) else (tmesislaw04_QuoteCuts.j3 k false)))) else (none)) else (none)))
def tmesislaw04_QuoteCuts.j1 : Nat → Bool → Option (Bool)
 | 0, _ => none
 | k + 1, x4 => some x4
def tmesislaw04_QuoteCuts.j2 : Nat → Bool → Option (Bool)
 | 0, _ => none
 | k + 1, x4 => some x4
def tmesislaw04_QuoteCuts.j3 : Nat → Bool → Option (Bool)
 | 0, _ => none
 | k + 1, x4 => some x4
end
def tmesislaw04_QuoteCuts.f (k : Nat) (l0 : List Int) (a1 : Int) : Option (Bool) := (tmesislaw04_shown.f k).bind fun t311 => ((tmesislaw04_few.f l0).bind fun t312 => ((quote_Put.f k t312).bind fun bt315 => (if bt315.2 = 0 then (tmesislaw04_QuoteCuts.j0 k a1 t311 bt315.1 bt315.2 (decide ((bt315.1.length : Int) < 2))) else (tmesislaw04_QuoteCuts.j0 k a1 t311 bt315.1 bt315.2 true))))
theorem tmesislaw04_QuoteCuts.mono_l : ∀ k, (∀ y0 y1 y2 y3 y4, LeO (tmesislaw04_QuoteCuts.j0 k y0 y1 y2 y3 y4) (tmesislaw04_QuoteCuts.j0 (k + 1) y0 y1 y2 y3 y4)) ∧ (∀ y0, LeO (tmesislaw04_QuoteCuts.j1 k y0) (tmesislaw04_QuoteCuts.j1 (k + 1) y0)) ∧ (∀ y0, LeO (tmesislaw04_QuoteCuts.j2 k y0) (tmesislaw04_QuoteCuts.j2 (k + 1) y0)) ∧ (∀ y0, LeO (tmesislaw04_QuoteCuts.j3 k y0) (tmesislaw04_QuoteCuts.j3 (k + 1) y0))
 | 0 => ⟨fun _ _ _ _ _ r h => by simp [tmesislaw04_QuoteCuts.j0] at h, fun _ r h => by simp [tmesislaw04_QuoteCuts.j1] at h, fun _ r h => by simp [tmesislaw04_QuoteCuts.j2] at h, fun _ r h => by simp [tmesislaw04_QuoteCuts.j3] at h⟩
 | k + 1 => by
  obtain ⟨ih0, ih1, ih2, ih3⟩ := tmesislaw04_QuoteCuts.mono_l k
  refine ⟨?_, ?_, ?_, ?_⟩
  ·intro y0 y1 y2 y3 y4
   unfold tmesislaw04_QuoteCuts.j0
   repeat' first
   | (with_reducible exact ih0 _ _ _ _ _)
   | (with_reducible exact ih1 _)
   | (with_reducible exact ih2 _)
   | (with_reducible exact ih3 _)
   | (with_reducible exact quote_Put.mono _ _)
   | (with_reducible exact quote_Take.mono _ _)
   | (with_reducible exact tmesislaw04_shown.mono _)
   | (with_reducible exact LeO.refl _)
   | (with_reducible exact LeO.none _)
   | (with_reducible refine LeO.ite ?_ ?_)
   | (with_reducible refine LeO.bind ?_ (fun _ => ?_))
   | exact ih0 _ _ _ _ _
   | exact ih1 _
   | exact ih2 _
   | exact ih3 _
   | exact quote_Put.mono _ _
   | exact quote_Take.mono _ _
   | exact tmesislaw04_shown.mono _
   | exact LeO.none _
   | refine LeO.ite ?_ ?_
   | refine LeO.bind ?_ (fun _ => ?_)
  ·intro y0
   unfold tmesislaw04_QuoteCuts.j1
   repeat' first
   | (with_reducible exact ih0 _ _ _ _ _)
   | (with_reducible exact ih1 _)
   | (with_reducible exact ih2 _)
   | (with_reducible exact ih3 _)
   | (with_reducible exact quote_Put.mono _ _)
   | (with_reducible exact quote_Take.mono _ _)
   | (with_reducible exact tmesislaw04_shown.mono _)
   | (with_reducible exact LeO.refl _)
   | (with_reducible exact LeO.none _)
   | (with_reducible refine LeO.ite ?_ ?_)
   | (with_reducible refine LeO.bind ?_ (fun _ => ?_))
   | exact ih0 _ _ _ _ _
   | exact ih1 _
   | exact ih2 _
   | exact ih3 _
   | exact quote_Put.mono _ _
   | exact quote_Take.mono _ _
   | exact tmesislaw04_shown.mono _
   | exact LeO.none _
   | refine LeO.ite ?_ ?_
   | refine LeO.bind ?_ (fun _ => ?_)
  ·intro y0
   unfold tmesislaw04_QuoteCuts.j2
   repeat' first
   | (with_reducible exact ih0 _ _ _ _ _)
   | (with_reducible exact ih1 _)
   | (with_reducible exact ih2 _)
   | (with_reducible exact ih3 _)
   | (with_reducible exact quote_Put.mono _ _)
   | (with_reducible exact quote_Take.mono _ _)
   | (with_reducible exact tmesislaw04_shown.mono _)
   | (with_reducible exact LeO.refl _)
   | (with_reducible exact LeO.none _)
   | (with_reducible refine LeO.ite ?_ ?_)
   | (with_reducible refine LeO.bind ?_ (fun _ => ?_))
   | exact ih0 _ _ _ _ _
   | exact ih1 _
   | exact ih2 _
   | exact ih3 _
   | exact quote_Put.mono _ _
   | exact quote_Take.mono _ _
   | exact tmesislaw04_shown.mono _
   | exact LeO.none _
   | refine LeO.ite ?_ ?_
   | refine LeO.bind ?_ (fun _ => ?_)
  ·intro y0
   unfold tmesislaw04_QuoteCuts.j3
   repeat' first
   | (with_reducible exact ih0 _ _ _ _ _)
   | (with_reducible exact ih1 _)
   | (with_reducible exact ih2 _)
   | (with_reducible exact ih3 _)
   | (with_reducible exact quote_Put.mono _ _)
   | (with_reducible exact quote_Take.mono _ _)
   | (with_reducible exact tmesislaw04_shown.mono _)
   | (with_reducible exact LeO.refl _)
   | (with_reducible exact LeO.none _)
   | (with_reducible refine LeO.ite ?_ ?_)
   | (with_reducible refine LeO.bind ?_ (fun _ => ?_))
   | exact ih0 _ _ _ _ _
   | exact ih1 _
   | exact ih2 _
   | exact ih3 _
   | exact quote_Put.mono _ _
   | exact quote_Take.mono _ _
   | exact tmesislaw04_shown.mono _
   | exact LeO.none _
   | refine LeO.ite ?_ ?_
   | refine LeO.bind ?_ (fun _ => ?_)
theorem tmesislaw04_QuoteCuts.mono : ∀ a0 a1 k, LeO (tmesislaw04_QuoteCuts.f k a0 a1) (tmesislaw04_QuoteCuts.f (k + 1) a0 a1) := by
 intro a0 a1 k
 obtain ⟨ih0, ih1, ih2, ih3⟩ := tmesislaw04_QuoteCuts.mono_l k
 unfold tmesislaw04_QuoteCuts.f
 repeat' first
   | (with_reducible exact ih0 _ _ _ _ _)
   | (with_reducible exact ih1 _)
   | (with_reducible exact ih2 _)
   | (with_reducible exact ih3 _)
   | (with_reducible exact quote_Put.mono _ _)
   | (with_reducible exact quote_Take.mono _ _)
   | (with_reducible exact tmesislaw04_shown.mono _)
   | (with_reducible exact LeO.refl _)
   | (with_reducible exact LeO.none _)
   | (with_reducible refine LeO.ite ?_ ?_)
   | (with_reducible refine LeO.bind ?_ (fun _ => ?_))
   | exact ih0 _ _ _ _ _
   | exact ih1 _
   | exact ih2 _
   | exact ih3 _
   | exact quote_Put.mono _ _
   | exact quote_Take.mono _ _
   | exact tmesislaw04_shown.mono _
   | exact LeO.none _
   | refine LeO.ite ?_ ?_
   | refine LeO.bind ?_ (fun _ => ?_)
set_option maxHeartbeats 8000000 in
set_option maxRecDepth 100000 in
theorem tmesislaw04_QuoteCuts.calls (k : Nat) (A0 : Option Addr) (c0 : Nat) (l0 : List Int) (a1 : Int) (r : Bool) (w : World) (hG : Gl w) (hr0 : Kd.C (Kd.int .u8) w A0 l0.length l0) (hc0 : l0.length ≤ c0) (h : tmesislaw04_QuoteCuts.f k l0 a1 = some r) :
  Calls Tryd.prog 4 #[.slice A0 l0.length c0, .int .u8 a1] w fun e w' => e = .returned (.bool r) ∧ Below w.heap.size w w' := by
 have HR0 := Aside0.mk hr0
 have HC0 := Aside0.mk hc0
 clear hr0 hc0
 have HB := Aside0.mk (Below.refl w.heap.size w)
 have HG := Aside0.mk hG
 clear hG
 have H : ((tmesislaw04_shown.f k).bind fun t311 => ((tmesislaw04_few.f l0).bind fun t312 => ((quote_Put.f k t312).bind fun bt315 => (if bt315.2 = 0 then (tmesislaw04_QuoteCuts.j0 k a1 t311 bt315.1 bt315.2 (decide ((bt315.1.length : Int) < 2))) else (tmesislaw04_QuoteCuts.j0 k a1 t311 bt315.1 bt315.2 true))))) = some r := h
 clear h
 replace H := Option.bind_eq_some_iff.mp H
 obtain ⟨t311, A30, H⟩ := H
 replace H : ((tmesislaw04_few.f l0).bind fun t312 => ((quote_Put.f k t312).bind fun bt315 => (if bt315.2 = 0 then (tmesislaw04_QuoteCuts.j0 k a1 t311 bt315.1 bt315.2 (decide ((bt315.1.length : Int) < 2))) else (tmesislaw04_QuoteCuts.j0 k a1 t311 bt315.1 bt315.2 true)))) = some r := H
 have A3 := Aside0.mk A30
 clear A30
 replace H := Option.bind_eq_some_iff.mp H
 obtain ⟨t312, A40, H⟩ := H
 replace H : ((quote_Put.f k t312).bind fun bt315 => (if bt315.2 = 0 then (tmesislaw04_QuoteCuts.j0 k a1 t311 bt315.1 bt315.2 (decide ((bt315.1.length : Int) < 2))) else (tmesislaw04_QuoteCuts.j0 k a1 t311 bt315.1 bt315.2 true))) = some r := H
 have A4 := Aside0.mk A40
 clear A40
 replace H := Option.bind_eq_some_iff.mp H
 obtain ⟨⟨t315, t316⟩, A50, H⟩ := H
 replace H : (if t316 = 0 then (tmesislaw04_QuoteCuts.j0 k a1 t311 t315 t316 (decide ((t315.length : Int) < 2))) else (tmesislaw04_QuoteCuts.j0 k a1 t311 t315 t316 true)) = some r := H
 have A5 := Aside0.mk A50
 clear A50
 have HC6 := Aside0.mk H
 clear H
 go_enter Tryd.func4, Tryd.ntmps4
 go_upto_region 3 with (first | ((with_reducible refine gate_callee (f := 8) rfl ?_); refine goesL_ (some 12) rfl rfl Tryd.func8 (by kernel_rfl) rfl #[] rfl (by (try simp only [List.map_toArray, List.map_cons, List.map_nil]); first | done | rfl | (simp only [List.length_drop, List.length_take]; rfl)) ?_; (with_reducible refine (tmesislaw04_shown.calls k  t311 _ A3.out).mono ?_); rintro e w7 ⟨rfl, hb⟩; refine ⟨_, rfl, ?_⟩; have n0_ := Aside0.mk (below_step (by repeat (first | (with_reducible first | exact HB.out | apply below_alloc | apply pw_below_drewN | apply below_drew1) | exact HB.out)) hb); clear HB; have HB := n0_; clear n0_; (try clear hb); (try clear hb2); (try clear hk); (try clear hi)) | ((with_reducible refine gate_callee (f := 10) rfl ?_); refine goesL_ (some 15) rfl rfl Tryd.func10 (by kernel_rfl) rfl #[.slice A0 l0.length c0] rfl (by (try simp only [List.map_toArray, List.map_cons, List.map_nil]); first | done | rfl | (simp only [List.length_drop, List.length_take]; rfl)) ?_; (with_reducible refine (tmesislaw04_few.calls (fun k_ => k_ < w.heap.size) _ _ l0 t312 _ ?side1 A4.out).mono ?_); (case side1 => exact Kd.V_mk HC0.out (Kd.F_below (Kd.C_F (Kd.heap_int .u8) HR0.out) (by repeat (first | (with_reducible first | exact HB.out | apply below_alloc | apply pw_below_drewN | apply below_drew1) | exact HB.out)))); rintro e w8 ⟨v313, rfl, ho0, hb⟩; refine ⟨_, rfl, ?_⟩; have n0_ := Aside0.mk (Kd.V_lower (Kd.V_mono (ok' := fun k_ => True) ho0 (fun k_ hk_ => trivial)) (below_size (by repeat (first | (with_reducible first | exact HB.out | apply below_alloc | apply pw_below_drewN | apply below_drew1) | exact HB.out)))); have n1_ := Aside0.mk (below_step (by repeat (first | (with_reducible first | exact HB.out | apply below_alloc | apply pw_below_drewN | apply below_drew1) | exact HB.out)) hb); clear HB; have HO314 := n0_; have HB := n1_; clear n0_ n1_; (try clear hb); (try clear hb2); (try clear hk); (try clear hi); (try clear ho0); obtain ⟨Ao9, co9, eo9⟩ := Kd.V_slice HO314.out; subst eo9) | ((with_reducible refine gate_callee (f := 12) rfl ?_); refine goesL_ (some 16) rfl rfl Tryd.func12 (by kernel_rfl) rfl #[.slice Ao9 t312.length co9] rfl (by (try simp only [List.map_toArray, List.map_cons, List.map_nil]); first | done | rfl | (simp only [List.length_drop, List.length_take]; rfl)) ?_; (with_reducible refine (quote_Put.calls k _ _ t312 t315 t316 _ ?side1 ?side2 ?side3 A5.out).mono ?_); (case side1 => exact Gl.below HG.out (by repeat (first | (with_reducible first | exact HB.out | apply below_alloc | apply pw_below_drewN | apply below_drew1) | exact HB.out))); (case side2 => repeat (first | exact (Kd.V_reads' HO314.out).2.2 | (with_reducible refine Kd.C_alloc ?_ _) | (with_reducible refine Kd.C_drewN ?_ _) | (with_reducible refine Kd.C_drew ?_))); (case side3 => exact (Kd.V_reads' HO314.out).2.1); rintro e w10 ⟨v317, rfl, ho0, hb⟩; refine ⟨_, rfl, ?_⟩; have n0_ := Aside0.mk (Kd.V_elder' (by (with_reducible repeat (first | apply Kd.V_alloc | apply Kd.V_drewN | apply Kd.V_drew)); exact HO314.out) (Kd.R_base ho0) hb); have n1_ := Aside0.mk (Kd.R_lower ho0 (below_size (by repeat (first | (with_reducible first | exact HB.out | apply below_alloc | apply pw_below_drewN | apply below_drew1) | exact HB.out)))); have n2_ := Aside0.mk (below_step (by repeat (first | (with_reducible first | exact HB.out | apply below_alloc | apply pw_below_drewN | apply below_drew1) | exact HB.out)) hb); clear HO314; clear HB; have HO314 := n0_; have HO318 := n1_; have HB := n2_; clear n0_ n1_ n2_; (try clear hb); (try clear hb2); (try clear hk); (try clear hi); (try clear ho0)))
 (try simp only [Act.put, List.setIfInBounds_toArray, List.set_cons_zero, List.set_cons_succ])
 go_cut [25] (fun v25 wc => ∃ (kq : Nat) (x25_5 : Bool), v25 = .bool x25_5 ∧ Aside0 (tmesislaw04_QuoteCuts.j0 kq a1 t311 t315 t316 x25_5 = some r) ∧ Aside0 (kq ≤ k) ∧ Aside0 (Kd.R (Kd.int .u8) 5 wc w.heap.size (fun _ => True) v317 t315) ∧ Aside0 (Below w.heap.size w wc))
 case first =>
  have H := HC6.out
  clear HC6
  by_cases c11 : t316 = 0
  ·rw [if_pos c11] at H
   have c11b0 : (t316 == 0) = true := beq_iff_eq.mpr c11
   have c11b1 : (t316 != 0) = false := bne_eq_false_iff_eq.mpr c11
   clear c11
   (first | rw [c11b0] | (simp only [i64_w, i32_w]; rw [c11b0]) | skip)
   as_aux_lemma =>
    have H' := Aside0.mk H
    clear H
    obtain ⟨Ao12, co12, eo12⟩ := Kd.R_slice HO318.out
    subst eo12
    go_wp2
    go_meet
    case rel => exact ⟨_, (decide ((t315.length : Int) < 2)), (by first | rfl | (simp; done) | (simp [*]; done)), H', ⟨by first | omega | exact Nat.le_refl _⟩, ⟨by (with_reducible repeat (first | apply Kd.R_alloc | apply Kd.R_drewN | apply Kd.R_drew)); exact HO318.out⟩, ⟨by repeat (first | (with_reducible first | exact HB.out | apply below_alloc | apply pw_below_drewN | apply below_drew1) | exact HB.out)⟩⟩
  ·rw [if_neg c11] at H
   have c11b0 : (t316 == 0) = false := beq_eq_false_iff_ne.mpr c11
   have c11b1 : (t316 != 0) = true := bne_iff_ne.mpr c11
   (first | rw [c11b0] | (simp only [i64_w, i32_w]; rw [c11b0]) | skip)
   as_aux_lemma =>
    have H' := Aside0.mk H
    clear H
    go_wp2
    go_meet
    case rel => exact ⟨_, (true), (by first | rfl | (simp; done) | (simp [*]; done)), H', ⟨by first | omega | exact Nat.le_refl _⟩, ⟨by (with_reducible repeat (first | apply Kd.R_alloc | apply Kd.R_drewN | apply Kd.R_drew)); exact HO318.out⟩, ⟨by repeat (first | (with_reducible first | exact HB.out | apply below_alloc | apply pw_below_drewN | apply below_drew1) | exact HB.out)⟩⟩
 case rest =>
  as_aux_lemma =>
   clear HC6
   try clear c1
   try clear p2
   try clear c4
   try clear c8
   try clear c10
   try clear c11
   try clear c11b0
   try clear c11b1
   try clear c12
   obtain ⟨kq, x25_5, rfl, HA, HJ5, HO_6, HB⟩ := hcut
   cases kq with
   | zero => exact absurd HA.out (by simp [tmesislaw04_QuoteCuts.j0])
   | succ kj5 =>
    have H := HA.out
    clear HA
    simp only [tmesislaw04_QuoteCuts.j0] at H
    by_cases c13 : x25_5 = true
    ·subst c13
     have H1 : (if t311 = true then (tmesislaw04_QuoteCuts.j1 kj5 (t316 == 1)) else (tmesislaw04_QuoteCuts.j1 kj5 false)) = some r := by rw [if_pos rfl] at H; exact H
     clear H
     have H := H1
     clear H1
     have HC14 := Aside0.mk H
     clear H
     go_upto_region 4 with (fail)
     go_cut [4] (fun v4 wc => ∃ (kq : Nat) (x4_13 : Bool), v4 = .bool x4_13 ∧ Aside0 (tmesislaw04_QuoteCuts.j1 kq x4_13 = some r) ∧ Aside0 (kq ≤ kj5) ∧ Aside0 (Below w.heap.size w wc))
     case first =>
      have H := HC14.out
      clear HC14
      by_cases c15 : t311 = true
      ·subst c15
       have H1 : (tmesislaw04_QuoteCuts.j1 kj5 (t316 == 1)) = some r := by rw [if_pos rfl] at H; exact H
       clear H
       have H := H1
       clear H1
       as_aux_lemma =>
        have H' := Aside0.mk H
        clear H
        go_wp2
        go_meet
        case rel => exact ⟨_, ((t316 == 1)), (by first | rfl | (simp; done) | (simp [*]; done)), H', ⟨by have := HJ5.out; first | omega | exact Nat.le_refl _⟩, ⟨by repeat (first | (with_reducible first | exact HB.out | apply below_alloc | apply pw_below_drewN | apply below_drew1) | exact HB.out)⟩⟩
      ·replace c15 := Bool.eq_false_iff.mpr c15
       subst c15
       have H1 : (tmesislaw04_QuoteCuts.j1 kj5 false) = some r := by rw [if_neg (show ¬ (false = true) by decide)] at H; exact H
       clear H
       have H := H1
       clear H1
       as_aux_lemma =>
        have H' := Aside0.mk H
        clear H
        go_wp2
        go_meet
        case rel => exact ⟨_, (false), (by first | rfl | (simp; done) | (simp [*]; done)), H', ⟨by have := HJ5.out; first | omega | exact Nat.le_refl _⟩, ⟨by repeat (first | (with_reducible first | exact HB.out | apply below_alloc | apply pw_below_drewN | apply below_drew1) | exact HB.out)⟩⟩
     case rest =>
      as_aux_lemma =>
       clear HC14
       try clear c1
       try clear p2
       try clear c4
       try clear c8
       try clear c10
       try clear c11
       try clear c11b0
       try clear c11b1
       try clear c12
       try clear c13
       try clear c15
       try clear p2
       obtain ⟨kq, x4_13, rfl, HA, HJ13, HB⟩ := hcut
       cases kq with
       | zero => exact absurd HA.out (by simp [tmesislaw04_QuoteCuts.j1])
       | succ kj13 =>
        have H := HA.out
        clear HA
        simp only [tmesislaw04_QuoteCuts.j1] at H
        as_aux_lemma =>
         obtain rfl := Option.some.inj H
         go_wp2
         go_ret
         exact ⟨by first | rfl | (simp [errW_none, errW_some] <;> rfl) | (simp [*, errW_none, errW_some] <;> rfl), by repeat (first | (with_reducible first | exact HB.out | apply below_alloc | apply pw_below_drewN | apply below_drew1) | exact HB.out)⟩
    ·replace c13 := Bool.eq_false_iff.mpr c13
     subst c13
     have H1 : (if (wrap64 ((t315.length : Int) - 1)) = 0 then (none) else (if 0 ≤ (wrap64 (1 + (Int.tmod (wrap64 (a1)) (wrap64 ((t315.length : Int) - 1))))) then (if (wrap64 (1 + (Int.tmod (wrap64 (a1)) (wrap64 ((t315.length : Int) - 1))))) ≤ (t315.length : Int) then ((quote_Take.f kj5 (t315.take ((wrap64 (1 + (Int.tmod (wrap64 (a1)) (wrap64 ((t315.length : Int) - 1))))) : Int).toNat)).bind fun bt323 => (if bt323.2.2 = 0 then (if t311 = true then (if 0 ≤ (wrap64 ((wrap64 (1 + (Int.tmod (wrap64 (a1)) (wrap64 ((t315.length : Int) - 1))))) - 1)) then (if (wrap64 ((wrap64 (1 + (Int.tmod (wrap64 (a1)) (wrap64 ((t315.length : Int) - 1))))) - 1)) < (t315.length : Int) then (if (rd t315 (wrap64 ((wrap64 (1 + (Int.tmod (wrap64 (a1)) (wrap64 ((t315.length : Int) - 1))))) - 1))) = 39 then (if bt323.2.1 = (wrap64 (1 + (Int.tmod (wrap64 (a1)) (wrap64 ((t315.length : Int) - 1))))) then (tmesislaw04_QuoteCuts.j2 kj5 (decide ((bt323.1.length : Int) ≤ (wrap64 ((wrap64 (1 + (Int.tmod (wrap64 (a1)) (wrap64 ((t315.length : Int) - 1))))) - 2))))) else (tmesislaw04_QuoteCuts.j2 kj5 false)) else (tmesislaw04_QuoteCuts.j2 kj5 false)) else (none)) else (none)) else (tmesislaw04_QuoteCuts.j2 kj5 false)) else (if t311 = true then (if (bt323.1.length : Int) = 0 then (if bt323.2.1 ≥ 1 then (if bt323.2.1 ≤ (wrap64 (1 + (Int.tmod (wrap64 (a1)) (wrap64 ((t315.length : Int) - 1))))) then (if bt323.2.2 = 12 then (if bt323.2.1 = (wrap64 (1 + (Int.tmod (wrap64 (a1)) (wrap64 ((t315.length : Int) - 1))))) then (tmesislaw04_QuoteCuts.j3 kj5 true) else (if bt323.2.2 = 13 then (if bt323.2.1 = (wrap64 ((wrap64 (1 + (Int.tmod (wrap64 (a1)) (wrap64 ((t315.length : Int) - 1))))) - 1)) then (if 0 ≤ (wrap64 ((wrap64 (1 + (Int.tmod (wrap64 (a1)) (wrap64 ((t315.length : Int) - 1))))) - 1)) then (if (wrap64 ((wrap64 (1 + (Int.tmod (wrap64 (a1)) (wrap64 ((t315.length : Int) - 1))))) - 1)) < (t315.length : Int) then (if (rd t315 (wrap64 ((wrap64 (1 + (Int.tmod (wrap64 (a1)) (wrap64 ((t315.length : Int) - 1))))) - 1))) = 92 then (tmesislaw04_QuoteCuts.j3 kj5 true) else (if bt323.2.2 = 10 then (if bt323.2.1 < (wrap64 (1 + (Int.tmod (wrap64 (a1)) (wrap64 ((t315.length : Int) - 1))))) then (tmesislaw04_QuoteCuts.j3 kj5 (decide ((rd t315 (wrap64 ((wrap64 (1 + (Int.tmod (wrap64 (a1)) (wrap64 ((t315.length : Int) - 1))))) - 1))) ≥ 128))) else (tmesislaw04_QuoteCuts.j3 kj5 false)) else (tmesislaw04_QuoteCuts.j3 kj5 false))) else (none)) else (none)) else (if bt323.2.2 = 10 then (if bt323.2.1 < (wrap64 (1 + (Int.tmod (wrap64 (a1)) (wrap64 ((t315.length : Int) - 1))))) then (if 0 ≤ (wrap64 ((wrap64 (1 + (Int.tmod (wrap64 (a1)) (wrap64 ((t315.length : Int) - 1))))) - 1)) then (if (wrap64 ((wrap64 (1 + (Int.tmod (wrap64 (a1)) (wrap64 ((t315.length : Int) - 1))))) - 1)) < (t315.length : Int) then (tmesislaw04_QuoteCuts.j3 kj5 (decide ((rd t315 (wrap64 ((wrap64 (1 + (Int.tmod (wrap64 (a1)) (wrap64 ((t315.length : Int) - 1))))) - 1))) ≥ 128))) else (none)) else (none)) else (tmesislaw04_QuoteCuts.j3 kj5 false)) else (tmesislaw04_QuoteCuts.j3 kj5 false))) else (if bt323.2.2 = 10 then (if bt323.2.1 < (wrap64 (1 + (Int.tmod (wrap64 (a1)) (wrap64 ((t315.length : Int) - 1))))) then (if 0 ≤ (wrap64 ((wrap64 (1 + (Int.tmod (wrap64 (a1)) (wrap64 ((t315.length : Int) - 1))))) - 1)) then (if (wrap64 ((wrap64 (1 + (Int.tmod (wrap64 (a1)) (wrap64 ((t315.length : Int) - 1))))) - 1)) < (t315.length : Int) then (tmesislaw04_QuoteCuts.j3 kj5 (decide ((rd t315 (wrap64 ((wrap64 (1 + (Int.tmod (wrap64 (a1)) (wrap64 ((t315.length : Int) - 1))))) - 1))) ≥ 128))) else (none)) else (none)) else (tmesislaw04_QuoteCuts.j3 kj5 false)) else (tmesislaw04_QuoteCuts.j3 kj5 false)))) else (if bt323.2.2 = 13 then (if bt323.2.1 = (wrap64 ((wrap64 (1 + (Int.tmod (wrap64 (a1)) (wrap64 ((t315.length : Int) - 1))))) - 1)) then (if 0 ≤ (wrap64 ((wrap64 (1 + (Int.tmod (wrap64 (a1)) (wrap64 ((t315.length : Int) - 1))))) - 1)) then (if (wrap64 ((wrap64 (1 + (Int.tmod (wrap64 (a1)) (wrap64 ((t315.length : Int) - 1))))) - 1)) < (t315.length : Int) then (if (rd t315 (wrap64 ((wrap64 (1 + (Int.tmod (wrap64 (a1)) (wrap64 ((t315.length : Int) - 1))))) - 1))) = 92 then (tmesislaw04_QuoteCuts.j3 kj5 true) else (if bt323.2.2 = 10 then (if bt323.2.1 < (wrap64 (1 + (Int.tmod (wrap64 (a1)) (wrap64 ((t315.length : Int) - 1))))) then (tmesislaw04_QuoteCuts.j3 kj5 (decide ((rd t315 (wrap64 ((wrap64 (1 + (Int.tmod (wrap64 (a1)) (wrap64 ((t315.length : Int) - 1))))) - 1))) ≥ 128))) else (tmesislaw04_QuoteCuts.j3 kj5 false)) else (tmesislaw04_QuoteCuts.j3 kj5 false))) else (none)) else (none)) else (if bt323.2.2 = 10 then (if bt323.2.1 < (wrap64 (1 + (Int.tmod (wrap64 (a1)) (wrap64 ((t315.length : Int) - 1))))) then (if 0 ≤ (wrap64 ((wrap64 (1 + (Int.tmod (wrap64 (a1)) (wrap64 ((t315.length : Int) - 1))))) - 1)) then (if (wrap64 ((wrap64 (1 + (Int.tmod (wrap64 (a1)) (wrap64 ((t315.length : Int) - 1))))) - 1)) < (t315.length : Int) then (tmesislaw04_QuoteCuts.j3 kj5 (decide ((rd t315 (wrap64 ((wrap64 (1 + (Int.tmod (wrap64 (a1)) (wrap64 ((t315.length : Int) - 1))))) - 1))) ≥ 128))) else (none)) else (none)) else (tmesislaw04_QuoteCuts.j3 kj5 false)) else (tmesislaw04_QuoteCuts.j3 kj5 false))) else (if bt323.2.2 = 10 then (if bt323.2.1 < (wrap64 (1 + (Int.tmod (wrap64 (a1)) (wrap64 ((t315.length : Int) - 1))))) then (if 0 ≤ (wrap64 ((wrap64 (1 + (Int.tmod (wrap64 (a1)) (wrap64 ((t315.length : Int) - 1))))) - 1)) then (if (wrap64 ((wrap64 (1 + (Int.tmod (wrap64 (a1)) (wrap64 ((t315.length : Int) - 1))))) - 1)) < (t315.length : Int) then (tmesislaw04_QuoteCuts.j3 kj5 (decide ((rd t315 (wrap64 ((wrap64 (1 + (Int.tmod (wrap64 (a1)) (wrap64 ((t315.length : Int) - 1))))) - 1))) ≥ 128))) else (none)) else (none)) else (tmesislaw04_QuoteCuts.j3 kj5 false)) else (tmesislaw04_QuoteCuts.j3 kj5 false)))) else (tmesislaw04_QuoteCuts.j3 kj5 false)) else (tmesislaw04_QuoteCuts.j3 kj5 false)) else (tmesislaw04_QuoteCuts.j3 kj5 false)) else (tmesislaw04_QuoteCuts.j3 kj5 false)))) else (none)) else (none))) = some r := by rw [if_neg (show ¬ (false = true) by decide)] at H; exact H
     clear H
     have H := H1
     clear H1
     by_cases c16 : (wrap64 ((t315.length : Int) - 1)) = 0
     ·rw [if_pos c16] at H
      exact absurd H (by simp)
     ·rw [if_neg c16] at H
      have c16b0 : ((wrap64 ((t315.length : Int) - 1)) == 0) = false := beq_eq_false_iff_ne.mpr c16
      have c16b1 : ((wrap64 ((t315.length : Int) - 1)) != 0) = true := bne_iff_ne.mpr c16
      obtain ⟨ji17, hji17⟩ : ∃ j_ : Int, (wrap64 (1 + (Int.tmod (wrap64 (a1)) (wrap64 ((t315.length : Int) - 1))))) = j_ := ⟨_, rfl⟩
      replace H : (if 0 ≤ (ji17) then (if (ji17) ≤ (t315.length : Int) then ((quote_Take.f kj5 (t315.take ((ji17) : Int).toNat)).bind fun bt323 => (if bt323.2.2 = 0 then (if t311 = true then (if 0 ≤ (wrap64 ((ji17) - 1)) then (if (wrap64 ((ji17) - 1)) < (t315.length : Int) then (if (rd t315 (wrap64 ((ji17) - 1))) = 39 then (if bt323.2.1 = (ji17) then (tmesislaw04_QuoteCuts.j2 kj5 (decide ((bt323.1.length : Int) ≤ (wrap64 ((ji17) - 2))))) else (tmesislaw04_QuoteCuts.j2 kj5 false)) else (tmesislaw04_QuoteCuts.j2 kj5 false)) else (none)) else (none)) else (tmesislaw04_QuoteCuts.j2 kj5 false)) else (if t311 = true then (if (bt323.1.length : Int) = 0 then (if bt323.2.1 ≥ 1 then (if bt323.2.1 ≤ (ji17) then (if bt323.2.2 = 12 then (if bt323.2.1 = (ji17) then (tmesislaw04_QuoteCuts.j3 kj5 true) else (if bt323.2.2 = 13 then (if bt323.2.1 = (wrap64 ((ji17) - 1)) then (if 0 ≤ (wrap64 ((ji17) - 1)) then (if (wrap64 ((ji17) - 1)) < (t315.length : Int) then (if (rd t315 (wrap64 ((ji17) - 1))) = 92 then (tmesislaw04_QuoteCuts.j3 kj5 true) else (if bt323.2.2 = 10 then (if bt323.2.1 < (ji17) then (tmesislaw04_QuoteCuts.j3 kj5 (decide ((rd t315 (wrap64 ((ji17) - 1))) ≥ 128))) else (tmesislaw04_QuoteCuts.j3 kj5 false)) else (tmesislaw04_QuoteCuts.j3 kj5 false))) else (none)) else (none)) else (if bt323.2.2 = 10 then (if bt323.2.1 < (ji17) then (if 0 ≤ (wrap64 ((ji17) - 1)) then (if (wrap64 ((ji17) - 1)) < (t315.length : Int) then (tmesislaw04_QuoteCuts.j3 kj5 (decide ((rd t315 (wrap64 ((ji17) - 1))) ≥ 128))) else (none)) else (none)) else (tmesislaw04_QuoteCuts.j3 kj5 false)) else (tmesislaw04_QuoteCuts.j3 kj5 false))) else (if bt323.2.2 = 10 then (if bt323.2.1 < (ji17) then (if 0 ≤ (wrap64 ((ji17) - 1)) then (if (wrap64 ((ji17) - 1)) < (t315.length : Int) then (tmesislaw04_QuoteCuts.j3 kj5 (decide ((rd t315 (wrap64 ((ji17) - 1))) ≥ 128))) else (none)) else (none)) else (tmesislaw04_QuoteCuts.j3 kj5 false)) else (tmesislaw04_QuoteCuts.j3 kj5 false)))) else (if bt323.2.2 = 13 then (if bt323.2.1 = (wrap64 ((ji17) - 1)) then (if 0 ≤ (wrap64 ((ji17) - 1)) then (if (wrap64 ((ji17) - 1)) < (t315.length : Int) then (if (rd t315 (wrap64 ((ji17) - 1))) = 92 then (tmesislaw04_QuoteCuts.j3 kj5 true) else (if bt323.2.2 = 10 then (if bt323.2.1 < (ji17) then (tmesislaw04_QuoteCuts.j3 kj5 (decide ((rd t315 (wrap64 ((ji17) - 1))) ≥ 128))) else (tmesislaw04_QuoteCuts.j3 kj5 false)) else (tmesislaw04_QuoteCuts.j3 kj5 false))) else (none)) else (none)) else (if bt323.2.2 = 10 then (if bt323.2.1 < (ji17) then (if 0 ≤ (wrap64 ((ji17) - 1)) then (if (wrap64 ((ji17) - 1)) < (t315.length : Int) then (tmesislaw04_QuoteCuts.j3 kj5 (decide ((rd t315 (wrap64 ((ji17) - 1))) ≥ 128))) else (none)) else (none)) else (tmesislaw04_QuoteCuts.j3 kj5 false)) else (tmesislaw04_QuoteCuts.j3 kj5 false))) else (if bt323.2.2 = 10 then (if bt323.2.1 < (ji17) then (if 0 ≤ (wrap64 ((ji17) - 1)) then (if (wrap64 ((ji17) - 1)) < (t315.length : Int) then (tmesislaw04_QuoteCuts.j3 kj5 (decide ((rd t315 (wrap64 ((ji17) - 1))) ≥ 128))) else (none)) else (none)) else (tmesislaw04_QuoteCuts.j3 kj5 false)) else (tmesislaw04_QuoteCuts.j3 kj5 false)))) else (tmesislaw04_QuoteCuts.j3 kj5 false)) else (tmesislaw04_QuoteCuts.j3 kj5 false)) else (tmesislaw04_QuoteCuts.j3 kj5 false)) else (tmesislaw04_QuoteCuts.j3 kj5 false)))) else (none)) else (none)) = some r := by first | (rw [hji17] at H; exact H) | (simp only [hji17] at H ⊢; exact H)
      have hji17w : (IntKind.i64.wrap (1 + (Int.tmod (wrap64 (a1)) (wrap64 ((t315.length : Int) - 1))))) = ji17 := (i64_w _).trans hji17
      by_cases c18 : 0 ≤ (ji17)
      ·rw [if_pos c18] at H
       have c18b0 := eq_true c18
       have c18b1 : decide (0 ≤ (ji17)) = true := decide_eq_true c18
       clear c18
       by_cases c19 : (ji17) ≤ (t315.length : Int)
       ·rw [if_pos c19] at H
        have c19b0 := eq_true c19
        have c19b1 : decide ((ji17) ≤ (t315.length : Int)) = true := decide_eq_true c19
        clear c19
        obtain ⟨y319, hy319⟩ : ∃ y_ : List Int, y_ = (t315.take ((ji17) : Int).toNat) := ⟨_, rfl⟩
        replace H : ((quote_Take.f kj5 y319).bind fun bt323 => (if bt323.2.2 = 0 then (if t311 = true then (if 0 ≤ (wrap64 ((ji17) - 1)) then (if (wrap64 ((ji17) - 1)) < (t315.length : Int) then (if (rd t315 (wrap64 ((ji17) - 1))) = 39 then (if bt323.2.1 = (ji17) then (tmesislaw04_QuoteCuts.j2 kj5 (decide ((bt323.1.length : Int) ≤ (wrap64 ((ji17) - 2))))) else (tmesislaw04_QuoteCuts.j2 kj5 false)) else (tmesislaw04_QuoteCuts.j2 kj5 false)) else (none)) else (none)) else (tmesislaw04_QuoteCuts.j2 kj5 false)) else (if t311 = true then (if (bt323.1.length : Int) = 0 then (if bt323.2.1 ≥ 1 then (if bt323.2.1 ≤ (ji17) then (if bt323.2.2 = 12 then (if bt323.2.1 = (ji17) then (tmesislaw04_QuoteCuts.j3 kj5 true) else (if bt323.2.2 = 13 then (if bt323.2.1 = (wrap64 ((ji17) - 1)) then (if 0 ≤ (wrap64 ((ji17) - 1)) then (if (wrap64 ((ji17) - 1)) < (t315.length : Int) then (if (rd t315 (wrap64 ((ji17) - 1))) = 92 then (tmesislaw04_QuoteCuts.j3 kj5 true) else (if bt323.2.2 = 10 then (if bt323.2.1 < (ji17) then (tmesislaw04_QuoteCuts.j3 kj5 (decide ((rd t315 (wrap64 ((ji17) - 1))) ≥ 128))) else (tmesislaw04_QuoteCuts.j3 kj5 false)) else (tmesislaw04_QuoteCuts.j3 kj5 false))) else (none)) else (none)) else (if bt323.2.2 = 10 then (if bt323.2.1 < (ji17) then (if 0 ≤ (wrap64 ((ji17) - 1)) then (if (wrap64 ((ji17) - 1)) < (t315.length : Int) then (tmesislaw04_QuoteCuts.j3 kj5 (decide ((rd t315 (wrap64 ((ji17) - 1))) ≥ 128))) else (none)) else (none)) else (tmesislaw04_QuoteCuts.j3 kj5 false)) else (tmesislaw04_QuoteCuts.j3 kj5 false))) else (if bt323.2.2 = 10 then (if bt323.2.1 < (ji17) then (if 0 ≤ (wrap64 ((ji17) - 1)) then (if (wrap64 ((ji17) - 1)) < (t315.length : Int) then (tmesislaw04_QuoteCuts.j3 kj5 (decide ((rd t315 (wrap64 ((ji17) - 1))) ≥ 128))) else (none)) else (none)) else (tmesislaw04_QuoteCuts.j3 kj5 false)) else (tmesislaw04_QuoteCuts.j3 kj5 false)))) else (if bt323.2.2 = 13 then (if bt323.2.1 = (wrap64 ((ji17) - 1)) then (if 0 ≤ (wrap64 ((ji17) - 1)) then (if (wrap64 ((ji17) - 1)) < (t315.length : Int) then (if (rd t315 (wrap64 ((ji17) - 1))) = 92 then (tmesislaw04_QuoteCuts.j3 kj5 true) else (if bt323.2.2 = 10 then (if bt323.2.1 < (ji17) then (tmesislaw04_QuoteCuts.j3 kj5 (decide ((rd t315 (wrap64 ((ji17) - 1))) ≥ 128))) else (tmesislaw04_QuoteCuts.j3 kj5 false)) else (tmesislaw04_QuoteCuts.j3 kj5 false))) else (none)) else (none)) else (if bt323.2.2 = 10 then (if bt323.2.1 < (ji17) then (if 0 ≤ (wrap64 ((ji17) - 1)) then (if (wrap64 ((ji17) - 1)) < (t315.length : Int) then (tmesislaw04_QuoteCuts.j3 kj5 (decide ((rd t315 (wrap64 ((ji17) - 1))) ≥ 128))) else (none)) else (none)) else (tmesislaw04_QuoteCuts.j3 kj5 false)) else (tmesislaw04_QuoteCuts.j3 kj5 false))) else (if bt323.2.2 = 10 then (if bt323.2.1 < (ji17) then (if 0 ≤ (wrap64 ((ji17) - 1)) then (if (wrap64 ((ji17) - 1)) < (t315.length : Int) then (tmesislaw04_QuoteCuts.j3 kj5 (decide ((rd t315 (wrap64 ((ji17) - 1))) ≥ 128))) else (none)) else (none)) else (tmesislaw04_QuoteCuts.j3 kj5 false)) else (tmesislaw04_QuoteCuts.j3 kj5 false)))) else (tmesislaw04_QuoteCuts.j3 kj5 false)) else (tmesislaw04_QuoteCuts.j3 kj5 false)) else (tmesislaw04_QuoteCuts.j3 kj5 false)) else (tmesislaw04_QuoteCuts.j3 kj5 false)))) = some r := by first | (rw [hy319]; with_reducible exact H) | (have H2_ := (Option.bind_some _ _).symm.trans H; rw [hy319]; with_reducible exact H2_) | (have H2_ := (Option.bind_some _ _).symm.trans H; with_reducible exact H2_) | with_reducible exact H | (rw [hy319]; exact H) | exact H
        have Ny319 := Aside0.mk hy319
        clear hy319
        replace H := Option.bind_eq_some_iff.mp H
        obtain ⟨⟨t323, t324, t325⟩, A200, H⟩ := H
        replace H : (if t325 = 0 then (if t311 = true then (if 0 ≤ (wrap64 ((ji17) - 1)) then (if (wrap64 ((ji17) - 1)) < (t315.length : Int) then (if (rd t315 (wrap64 ((ji17) - 1))) = 39 then (if t324 = (ji17) then (tmesislaw04_QuoteCuts.j2 kj5 (decide ((t323.length : Int) ≤ (wrap64 ((ji17) - 2))))) else (tmesislaw04_QuoteCuts.j2 kj5 false)) else (tmesislaw04_QuoteCuts.j2 kj5 false)) else (none)) else (none)) else (tmesislaw04_QuoteCuts.j2 kj5 false)) else (if t311 = true then (if (t323.length : Int) = 0 then (if t324 ≥ 1 then (if t324 ≤ (ji17) then (if t325 = 12 then (if t324 = (ji17) then (tmesislaw04_QuoteCuts.j3 kj5 true) else (if t325 = 13 then (if t324 = (wrap64 ((ji17) - 1)) then (if 0 ≤ (wrap64 ((ji17) - 1)) then (if (wrap64 ((ji17) - 1)) < (t315.length : Int) then (if (rd t315 (wrap64 ((ji17) - 1))) = 92 then (tmesislaw04_QuoteCuts.j3 kj5 true) else (if t325 = 10 then (if t324 < (ji17) then (tmesislaw04_QuoteCuts.j3 kj5 (decide ((rd t315 (wrap64 ((ji17) - 1))) ≥ 128))) else (tmesislaw04_QuoteCuts.j3 kj5 false)) else (tmesislaw04_QuoteCuts.j3 kj5 false))) else (none)) else (none)) else (if t325 = 10 then (if t324 < (ji17) then (if 0 ≤ (wrap64 ((ji17) - 1)) then (if (wrap64 ((ji17) - 1)) < (t315.length : Int) then (tmesislaw04_QuoteCuts.j3 kj5 (decide ((rd t315 (wrap64 ((ji17) - 1))) ≥ 128))) else (none)) else (none)) else (tmesislaw04_QuoteCuts.j3 kj5 false)) else (tmesislaw04_QuoteCuts.j3 kj5 false))) else (if t325 = 10 then (if t324 < (ji17) then (if 0 ≤ (wrap64 ((ji17) - 1)) then (if (wrap64 ((ji17) - 1)) < (t315.length : Int) then (tmesislaw04_QuoteCuts.j3 kj5 (decide ((rd t315 (wrap64 ((ji17) - 1))) ≥ 128))) else (none)) else (none)) else (tmesislaw04_QuoteCuts.j3 kj5 false)) else (tmesislaw04_QuoteCuts.j3 kj5 false)))) else (if t325 = 13 then (if t324 = (wrap64 ((ji17) - 1)) then (if 0 ≤ (wrap64 ((ji17) - 1)) then (if (wrap64 ((ji17) - 1)) < (t315.length : Int) then (if (rd t315 (wrap64 ((ji17) - 1))) = 92 then (tmesislaw04_QuoteCuts.j3 kj5 true) else (if t325 = 10 then (if t324 < (ji17) then (tmesislaw04_QuoteCuts.j3 kj5 (decide ((rd t315 (wrap64 ((ji17) - 1))) ≥ 128))) else (tmesislaw04_QuoteCuts.j3 kj5 false)) else (tmesislaw04_QuoteCuts.j3 kj5 false))) else (none)) else (none)) else (if t325 = 10 then (if t324 < (ji17) then (if 0 ≤ (wrap64 ((ji17) - 1)) then (if (wrap64 ((ji17) - 1)) < (t315.length : Int) then (tmesislaw04_QuoteCuts.j3 kj5 (decide ((rd t315 (wrap64 ((ji17) - 1))) ≥ 128))) else (none)) else (none)) else (tmesislaw04_QuoteCuts.j3 kj5 false)) else (tmesislaw04_QuoteCuts.j3 kj5 false))) else (if t325 = 10 then (if t324 < (ji17) then (if 0 ≤ (wrap64 ((ji17) - 1)) then (if (wrap64 ((ji17) - 1)) < (t315.length : Int) then (tmesislaw04_QuoteCuts.j3 kj5 (decide ((rd t315 (wrap64 ((ji17) - 1))) ≥ 128))) else (none)) else (none)) else (tmesislaw04_QuoteCuts.j3 kj5 false)) else (tmesislaw04_QuoteCuts.j3 kj5 false)))) else (tmesislaw04_QuoteCuts.j3 kj5 false)) else (tmesislaw04_QuoteCuts.j3 kj5 false)) else (tmesislaw04_QuoteCuts.j3 kj5 false)) else (tmesislaw04_QuoteCuts.j3 kj5 false))) = some r := H
        have A20 := Aside0.mk A200
        clear A200
        by_cases c21 : t325 = 0
        ·rw [if_pos c21] at H
         have c21b0 : (t325 == 0) = true := beq_iff_eq.mpr c21
         have c21b1 : (t325 != 0) = false := bne_eq_false_iff_eq.mpr c21
         clear c21
         have HC22 := Aside0.mk H
         clear H
         obtain ⟨Ao23, co23, eo23⟩ := Kd.R_slice HO_6.out
         subst eo23
         have q24 : ((ji17) : Int) ≤ ((t315.length : Int) : Int) := of_decide_eq_true (by first | (with_reducible assumption) | assumption)
         obtain ⟨i024, hi024, _, hsz24, _⟩ := info_parts info5
         have hroom24 : t315.length ≤ co23 := (Kd.R_reads' HO_6.out).2.1
         have hC24 : Kd.C (Kd.int .u8) _ Ao23 t315.length t315 := (Kd.R_reads' HO_6.out).2.2
         have hcut24 := cut_to (P := Tryd.prog) 22 5 .i64 Tryd.underlying22 hi024 Ao23 t315.length co23 (ji17) (of_decide_eq_true (by first | (with_reducible assumption) | assumption)) q24 hroom24
         have hr24 := Kd.C_take (m := ((ji17) : Int).toNat) hC24 (by omega)
         have hy24 : y319.length = ((ji17) : Int).toNat := (by rw [Ny319.out, List.length_take]; omega)
         rw [← Ny319.out] at hr24
         rw [← hy24] at hcut24
         have HR322 := Aside0.mk hr24
         have HC322 := Aside0.mk (show y319.length ≤ co23 from by omega)
         clear hr24 hC24 hroom24 hi024 hsz24
         have KY24 := Aside0.mk hy24
         clear hy24
         have KL24 := Aside0.mk (show ((ji17) : Int).toNat ≤ t315.length from by omega)
         replace q24 := eq_true q24
         go_upto_region 8 with (first | ((with_reducible refine gate_callee (f := 9) rfl ?_); refine goesL_ (some 42) rfl rfl Tryd.func9 (by kernel_rfl) rfl #[.slice Ao23 y319.length co23] rfl (by (try simp only [List.map_toArray, List.map_cons, List.map_nil]); first | done | rfl | (simp only [List.length_drop, List.length_take]; rfl)) ?_; (with_reducible refine (quote_Take.calls kj5 _ _ y319 t323 t324 t325 _ ?side1 ?side2 A20.out).mono ?_); (case side1 => repeat (first | exact (by repeat (first | (with_reducible exact HR322.out) | (with_reducible refine Kd.C_alloc ?_ _) | (with_reducible refine Kd.C_drewN ?_ _) | (with_reducible refine Kd.C_drew ?_) | exact HR322.out)) | (with_reducible refine Kd.C_alloc ?_ _) | (with_reducible refine Kd.C_drewN ?_ _) | (with_reducible refine Kd.C_drew ?_))); (case side2 => exact HC322.out); rintro e w25 ⟨v326, rfl, ho0, hb⟩; refine ⟨_, rfl, ?_⟩; have n0_ := Aside0.mk (Kd.R_elder' (by (with_reducible repeat (first | apply Kd.R_alloc | apply Kd.R_drewN | apply Kd.R_drew)); exact HO_6.out) (Kd.R_base ho0) hb); have n1_ := Aside0.mk (Kd.R_lower (Kd.R_new' ho0 (Kd.R_lt (by (with_reducible repeat (first | apply Kd.R_alloc | apply Kd.R_drewN | apply Kd.R_drew)); exact HO_6.out))) (below_size (by repeat (first | (with_reducible first | exact HB.out | apply below_alloc | apply pw_below_drewN | apply below_drew1) | exact HB.out)))); have n2_ := Aside0.mk (Kd.C_below (by repeat (first | (with_reducible exact HR322.out) | (with_reducible refine Kd.C_alloc ?_ _) | (with_reducible refine Kd.C_drewN ?_ _) | (with_reducible refine Kd.C_drew ?_) | exact HR322.out)) hb); have n3_ := Aside0.mk (below_step (by repeat (first | (with_reducible first | exact HB.out | apply below_alloc | apply pw_below_drewN | apply below_drew1) | exact HB.out)) hb); clear HO_6; clear HR322; clear HB; have HO_6 := n0_; have HO327 := n1_; have HR322 := n2_; have HB := n3_; clear n0_ n1_ n2_ n3_; (try clear hb); (try clear hb2); (try clear hk); (try clear hi); (try clear ho0)))
         (try simp only [Act.put, List.setIfInBounds_toArray, List.set_cons_zero, List.set_cons_succ])
         go_cut [4] (fun v4 wc => ∃ (kq : Nat) (x4_21 : Bool), v4 = .bool x4_21 ∧ Aside0 (tmesislaw04_QuoteCuts.j2 kq x4_21 = some r) ∧ Aside0 (kq ≤ kj5) ∧ Aside0 (Kd.C (Kd.int .u8) wc Ao23 y319.length y319) ∧ Aside0 (Below w.heap.size w wc))
         case first =>
          have H := HC22.out
          clear HC22
          by_cases c26 : t311 = true
          ·subst c26
           have H1 : (if 0 ≤ (wrap64 ((ji17) - 1)) then (if (wrap64 ((ji17) - 1)) < (t315.length : Int) then (if (rd t315 (wrap64 ((ji17) - 1))) = 39 then (if t324 = (ji17) then (tmesislaw04_QuoteCuts.j2 kj5 (decide ((t323.length : Int) ≤ (wrap64 ((ji17) - 2))))) else (tmesislaw04_QuoteCuts.j2 kj5 false)) else (tmesislaw04_QuoteCuts.j2 kj5 false)) else (none)) else (none)) = some r := by rw [if_pos rfl] at H; exact H
           clear H
           have H := H1
           clear H1
           obtain ⟨ji27, hji27⟩ : ∃ j_ : Int, (wrap64 ((ji17) - 1)) = j_ := ⟨_, rfl⟩
           replace H : (if 0 ≤ (ji27) then (if (ji27) < (t315.length : Int) then (if (rd t315 (ji27)) = 39 then (if t324 = (ji17) then (tmesislaw04_QuoteCuts.j2 kj5 (decide ((t323.length : Int) ≤ (wrap64 ((ji17) - 2))))) else (tmesislaw04_QuoteCuts.j2 kj5 false)) else (tmesislaw04_QuoteCuts.j2 kj5 false)) else (none)) else (none)) = some r := by first | (rw [hji27] at H; exact H) | (simp only [hji27] at H ⊢; exact H)
           have hji27w : (IntKind.i64.wrap ((ji17) - 1)) = ji27 := (i64_w _).trans hji27
           by_cases c28 : 0 ≤ (ji27)
           ·rw [if_pos c28] at H
            have c28b0 : decide (0 ≤ (ji27)) = true := decide_eq_true c28
            clear c28
            (first | rw [c28b0] | (simp only [i64_w, i32_w]; rw [c28b0]) | skip)
            by_cases c29 : (ji27) < (t315.length : Int)
            ·rw [if_pos c29] at H
             have c29b0 : decide ((ji27) < (t315.length : Int)) = true := decide_eq_true c29
             clear c29
             by_cases c30 : (rd t315 (ji27)) = 39
             ·rw [if_pos c30] at H
              have c30b0 : ((rd t315 (ji27)) == 39) = true := beq_iff_eq.mpr c30
              have c30b1 : ((rd t315 (ji27)) != 39) = false := bne_eq_false_iff_eq.mpr c30
              clear c30
              by_cases c31 : t324 = (ji17)
              ·rw [if_pos c31] at H
               have c31b0 : (t324 == (ji17)) = true := beq_iff_eq.mpr c31
               have c31b1 : (t324 != (ji17)) = false := bne_eq_false_iff_eq.mpr c31
               clear c31
               as_aux_lemma =>
                have H' := Aside0.mk H
                clear H
                have p328 : 0 ≤ ((ji27) : Int) := of_decide_eq_true (by first | (with_reducible assumption) | assumption)
                have q328 : (ji27) < (t315.length : Int) := of_decide_eq_true (by first | (with_reducible assumption) | assumption)
                obtain ⟨ad328, e328, hx328_0⟩ := Kd.at_int (Kd.R_reads' HO_6.out).2.2 (ji27) p328 q328
                cases e328
                replace p328 := eq_true p328
                replace q328 := eq_true q328
                obtain ⟨Ao32, co32, eo32⟩ := Kd.R_slice HO327.out
                subst eo32
                go_wp2
                go_meet
                case rel => exact ⟨_, (decide ((t323.length : Int) ≤ (wrap64 ((ji17) - 2)))), (by first | rfl | (simp; done) | (simp only [← hji17] <;> (first | rfl | simp)) | (simp [*]; done)), H', ⟨by have := HJ5.out; first | omega | exact Nat.le_refl _⟩, ⟨by repeat (first | (with_reducible exact HR322.out) | (with_reducible refine Kd.C_alloc ?_ _) | (with_reducible refine Kd.C_drewN ?_ _) | (with_reducible refine Kd.C_drew ?_) | exact HR322.out)⟩, ⟨by repeat (first | (with_reducible first | exact HB.out | apply below_alloc | apply pw_below_drewN | apply below_drew1) | exact HB.out)⟩⟩
              ·rw [if_neg c31] at H
               have c31b0 : (t324 == (ji17)) = false := beq_eq_false_iff_ne.mpr c31
               have c31b1 : (t324 != (ji17)) = true := bne_iff_ne.mpr c31
               as_aux_lemma =>
                have H' := Aside0.mk H
                clear H
                have p328 : 0 ≤ ((ji27) : Int) := of_decide_eq_true (by first | (with_reducible assumption) | assumption)
                have q328 : (ji27) < (t315.length : Int) := of_decide_eq_true (by first | (with_reducible assumption) | assumption)
                obtain ⟨ad328, e328, hx328_0⟩ := Kd.at_int (Kd.R_reads' HO_6.out).2.2 (ji27) p328 q328
                cases e328
                replace p328 := eq_true p328
                replace q328 := eq_true q328
                go_wp2
                go_meet
                case rel => exact ⟨_, (false), (by first | rfl | (simp; done) | (simp [*]; done)), H', ⟨by have := HJ5.out; first | omega | exact Nat.le_refl _⟩, ⟨by repeat (first | (with_reducible exact HR322.out) | (with_reducible refine Kd.C_alloc ?_ _) | (with_reducible refine Kd.C_drewN ?_ _) | (with_reducible refine Kd.C_drew ?_) | exact HR322.out)⟩, ⟨by repeat (first | (with_reducible first | exact HB.out | apply below_alloc | apply pw_below_drewN | apply below_drew1) | exact HB.out)⟩⟩
             ·rw [if_neg c30] at H
              have c30b0 : ((rd t315 (ji27)) == 39) = false := beq_eq_false_iff_ne.mpr c30
              have c30b1 : ((rd t315 (ji27)) != 39) = true := bne_iff_ne.mpr c30
              as_aux_lemma =>
               have H' := Aside0.mk H
               clear H
               have p328 : 0 ≤ ((ji27) : Int) := of_decide_eq_true (by first | (with_reducible assumption) | assumption)
               have q328 : (ji27) < (t315.length : Int) := of_decide_eq_true (by first | (with_reducible assumption) | assumption)
               obtain ⟨ad328, e328, hx328_0⟩ := Kd.at_int (Kd.R_reads' HO_6.out).2.2 (ji27) p328 q328
               cases e328
               replace p328 := eq_true p328
               replace q328 := eq_true q328
               go_wp2
               go_meet
               case rel => exact ⟨_, (false), (by first | rfl | (simp; done) | (simp [*]; done)), H', ⟨by have := HJ5.out; first | omega | exact Nat.le_refl _⟩, ⟨by repeat (first | (with_reducible exact HR322.out) | (with_reducible refine Kd.C_alloc ?_ _) | (with_reducible refine Kd.C_drewN ?_ _) | (with_reducible refine Kd.C_drew ?_) | exact HR322.out)⟩, ⟨by repeat (first | (with_reducible first | exact HB.out | apply below_alloc | apply pw_below_drewN | apply below_drew1) | exact HB.out)⟩⟩
            ·rw [if_neg c29] at H
             exact absurd H (by simp)
           ·rw [if_neg c28] at H
            exact absurd H (by simp)
          ·replace c26 := Bool.eq_false_iff.mpr c26
           subst c26
           have H1 : (tmesislaw04_QuoteCuts.j2 kj5 false) = some r := by rw [if_neg (show ¬ (false = true) by decide)] at H; exact H
           clear H
           have H := H1
           clear H1
           as_aux_lemma =>
            have H' := Aside0.mk H
            clear H
            go_wp2
            go_meet
            case rel => exact ⟨_, (false), (by first | rfl | (simp; done) | (simp [*]; done)), H', ⟨by have := HJ5.out; first | omega | exact Nat.le_refl _⟩, ⟨by repeat (first | (with_reducible exact HR322.out) | (with_reducible refine Kd.C_alloc ?_ _) | (with_reducible refine Kd.C_drewN ?_ _) | (with_reducible refine Kd.C_drew ?_) | exact HR322.out)⟩, ⟨by repeat (first | (with_reducible first | exact HB.out | apply below_alloc | apply pw_below_drewN | apply below_drew1) | exact HB.out)⟩⟩
         case rest =>
          as_aux_lemma =>
           clear HC22
           try clear c1
           try clear c2
           try clear p2
           try clear q2
           try clear c3
           try clear p3
           try clear q3
           try clear hx3
           try clear c4
           try clear p6
           try clear c8
           try clear c9
           try clear c10
           try clear c11
           try clear c11b0
           try clear c11b1
           try clear c12
           try clear c13
           try clear c15
           try clear c16
           try clear c16b0
           try clear c16b1
           try clear c18
           try clear c18b0
           try clear c18b1
           try clear c19
           try clear c19b0
           try clear c19b1
           try clear c21
           try clear c21b0
           try clear c21b1
           try clear q24
           try clear c26
           try clear c28
           try clear c28b0
           try clear c29
           try clear c29b0
           try clear c30
           try clear c30b0
           try clear c30b1
           try clear c31
           try clear c31b0
           try clear c31b1
           try clear p32
           try clear q32
           try clear hx32
           try clear hx328_0
           try clear p2
           try clear p328
           try clear q24
           try clear q328
           obtain ⟨kq, x4_21, rfl, HA, HJ21, HR322, HB⟩ := hcut
           cases kq with
           | zero => exact absurd HA.out (by simp [tmesislaw04_QuoteCuts.j2])
           | succ kj21 =>
            have H := HA.out
            clear HA
            simp only [tmesislaw04_QuoteCuts.j2] at H
            as_aux_lemma =>
             obtain rfl := Option.some.inj H
             go_wp2
             go_ret
             exact ⟨by first | rfl | (simp [errW_none, errW_some] <;> rfl) | (simp only [← hji17]; first | rfl | (simp [errW_none, errW_some] <;> rfl)) | (simp [*, errW_none, errW_some] <;> rfl), by repeat (first | (with_reducible first | exact HB.out | apply below_alloc | apply pw_below_drewN | apply below_drew1) | exact HB.out)⟩
        ·rw [if_neg c21] at H
         have c21b0 : (t325 == 0) = false := beq_eq_false_iff_ne.mpr c21
         have c21b1 : (t325 != 0) = true := bne_iff_ne.mpr c21
         have HC33 := Aside0.mk H
         clear H
         obtain ⟨Ao34, co34, eo34⟩ := Kd.R_slice HO_6.out
         subst eo34
         have q35 : ((ji17) : Int) ≤ ((t315.length : Int) : Int) := of_decide_eq_true (by first | (with_reducible assumption) | assumption)
         obtain ⟨i035, hi035, _, hsz35, _⟩ := info_parts info5
         have hroom35 : t315.length ≤ co34 := (Kd.R_reads' HO_6.out).2.1
         have hC35 : Kd.C (Kd.int .u8) _ Ao34 t315.length t315 := (Kd.R_reads' HO_6.out).2.2
         have hcut35 := cut_to (P := Tryd.prog) 22 5 .i64 Tryd.underlying22 hi035 Ao34 t315.length co34 (ji17) (of_decide_eq_true (by first | (with_reducible assumption) | assumption)) q35 hroom35
         have hr35 := Kd.C_take (m := ((ji17) : Int).toNat) hC35 (by omega)
         have hy35 : y319.length = ((ji17) : Int).toNat := (by rw [Ny319.out, List.length_take]; omega)
         rw [← Ny319.out] at hr35
         rw [← hy35] at hcut35
         have HR322 := Aside0.mk hr35
         have HC322 := Aside0.mk (show y319.length ≤ co34 from by omega)
         clear hr35 hC35 hroom35 hi035 hsz35
         have KY35 := Aside0.mk hy35
         clear hy35
         have KL35 := Aside0.mk (show ((ji17) : Int).toNat ≤ t315.length from by omega)
         replace q35 := eq_true q35
         go_upto_region 9 with (first | ((with_reducible refine gate_callee (f := 9) rfl ?_); refine goesL_ (some 42) rfl rfl Tryd.func9 (by kernel_rfl) rfl #[.slice Ao34 y319.length co34] rfl (by (try simp only [List.map_toArray, List.map_cons, List.map_nil]); first | done | rfl | (simp only [List.length_drop, List.length_take]; rfl)) ?_; (with_reducible refine (quote_Take.calls kj5 _ _ y319 t323 t324 t325 _ ?side1 ?side2 A20.out).mono ?_); (case side1 => repeat (first | exact (by repeat (first | (with_reducible exact HR322.out) | (with_reducible refine Kd.C_alloc ?_ _) | (with_reducible refine Kd.C_drewN ?_ _) | (with_reducible refine Kd.C_drew ?_) | exact HR322.out)) | (with_reducible refine Kd.C_alloc ?_ _) | (with_reducible refine Kd.C_drewN ?_ _) | (with_reducible refine Kd.C_drew ?_))); (case side2 => exact HC322.out); rintro e w36 ⟨v326, rfl, ho0, hb⟩; refine ⟨_, rfl, ?_⟩; have n0_ := Aside0.mk (Kd.R_elder' (by (with_reducible repeat (first | apply Kd.R_alloc | apply Kd.R_drewN | apply Kd.R_drew)); exact HO_6.out) (Kd.R_base ho0) hb); have n1_ := Aside0.mk (Kd.R_lower (Kd.R_new' ho0 (Kd.R_lt (by (with_reducible repeat (first | apply Kd.R_alloc | apply Kd.R_drewN | apply Kd.R_drew)); exact HO_6.out))) (below_size (by repeat (first | (with_reducible first | exact HB.out | apply below_alloc | apply pw_below_drewN | apply below_drew1) | exact HB.out)))); have n2_ := Aside0.mk (Kd.C_below (by repeat (first | (with_reducible exact HR322.out) | (with_reducible refine Kd.C_alloc ?_ _) | (with_reducible refine Kd.C_drewN ?_ _) | (with_reducible refine Kd.C_drew ?_) | exact HR322.out)) hb); have n3_ := Aside0.mk (below_step (by repeat (first | (with_reducible first | exact HB.out | apply below_alloc | apply pw_below_drewN | apply below_drew1) | exact HB.out)) hb); clear HO_6; clear HR322; clear HB; have HO_6 := n0_; have HO327 := n1_; have HR322 := n2_; have HB := n3_; clear n0_ n1_ n2_ n3_; (try clear hb); (try clear hb2); (try clear hk); (try clear hi); (try clear ho0)))
         (try simp only [Act.put, List.setIfInBounds_toArray, List.set_cons_zero, List.set_cons_succ])
         go_cut [4] (fun v4 wc => ∃ (kq : Nat) (x4_32 : Bool), v4 = .bool x4_32 ∧ Aside0 (tmesislaw04_QuoteCuts.j3 kq x4_32 = some r) ∧ Aside0 (kq ≤ kj5) ∧ Aside0 (Kd.C (Kd.int .u8) wc Ao34 y319.length y319) ∧ Aside0 (Below w.heap.size w wc))
         case first =>
          have H := HC33.out
          clear HC33
          by_cases c37 : t311 = true
          ·subst c37
           have H1 : (if (t323.length : Int) = 0 then (if t324 ≥ 1 then (if t324 ≤ (ji17) then (if t325 = 12 then (if t324 = (ji17) then (tmesislaw04_QuoteCuts.j3 kj5 true) else (if t325 = 13 then (if t324 = (wrap64 ((ji17) - 1)) then (if 0 ≤ (wrap64 ((ji17) - 1)) then (if (wrap64 ((ji17) - 1)) < (t315.length : Int) then (if (rd t315 (wrap64 ((ji17) - 1))) = 92 then (tmesislaw04_QuoteCuts.j3 kj5 true) else (if t325 = 10 then (if t324 < (ji17) then (tmesislaw04_QuoteCuts.j3 kj5 (decide ((rd t315 (wrap64 ((ji17) - 1))) ≥ 128))) else (tmesislaw04_QuoteCuts.j3 kj5 false)) else (tmesislaw04_QuoteCuts.j3 kj5 false))) else (none)) else (none)) else (if t325 = 10 then (if t324 < (ji17) then (if 0 ≤ (wrap64 ((ji17) - 1)) then (if (wrap64 ((ji17) - 1)) < (t315.length : Int) then (tmesislaw04_QuoteCuts.j3 kj5 (decide ((rd t315 (wrap64 ((ji17) - 1))) ≥ 128))) else (none)) else (none)) else (tmesislaw04_QuoteCuts.j3 kj5 false)) else (tmesislaw04_QuoteCuts.j3 kj5 false))) else (if t325 = 10 then (if t324 < (ji17) then (if 0 ≤ (wrap64 ((ji17) - 1)) then (if (wrap64 ((ji17) - 1)) < (t315.length : Int) then (tmesislaw04_QuoteCuts.j3 kj5 (decide ((rd t315 (wrap64 ((ji17) - 1))) ≥ 128))) else (none)) else (none)) else (tmesislaw04_QuoteCuts.j3 kj5 false)) else (tmesislaw04_QuoteCuts.j3 kj5 false)))) else (if t325 = 13 then (if t324 = (wrap64 ((ji17) - 1)) then (if 0 ≤ (wrap64 ((ji17) - 1)) then (if (wrap64 ((ji17) - 1)) < (t315.length : Int) then (if (rd t315 (wrap64 ((ji17) - 1))) = 92 then (tmesislaw04_QuoteCuts.j3 kj5 true) else (if t325 = 10 then (if t324 < (ji17) then (tmesislaw04_QuoteCuts.j3 kj5 (decide ((rd t315 (wrap64 ((ji17) - 1))) ≥ 128))) else (tmesislaw04_QuoteCuts.j3 kj5 false)) else (tmesislaw04_QuoteCuts.j3 kj5 false))) else (none)) else (none)) else (if t325 = 10 then (if t324 < (ji17) then (if 0 ≤ (wrap64 ((ji17) - 1)) then (if (wrap64 ((ji17) - 1)) < (t315.length : Int) then (tmesislaw04_QuoteCuts.j3 kj5 (decide ((rd t315 (wrap64 ((ji17) - 1))) ≥ 128))) else (none)) else (none)) else (tmesislaw04_QuoteCuts.j3 kj5 false)) else (tmesislaw04_QuoteCuts.j3 kj5 false))) else (if t325 = 10 then (if t324 < (ji17) then (if 0 ≤ (wrap64 ((ji17) - 1)) then (if (wrap64 ((ji17) - 1)) < (t315.length : Int) then (tmesislaw04_QuoteCuts.j3 kj5 (decide ((rd t315 (wrap64 ((ji17) - 1))) ≥ 128))) else (none)) else (none)) else (tmesislaw04_QuoteCuts.j3 kj5 false)) else (tmesislaw04_QuoteCuts.j3 kj5 false)))) else (tmesislaw04_QuoteCuts.j3 kj5 false)) else (tmesislaw04_QuoteCuts.j3 kj5 false)) else (tmesislaw04_QuoteCuts.j3 kj5 false)) = some r := by rw [if_pos rfl] at H; exact H
           clear H
           have H := H1
           clear H1
           by_cases c38 : (t323.length : Int) = 0
           ·rw [if_pos c38] at H
            have c38b0 : ((t323.length : Int) == 0) = true := beq_iff_eq.mpr c38
            have c38b1 : ((t323.length : Int) != 0) = false := bne_eq_false_iff_eq.mpr c38
            clear c38
            (first | rw [c38b0] | (simp only [i64_w, i32_w]; rw [c38b0]) | skip)
            by_cases c39 : t324 ≥ 1
            ·rw [if_pos c39] at H
             have c39b0 : decide (1 ≤ t324) = true := decide_eq_true c39
             clear c39
             by_cases c40 : t324 ≤ (ji17)
             ·rw [if_pos c40] at H
              have c40b0 : decide (t324 ≤ (ji17)) = true := decide_eq_true c40
              clear c40
              by_cases c41 : t325 = 12
              ·rw [if_pos c41] at H
               have c41b0 : (t325 == 12) = true := beq_iff_eq.mpr c41
               have c41b1 : (t325 != 12) = false := bne_eq_false_iff_eq.mpr c41
               clear c41
               by_cases c42 : t324 = (ji17)
               ·rw [if_pos c42] at H
                have c42b0 : (t324 == (ji17)) = true := beq_iff_eq.mpr c42
                have c42b1 : (t324 != (ji17)) = false := bne_eq_false_iff_eq.mpr c42
                clear c42
                as_aux_lemma =>
                 have H' := Aside0.mk H
                 clear H
                 obtain ⟨Ao43, co43, eo43⟩ := Kd.R_slice HO327.out
                 subst eo43
                 go_wp2
                 go_meet
                 case rel => exact ⟨_, (true), (by first | rfl | (simp; done) | (simp [*]; done)), H', ⟨by have := HJ5.out; first | omega | exact Nat.le_refl _⟩, ⟨by repeat (first | (with_reducible exact HR322.out) | (with_reducible refine Kd.C_alloc ?_ _) | (with_reducible refine Kd.C_drewN ?_ _) | (with_reducible refine Kd.C_drew ?_) | exact HR322.out)⟩, ⟨by repeat (first | (with_reducible first | exact HB.out | apply below_alloc | apply pw_below_drewN | apply below_drew1) | exact HB.out)⟩⟩
               ·rw [if_neg c42] at H
                have c42b0 : (t324 == (ji17)) = false := beq_eq_false_iff_ne.mpr c42
                have c42b1 : (t324 != (ji17)) = true := bne_iff_ne.mpr c42
                by_cases c44 : t325 = 13
                ·rw [if_pos c44] at H
                 have c44b0 : (t325 == 13) = true := beq_iff_eq.mpr c44
                 have c44b1 : (t325 != 13) = false := bne_eq_false_iff_eq.mpr c44
                 clear c44
                 by_cases c45 : t324 = (wrap64 ((ji17) - 1))
                 ·rw [if_pos c45] at H
                  have c45b0 : (t324 == (wrap64 ((ji17) - 1))) = true := beq_iff_eq.mpr c45
                  have c45b1 : (t324 != (wrap64 ((ji17) - 1))) = false := bne_eq_false_iff_eq.mpr c45
                  clear c45
                  obtain ⟨ji46, hji46⟩ : ∃ j_ : Int, (wrap64 ((ji17) - 1)) = j_ := ⟨_, rfl⟩
                  replace H : (if 0 ≤ (ji46) then (if (ji46) < (t315.length : Int) then (if (rd t315 (ji46)) = 92 then (tmesislaw04_QuoteCuts.j3 kj5 true) else (if t325 = 10 then (if t324 < (ji17) then (tmesislaw04_QuoteCuts.j3 kj5 (decide ((rd t315 (ji46)) ≥ 128))) else (tmesislaw04_QuoteCuts.j3 kj5 false)) else (tmesislaw04_QuoteCuts.j3 kj5 false))) else (none)) else (none)) = some r := by first | (rw [hji46] at H; exact H) | (simp only [hji46] at H ⊢; exact H)
                  (try rw [hji46] at c45b0)
                  (try rw [hji46] at c45b1)
                  have hji46w : (IntKind.i64.wrap ((ji17) - 1)) = ji46 := (i64_w _).trans hji46
                  by_cases c47 : 0 ≤ (ji46)
                  ·rw [if_pos c47] at H
                   have c47b0 : decide (0 ≤ (ji46)) = true := decide_eq_true c47
                   clear c47
                   by_cases c48 : (ji46) < (t315.length : Int)
                   ·rw [if_pos c48] at H
                    have c48b0 : decide ((ji46) < (t315.length : Int)) = true := decide_eq_true c48
                    clear c48
                    by_cases c49 : (rd t315 (ji46)) = 92
                    ·rw [if_pos c49] at H
                     have c49b0 : ((rd t315 (ji46)) == 92) = true := beq_iff_eq.mpr c49
                     have c49b1 : ((rd t315 (ji46)) != 92) = false := bne_eq_false_iff_eq.mpr c49
                     clear c49
                     as_aux_lemma =>
                      have H' := Aside0.mk H
                      clear H
                      obtain ⟨Ao50, co50, eo50⟩ := Kd.R_slice HO327.out
                      subst eo50
                      have p329 : 0 ≤ ((ji46) : Int) := of_decide_eq_true (by first | (with_reducible assumption) | assumption)
                      have q329 : (ji46) < (t315.length : Int) := of_decide_eq_true (by first | (with_reducible assumption) | assumption)
                      obtain ⟨ad329, e329, hx329_0⟩ := Kd.at_int (Kd.R_reads' HO_6.out).2.2 (ji46) p329 q329
                      cases e329
                      replace p329 := eq_true p329
                      replace q329 := eq_true q329
                      go_wp2
                      go_meet
                      case rel => exact ⟨_, (true), (by first | rfl | (simp; done) | (simp [*]; done)), H', ⟨by have := HJ5.out; first | omega | exact Nat.le_refl _⟩, ⟨by repeat (first | (with_reducible exact HR322.out) | (with_reducible refine Kd.C_alloc ?_ _) | (with_reducible refine Kd.C_drewN ?_ _) | (with_reducible refine Kd.C_drew ?_) | exact HR322.out)⟩, ⟨by repeat (first | (with_reducible first | exact HB.out | apply below_alloc | apply pw_below_drewN | apply below_drew1) | exact HB.out)⟩⟩
                    ·rw [if_neg c49] at H
                     have c49b0 : ((rd t315 (ji46)) == 92) = false := beq_eq_false_iff_ne.mpr c49
                     have c49b1 : ((rd t315 (ji46)) != 92) = true := bne_iff_ne.mpr c49
                     by_cases c51 : t325 = 10
                     ·rw [if_pos c51] at H
                      have c51b0 : (t325 == 10) = true := beq_iff_eq.mpr c51
                      have c51b1 : (t325 != 10) = false := bne_eq_false_iff_eq.mpr c51
                      clear c51
                      by_cases c52 : t324 < (ji17)
                      ·rw [if_pos c52] at H
                       have c52b0 : decide (t324 < (ji17)) = true := decide_eq_true c52
                       clear c52
                       as_aux_lemma =>
                        have H' := Aside0.mk H
                        clear H
                        obtain ⟨Ao53, co53, eo53⟩ := Kd.R_slice HO327.out
                        subst eo53
                        have p329 : 0 ≤ ((ji46) : Int) := of_decide_eq_true (by first | (with_reducible assumption) | assumption)
                        have q329 : (ji46) < (t315.length : Int) := of_decide_eq_true (by first | (with_reducible assumption) | assumption)
                        obtain ⟨ad329, e329, hx329_0⟩ := Kd.at_int (Kd.R_reads' HO_6.out).2.2 (ji46) p329 q329
                        cases e329
                        replace p329 := eq_true p329
                        replace q329 := eq_true q329
                        have p330 : 0 ≤ ((ji46) : Int) := of_decide_eq_true (by first | (with_reducible assumption) | assumption)
                        have q330 : (ji46) < (t315.length : Int) := of_decide_eq_true (by first | (with_reducible assumption) | assumption)
                        obtain ⟨ad330, e330, hx330_0⟩ := Kd.at_int (Kd.R_reads' HO_6.out).2.2 (ji46) p330 q330
                        obtain rfl : ad329 = ad330 := (by injection e330)
                        replace p330 := eq_true p330
                        replace q330 := eq_true q330
                        go_wp2
                        go_meet
                        case rel => exact ⟨_, (decide ((rd t315 (ji46)) ≥ 128)), (by first | rfl | (simp; done) | (simp only [← hji46] <;> (first | rfl | simp)) | (simp [*]; done)), H', ⟨by have := HJ5.out; first | omega | exact Nat.le_refl _⟩, ⟨by repeat (first | (with_reducible exact HR322.out) | (with_reducible refine Kd.C_alloc ?_ _) | (with_reducible refine Kd.C_drewN ?_ _) | (with_reducible refine Kd.C_drew ?_) | exact HR322.out)⟩, ⟨by repeat (first | (with_reducible first | exact HB.out | apply below_alloc | apply pw_below_drewN | apply below_drew1) | exact HB.out)⟩⟩
                      ·rw [if_neg c52] at H
                       have c52b0 : decide (t324 < (ji17)) = false := decide_eq_false c52
                       clear c52
                       as_aux_lemma =>
                        have H' := Aside0.mk H
                        clear H
                        obtain ⟨Ao54, co54, eo54⟩ := Kd.R_slice HO327.out
                        subst eo54
                        have p329 : 0 ≤ ((ji46) : Int) := of_decide_eq_true (by first | (with_reducible assumption) | assumption)
                        have q329 : (ji46) < (t315.length : Int) := of_decide_eq_true (by first | (with_reducible assumption) | assumption)
                        obtain ⟨ad329, e329, hx329_0⟩ := Kd.at_int (Kd.R_reads' HO_6.out).2.2 (ji46) p329 q329
                        cases e329
                        replace p329 := eq_true p329
                        replace q329 := eq_true q329
                        go_wp2
                        go_meet
                        case rel => exact ⟨_, (false), (by first | rfl | (simp; done) | (simp [*]; done)), H', ⟨by have := HJ5.out; first | omega | exact Nat.le_refl _⟩, ⟨by repeat (first | (with_reducible exact HR322.out) | (with_reducible refine Kd.C_alloc ?_ _) | (with_reducible refine Kd.C_drewN ?_ _) | (with_reducible refine Kd.C_drew ?_) | exact HR322.out)⟩, ⟨by repeat (first | (with_reducible first | exact HB.out | apply below_alloc | apply pw_below_drewN | apply below_drew1) | exact HB.out)⟩⟩
                     ·rw [if_neg c51] at H
                      have c51b0 : (t325 == 10) = false := beq_eq_false_iff_ne.mpr c51
                      have c51b1 : (t325 != 10) = true := bne_iff_ne.mpr c51
                      as_aux_lemma =>
                       have H' := Aside0.mk H
                       clear H
                       obtain ⟨Ao55, co55, eo55⟩ := Kd.R_slice HO327.out
                       subst eo55
                       have p329 : 0 ≤ ((ji46) : Int) := of_decide_eq_true (by first | (with_reducible assumption) | assumption)
                       have q329 : (ji46) < (t315.length : Int) := of_decide_eq_true (by first | (with_reducible assumption) | assumption)
                       obtain ⟨ad329, e329, hx329_0⟩ := Kd.at_int (Kd.R_reads' HO_6.out).2.2 (ji46) p329 q329
                       cases e329
                       replace p329 := eq_true p329
                       replace q329 := eq_true q329
                       go_wp2
                       go_meet
                       case rel => exact ⟨_, (false), (by first | rfl | (simp; done) | (simp [*]; done)), H', ⟨by have := HJ5.out; first | omega | exact Nat.le_refl _⟩, ⟨by repeat (first | (with_reducible exact HR322.out) | (with_reducible refine Kd.C_alloc ?_ _) | (with_reducible refine Kd.C_drewN ?_ _) | (with_reducible refine Kd.C_drew ?_) | exact HR322.out)⟩, ⟨by repeat (first | (with_reducible first | exact HB.out | apply below_alloc | apply pw_below_drewN | apply below_drew1) | exact HB.out)⟩⟩
                   ·rw [if_neg c48] at H
                    exact absurd H (by simp)
                  ·rw [if_neg c47] at H
                   exact absurd H (by simp)
                 ·rw [if_neg c45] at H
                  have c45b0 : (t324 == (wrap64 ((ji17) - 1))) = false := beq_eq_false_iff_ne.mpr c45
                  have c45b1 : (t324 != (wrap64 ((ji17) - 1))) = true := bne_iff_ne.mpr c45
                  by_cases c56 : t325 = 10
                  ·rw [if_pos c56] at H
                   have c56b0 : (t325 == 10) = true := beq_iff_eq.mpr c56
                   have c56b1 : (t325 != 10) = false := bne_eq_false_iff_eq.mpr c56
                   clear c56
                   by_cases c57 : t324 < (ji17)
                   ·rw [if_pos c57] at H
                    have c57b0 : decide (t324 < (ji17)) = true := decide_eq_true c57
                    clear c57
                    obtain ⟨ji58, hji58⟩ : ∃ j_ : Int, (wrap64 ((ji17) - 1)) = j_ := ⟨_, rfl⟩
                    replace H : (if 0 ≤ (ji58) then (if (ji58) < (t315.length : Int) then (tmesislaw04_QuoteCuts.j3 kj5 (decide ((rd t315 (ji58)) ≥ 128))) else (none)) else (none)) = some r := by first | (rw [hji58] at H; exact H) | (simp only [hji58] at H ⊢; exact H)
                    (try rw [hji58] at c45b0)
                    (try rw [hji58] at c45b1)
                    have hji58w : (IntKind.i64.wrap ((ji17) - 1)) = ji58 := (i64_w _).trans hji58
                    by_cases c59 : 0 ≤ (ji58)
                    ·rw [if_pos c59] at H
                     have c59b0 : decide (0 ≤ (ji58)) = true := decide_eq_true c59
                     clear c59
                     by_cases c60 : (ji58) < (t315.length : Int)
                     ·rw [if_pos c60] at H
                      have c60b0 : decide ((ji58) < (t315.length : Int)) = true := decide_eq_true c60
                      clear c60
                      as_aux_lemma =>
                       have H' := Aside0.mk H
                       clear H
                       obtain ⟨Ao61, co61, eo61⟩ := Kd.R_slice HO327.out
                       subst eo61
                       have p331 : 0 ≤ ((ji58) : Int) := of_decide_eq_true (by first | (with_reducible assumption) | assumption)
                       have q331 : (ji58) < (t315.length : Int) := of_decide_eq_true (by first | (with_reducible assumption) | assumption)
                       obtain ⟨ad331, e331, hx331_0⟩ := Kd.at_int (Kd.R_reads' HO_6.out).2.2 (ji58) p331 q331
                       cases e331
                       replace p331 := eq_true p331
                       replace q331 := eq_true q331
                       go_wp2
                       go_meet
                       case rel => exact ⟨_, (decide ((rd t315 (ji58)) ≥ 128)), (by first | rfl | (simp; done) | (simp only [← hji58] <;> (first | rfl | simp)) | (simp [*]; done)), H', ⟨by have := HJ5.out; first | omega | exact Nat.le_refl _⟩, ⟨by repeat (first | (with_reducible exact HR322.out) | (with_reducible refine Kd.C_alloc ?_ _) | (with_reducible refine Kd.C_drewN ?_ _) | (with_reducible refine Kd.C_drew ?_) | exact HR322.out)⟩, ⟨by repeat (first | (with_reducible first | exact HB.out | apply below_alloc | apply pw_below_drewN | apply below_drew1) | exact HB.out)⟩⟩
                     ·rw [if_neg c60] at H
                      exact absurd H (by simp)
                    ·rw [if_neg c59] at H
                     exact absurd H (by simp)
                   ·rw [if_neg c57] at H
                    have c57b0 : decide (t324 < (ji17)) = false := decide_eq_false c57
                    clear c57
                    as_aux_lemma =>
                     have H' := Aside0.mk H
                     clear H
                     obtain ⟨Ao62, co62, eo62⟩ := Kd.R_slice HO327.out
                     subst eo62
                     go_wp2
                     go_meet
                     case rel => exact ⟨_, (false), (by first | rfl | (simp; done) | (simp [*]; done)), H', ⟨by have := HJ5.out; first | omega | exact Nat.le_refl _⟩, ⟨by repeat (first | (with_reducible exact HR322.out) | (with_reducible refine Kd.C_alloc ?_ _) | (with_reducible refine Kd.C_drewN ?_ _) | (with_reducible refine Kd.C_drew ?_) | exact HR322.out)⟩, ⟨by repeat (first | (with_reducible first | exact HB.out | apply below_alloc | apply pw_below_drewN | apply below_drew1) | exact HB.out)⟩⟩
                  ·rw [if_neg c56] at H
                   have c56b0 : (t325 == 10) = false := beq_eq_false_iff_ne.mpr c56
                   have c56b1 : (t325 != 10) = true := bne_iff_ne.mpr c56
                   as_aux_lemma =>
                    have H' := Aside0.mk H
                    clear H
                    obtain ⟨Ao63, co63, eo63⟩ := Kd.R_slice HO327.out
                    subst eo63
                    go_wp2
                    go_meet
                    case rel => exact ⟨_, (false), (by first | rfl | (simp; done) | (simp [*]; done)), H', ⟨by have := HJ5.out; first | omega | exact Nat.le_refl _⟩, ⟨by repeat (first | (with_reducible exact HR322.out) | (with_reducible refine Kd.C_alloc ?_ _) | (with_reducible refine Kd.C_drewN ?_ _) | (with_reducible refine Kd.C_drew ?_) | exact HR322.out)⟩, ⟨by repeat (first | (with_reducible first | exact HB.out | apply below_alloc | apply pw_below_drewN | apply below_drew1) | exact HB.out)⟩⟩
                ·rw [if_neg c44] at H
                 have c44b0 : (t325 == 13) = false := beq_eq_false_iff_ne.mpr c44
                 have c44b1 : (t325 != 13) = true := bne_iff_ne.mpr c44
                 by_cases c64 : t325 = 10
                 ·rw [if_pos c64] at H
                  have c64b0 : (t325 == 10) = true := beq_iff_eq.mpr c64
                  have c64b1 : (t325 != 10) = false := bne_eq_false_iff_eq.mpr c64
                  clear c64
                  by_cases c65 : t324 < (ji17)
                  ·rw [if_pos c65] at H
                   have c65b0 : decide (t324 < (ji17)) = true := decide_eq_true c65
                   clear c65
                   obtain ⟨ji66, hji66⟩ : ∃ j_ : Int, (wrap64 ((ji17) - 1)) = j_ := ⟨_, rfl⟩
                   replace H : (if 0 ≤ (ji66) then (if (ji66) < (t315.length : Int) then (tmesislaw04_QuoteCuts.j3 kj5 (decide ((rd t315 (ji66)) ≥ 128))) else (none)) else (none)) = some r := by first | (rw [hji66] at H; exact H) | (simp only [hji66] at H ⊢; exact H)
                   have hji66w : (IntKind.i64.wrap ((ji17) - 1)) = ji66 := (i64_w _).trans hji66
                   by_cases c67 : 0 ≤ (ji66)
                   ·rw [if_pos c67] at H
                    have c67b0 : decide (0 ≤ (ji66)) = true := decide_eq_true c67
                    clear c67
                    by_cases c68 : (ji66) < (t315.length : Int)
                    ·rw [if_pos c68] at H
                     have c68b0 : decide ((ji66) < (t315.length : Int)) = true := decide_eq_true c68
                     clear c68
                     as_aux_lemma =>
                      have H' := Aside0.mk H
                      clear H
                      obtain ⟨Ao69, co69, eo69⟩ := Kd.R_slice HO327.out
                      subst eo69
                      have p332 : 0 ≤ ((ji66) : Int) := of_decide_eq_true (by first | (with_reducible assumption) | assumption)
                      have q332 : (ji66) < (t315.length : Int) := of_decide_eq_true (by first | (with_reducible assumption) | assumption)
                      obtain ⟨ad332, e332, hx332_0⟩ := Kd.at_int (Kd.R_reads' HO_6.out).2.2 (ji66) p332 q332
                      cases e332
                      replace p332 := eq_true p332
                      replace q332 := eq_true q332
                      go_wp2
                      go_meet
                      case rel => exact ⟨_, (decide ((rd t315 (ji66)) ≥ 128)), (by first | rfl | (simp; done) | (simp only [← hji66] <;> (first | rfl | simp)) | (simp [*]; done)), H', ⟨by have := HJ5.out; first | omega | exact Nat.le_refl _⟩, ⟨by repeat (first | (with_reducible exact HR322.out) | (with_reducible refine Kd.C_alloc ?_ _) | (with_reducible refine Kd.C_drewN ?_ _) | (with_reducible refine Kd.C_drew ?_) | exact HR322.out)⟩, ⟨by repeat (first | (with_reducible first | exact HB.out | apply below_alloc | apply pw_below_drewN | apply below_drew1) | exact HB.out)⟩⟩
                    ·rw [if_neg c68] at H
                     exact absurd H (by simp)
                   ·rw [if_neg c67] at H
                    exact absurd H (by simp)
                  ·rw [if_neg c65] at H
                   have c65b0 : decide (t324 < (ji17)) = false := decide_eq_false c65
                   clear c65
                   as_aux_lemma =>
                    have H' := Aside0.mk H
                    clear H
                    obtain ⟨Ao70, co70, eo70⟩ := Kd.R_slice HO327.out
                    subst eo70
                    go_wp2
                    go_meet
                    case rel => exact ⟨_, (false), (by first | rfl | (simp; done) | (simp [*]; done)), H', ⟨by have := HJ5.out; first | omega | exact Nat.le_refl _⟩, ⟨by repeat (first | (with_reducible exact HR322.out) | (with_reducible refine Kd.C_alloc ?_ _) | (with_reducible refine Kd.C_drewN ?_ _) | (with_reducible refine Kd.C_drew ?_) | exact HR322.out)⟩, ⟨by repeat (first | (with_reducible first | exact HB.out | apply below_alloc | apply pw_below_drewN | apply below_drew1) | exact HB.out)⟩⟩
                 ·rw [if_neg c64] at H
                  have c64b0 : (t325 == 10) = false := beq_eq_false_iff_ne.mpr c64
                  have c64b1 : (t325 != 10) = true := bne_iff_ne.mpr c64
                  as_aux_lemma =>
                   have H' := Aside0.mk H
                   clear H
                   obtain ⟨Ao71, co71, eo71⟩ := Kd.R_slice HO327.out
                   subst eo71
                   go_wp2
                   go_meet
                   case rel => exact ⟨_, (false), (by first | rfl | (simp; done) | (simp [*]; done)), H', ⟨by have := HJ5.out; first | omega | exact Nat.le_refl _⟩, ⟨by repeat (first | (with_reducible exact HR322.out) | (with_reducible refine Kd.C_alloc ?_ _) | (with_reducible refine Kd.C_drewN ?_ _) | (with_reducible refine Kd.C_drew ?_) | exact HR322.out)⟩, ⟨by repeat (first | (with_reducible first | exact HB.out | apply below_alloc | apply pw_below_drewN | apply below_drew1) | exact HB.out)⟩⟩
              ·rw [if_neg c41] at H
               have c41b0 : (t325 == 12) = false := beq_eq_false_iff_ne.mpr c41
               have c41b1 : (t325 != 12) = true := bne_iff_ne.mpr c41
               by_cases c72 : t325 = 13
               ·rw [if_pos c72] at H
                have c72b0 : (t325 == 13) = true := beq_iff_eq.mpr c72
                have c72b1 : (t325 != 13) = false := bne_eq_false_iff_eq.mpr c72
                clear c72
                by_cases c73 : t324 = (wrap64 ((ji17) - 1))
                ·rw [if_pos c73] at H
                 have c73b0 : (t324 == (wrap64 ((ji17) - 1))) = true := beq_iff_eq.mpr c73
                 have c73b1 : (t324 != (wrap64 ((ji17) - 1))) = false := bne_eq_false_iff_eq.mpr c73
                 clear c73
                 obtain ⟨ji74, hji74⟩ : ∃ j_ : Int, (wrap64 ((ji17) - 1)) = j_ := ⟨_, rfl⟩
                 replace H : (if 0 ≤ (ji74) then (if (ji74) < (t315.length : Int) then (if (rd t315 (ji74)) = 92 then (tmesislaw04_QuoteCuts.j3 kj5 true) else (if t325 = 10 then (if t324 < (ji17) then (tmesislaw04_QuoteCuts.j3 kj5 (decide ((rd t315 (ji74)) ≥ 128))) else (tmesislaw04_QuoteCuts.j3 kj5 false)) else (tmesislaw04_QuoteCuts.j3 kj5 false))) else (none)) else (none)) = some r := by first | (rw [hji74] at H; exact H) | (simp only [hji74] at H ⊢; exact H)
                 (try rw [hji74] at c73b0)
                 (try rw [hji74] at c73b1)
                 have hji74w : (IntKind.i64.wrap ((ji17) - 1)) = ji74 := (i64_w _).trans hji74
                 by_cases c75 : 0 ≤ (ji74)
                 ·rw [if_pos c75] at H
                  have c75b0 : decide (0 ≤ (ji74)) = true := decide_eq_true c75
                  clear c75
                  by_cases c76 : (ji74) < (t315.length : Int)
                  ·rw [if_pos c76] at H
                   have c76b0 : decide ((ji74) < (t315.length : Int)) = true := decide_eq_true c76
                   clear c76
                   by_cases c77 : (rd t315 (ji74)) = 92
                   ·rw [if_pos c77] at H
                    have c77b0 : ((rd t315 (ji74)) == 92) = true := beq_iff_eq.mpr c77
                    have c77b1 : ((rd t315 (ji74)) != 92) = false := bne_eq_false_iff_eq.mpr c77
                    clear c77
                    as_aux_lemma =>
                     have H' := Aside0.mk H
                     clear H
                     obtain ⟨Ao78, co78, eo78⟩ := Kd.R_slice HO327.out
                     subst eo78
                     have p333 : 0 ≤ ((ji74) : Int) := of_decide_eq_true (by first | (with_reducible assumption) | assumption)
                     have q333 : (ji74) < (t315.length : Int) := of_decide_eq_true (by first | (with_reducible assumption) | assumption)
                     obtain ⟨ad333, e333, hx333_0⟩ := Kd.at_int (Kd.R_reads' HO_6.out).2.2 (ji74) p333 q333
                     cases e333
                     replace p333 := eq_true p333
                     replace q333 := eq_true q333
                     go_wp2
                     go_meet
                     case rel => exact ⟨_, (true), (by first | rfl | (simp; done) | (simp [*]; done)), H', ⟨by have := HJ5.out; first | omega | exact Nat.le_refl _⟩, ⟨by repeat (first | (with_reducible exact HR322.out) | (with_reducible refine Kd.C_alloc ?_ _) | (with_reducible refine Kd.C_drewN ?_ _) | (with_reducible refine Kd.C_drew ?_) | exact HR322.out)⟩, ⟨by repeat (first | (with_reducible first | exact HB.out | apply below_alloc | apply pw_below_drewN | apply below_drew1) | exact HB.out)⟩⟩
                   ·rw [if_neg c77] at H
                    have c77b0 : ((rd t315 (ji74)) == 92) = false := beq_eq_false_iff_ne.mpr c77
                    have c77b1 : ((rd t315 (ji74)) != 92) = true := bne_iff_ne.mpr c77
                    by_cases c79 : t325 = 10
                    ·rw [if_pos c79] at H
                     have c79b0 : (t325 == 10) = true := beq_iff_eq.mpr c79
                     have c79b1 : (t325 != 10) = false := bne_eq_false_iff_eq.mpr c79
                     clear c79
                     by_cases c80 : t324 < (ji17)
                     ·rw [if_pos c80] at H
                      have c80b0 : decide (t324 < (ji17)) = true := decide_eq_true c80
                      clear c80
                      as_aux_lemma =>
                       have H' := Aside0.mk H
                       clear H
                       obtain ⟨Ao81, co81, eo81⟩ := Kd.R_slice HO327.out
                       subst eo81
                       have p333 : 0 ≤ ((ji74) : Int) := of_decide_eq_true (by first | (with_reducible assumption) | assumption)
                       have q333 : (ji74) < (t315.length : Int) := of_decide_eq_true (by first | (with_reducible assumption) | assumption)
                       obtain ⟨ad333, e333, hx333_0⟩ := Kd.at_int (Kd.R_reads' HO_6.out).2.2 (ji74) p333 q333
                       cases e333
                       replace p333 := eq_true p333
                       replace q333 := eq_true q333
                       have p334 : 0 ≤ ((ji74) : Int) := of_decide_eq_true (by first | (with_reducible assumption) | assumption)
                       have q334 : (ji74) < (t315.length : Int) := of_decide_eq_true (by first | (with_reducible assumption) | assumption)
                       obtain ⟨ad334, e334, hx334_0⟩ := Kd.at_int (Kd.R_reads' HO_6.out).2.2 (ji74) p334 q334
                       obtain rfl : ad333 = ad334 := (by injection e334)
                       replace p334 := eq_true p334
                       replace q334 := eq_true q334
                       go_wp2
                       go_meet
                       case rel => exact ⟨_, (decide ((rd t315 (ji74)) ≥ 128)), (by first | rfl | (simp; done) | (simp only [← hji74] <;> (first | rfl | simp)) | (simp [*]; done)), H', ⟨by have := HJ5.out; first | omega | exact Nat.le_refl _⟩, ⟨by repeat (first | (with_reducible exact HR322.out) | (with_reducible refine Kd.C_alloc ?_ _) | (with_reducible refine Kd.C_drewN ?_ _) | (with_reducible refine Kd.C_drew ?_) | exact HR322.out)⟩, ⟨by repeat (first | (with_reducible first | exact HB.out | apply below_alloc | apply pw_below_drewN | apply below_drew1) | exact HB.out)⟩⟩
                     ·rw [if_neg c80] at H
                      have c80b0 : decide (t324 < (ji17)) = false := decide_eq_false c80
                      clear c80
                      as_aux_lemma =>
                       have H' := Aside0.mk H
                       clear H
                       obtain ⟨Ao82, co82, eo82⟩ := Kd.R_slice HO327.out
                       subst eo82
                       have p333 : 0 ≤ ((ji74) : Int) := of_decide_eq_true (by first | (with_reducible assumption) | assumption)
                       have q333 : (ji74) < (t315.length : Int) := of_decide_eq_true (by first | (with_reducible assumption) | assumption)
                       obtain ⟨ad333, e333, hx333_0⟩ := Kd.at_int (Kd.R_reads' HO_6.out).2.2 (ji74) p333 q333
                       cases e333
                       replace p333 := eq_true p333
                       replace q333 := eq_true q333
                       go_wp2
                       go_meet
                       case rel => exact ⟨_, (false), (by first | rfl | (simp; done) | (simp [*]; done)), H', ⟨by have := HJ5.out; first | omega | exact Nat.le_refl _⟩, ⟨by repeat (first | (with_reducible exact HR322.out) | (with_reducible refine Kd.C_alloc ?_ _) | (with_reducible refine Kd.C_drewN ?_ _) | (with_reducible refine Kd.C_drew ?_) | exact HR322.out)⟩, ⟨by repeat (first | (with_reducible first | exact HB.out | apply below_alloc | apply pw_below_drewN | apply below_drew1) | exact HB.out)⟩⟩
                    ·rw [if_neg c79] at H
                     have c79b0 : (t325 == 10) = false := beq_eq_false_iff_ne.mpr c79
                     have c79b1 : (t325 != 10) = true := bne_iff_ne.mpr c79
                     as_aux_lemma =>
                      have H' := Aside0.mk H
                      clear H
                      obtain ⟨Ao83, co83, eo83⟩ := Kd.R_slice HO327.out
                      subst eo83
                      have p333 : 0 ≤ ((ji74) : Int) := of_decide_eq_true (by first | (with_reducible assumption) | assumption)
                      have q333 : (ji74) < (t315.length : Int) := of_decide_eq_true (by first | (with_reducible assumption) | assumption)
                      obtain ⟨ad333, e333, hx333_0⟩ := Kd.at_int (Kd.R_reads' HO_6.out).2.2 (ji74) p333 q333
                      cases e333
                      replace p333 := eq_true p333
                      replace q333 := eq_true q333
                      go_wp2
                      go_meet
                      case rel => exact ⟨_, (false), (by first | rfl | (simp; done) | (simp [*]; done)), H', ⟨by have := HJ5.out; first | omega | exact Nat.le_refl _⟩, ⟨by repeat (first | (with_reducible exact HR322.out) | (with_reducible refine Kd.C_alloc ?_ _) | (with_reducible refine Kd.C_drewN ?_ _) | (with_reducible refine Kd.C_drew ?_) | exact HR322.out)⟩, ⟨by repeat (first | (with_reducible first | exact HB.out | apply below_alloc | apply pw_below_drewN | apply below_drew1) | exact HB.out)⟩⟩
                  ·rw [if_neg c76] at H
                   exact absurd H (by simp)
                 ·rw [if_neg c75] at H
                  exact absurd H (by simp)
                ·rw [if_neg c73] at H
                 have c73b0 : (t324 == (wrap64 ((ji17) - 1))) = false := beq_eq_false_iff_ne.mpr c73
                 have c73b1 : (t324 != (wrap64 ((ji17) - 1))) = true := bne_iff_ne.mpr c73
                 by_cases c84 : t325 = 10
                 ·rw [if_pos c84] at H
                  have c84b0 : (t325 == 10) = true := beq_iff_eq.mpr c84
                  have c84b1 : (t325 != 10) = false := bne_eq_false_iff_eq.mpr c84
                  clear c84
                  by_cases c85 : t324 < (ji17)
                  ·rw [if_pos c85] at H
                   have c85b0 : decide (t324 < (ji17)) = true := decide_eq_true c85
                   clear c85
                   obtain ⟨ji86, hji86⟩ : ∃ j_ : Int, (wrap64 ((ji17) - 1)) = j_ := ⟨_, rfl⟩
                   replace H : (if 0 ≤ (ji86) then (if (ji86) < (t315.length : Int) then (tmesislaw04_QuoteCuts.j3 kj5 (decide ((rd t315 (ji86)) ≥ 128))) else (none)) else (none)) = some r := by first | (rw [hji86] at H; exact H) | (simp only [hji86] at H ⊢; exact H)
                   (try rw [hji86] at c73b0)
                   (try rw [hji86] at c73b1)
                   have hji86w : (IntKind.i64.wrap ((ji17) - 1)) = ji86 := (i64_w _).trans hji86
                   by_cases c87 : 0 ≤ (ji86)
                   ·rw [if_pos c87] at H
                    have c87b0 : decide (0 ≤ (ji86)) = true := decide_eq_true c87
                    clear c87
                    by_cases c88 : (ji86) < (t315.length : Int)
                    ·rw [if_pos c88] at H
                     have c88b0 : decide ((ji86) < (t315.length : Int)) = true := decide_eq_true c88
                     clear c88
                     as_aux_lemma =>
                      have H' := Aside0.mk H
                      clear H
                      obtain ⟨Ao89, co89, eo89⟩ := Kd.R_slice HO327.out
                      subst eo89
                      have p335 : 0 ≤ ((ji86) : Int) := of_decide_eq_true (by first | (with_reducible assumption) | assumption)
                      have q335 : (ji86) < (t315.length : Int) := of_decide_eq_true (by first | (with_reducible assumption) | assumption)
                      obtain ⟨ad335, e335, hx335_0⟩ := Kd.at_int (Kd.R_reads' HO_6.out).2.2 (ji86) p335 q335
                      cases e335
                      replace p335 := eq_true p335
                      replace q335 := eq_true q335
                      go_wp2
                      go_meet
                      case rel => exact ⟨_, (decide ((rd t315 (ji86)) ≥ 128)), (by first | rfl | (simp; done) | (simp only [← hji86] <;> (first | rfl | simp)) | (simp [*]; done)), H', ⟨by have := HJ5.out; first | omega | exact Nat.le_refl _⟩, ⟨by repeat (first | (with_reducible exact HR322.out) | (with_reducible refine Kd.C_alloc ?_ _) | (with_reducible refine Kd.C_drewN ?_ _) | (with_reducible refine Kd.C_drew ?_) | exact HR322.out)⟩, ⟨by repeat (first | (with_reducible first | exact HB.out | apply below_alloc | apply pw_below_drewN | apply below_drew1) | exact HB.out)⟩⟩
                    ·rw [if_neg c88] at H
                     exact absurd H (by simp)
                   ·rw [if_neg c87] at H
                    exact absurd H (by simp)
                  ·rw [if_neg c85] at H
                   have c85b0 : decide (t324 < (ji17)) = false := decide_eq_false c85
                   clear c85
                   as_aux_lemma =>
                    have H' := Aside0.mk H
                    clear H
                    obtain ⟨Ao90, co90, eo90⟩ := Kd.R_slice HO327.out
                    subst eo90
                    go_wp2
                    go_meet
                    case rel => exact ⟨_, (false), (by first | rfl | (simp; done) | (simp [*]; done)), H', ⟨by have := HJ5.out; first | omega | exact Nat.le_refl _⟩, ⟨by repeat (first | (with_reducible exact HR322.out) | (with_reducible refine Kd.C_alloc ?_ _) | (with_reducible refine Kd.C_drewN ?_ _) | (with_reducible refine Kd.C_drew ?_) | exact HR322.out)⟩, ⟨by repeat (first | (with_reducible first | exact HB.out | apply below_alloc | apply pw_below_drewN | apply below_drew1) | exact HB.out)⟩⟩
                 ·rw [if_neg c84] at H
                  have c84b0 : (t325 == 10) = false := beq_eq_false_iff_ne.mpr c84
                  have c84b1 : (t325 != 10) = true := bne_iff_ne.mpr c84
                  as_aux_lemma =>
                   have H' := Aside0.mk H
                   clear H
                   obtain ⟨Ao91, co91, eo91⟩ := Kd.R_slice HO327.out
                   subst eo91
                   go_wp2
                   go_meet
                   case rel => exact ⟨_, (false), (by first | rfl | (simp; done) | (simp [*]; done)), H', ⟨by have := HJ5.out; first | omega | exact Nat.le_refl _⟩, ⟨by repeat (first | (with_reducible exact HR322.out) | (with_reducible refine Kd.C_alloc ?_ _) | (with_reducible refine Kd.C_drewN ?_ _) | (with_reducible refine Kd.C_drew ?_) | exact HR322.out)⟩, ⟨by repeat (first | (with_reducible first | exact HB.out | apply below_alloc | apply pw_below_drewN | apply below_drew1) | exact HB.out)⟩⟩
               ·rw [if_neg c72] at H
                have c72b0 : (t325 == 13) = false := beq_eq_false_iff_ne.mpr c72
                have c72b1 : (t325 != 13) = true := bne_iff_ne.mpr c72
                by_cases c92 : t325 = 10
                ·rw [if_pos c92] at H
                 have c92b0 : (t325 == 10) = true := beq_iff_eq.mpr c92
                 have c92b1 : (t325 != 10) = false := bne_eq_false_iff_eq.mpr c92
                 clear c92
                 by_cases c93 : t324 < (ji17)
                 ·rw [if_pos c93] at H
                  have c93b0 : decide (t324 < (ji17)) = true := decide_eq_true c93
                  clear c93
                  obtain ⟨ji94, hji94⟩ : ∃ j_ : Int, (wrap64 ((ji17) - 1)) = j_ := ⟨_, rfl⟩
                  replace H : (if 0 ≤ (ji94) then (if (ji94) < (t315.length : Int) then (tmesislaw04_QuoteCuts.j3 kj5 (decide ((rd t315 (ji94)) ≥ 128))) else (none)) else (none)) = some r := by first | (rw [hji94] at H; exact H) | (simp only [hji94] at H ⊢; exact H)
                  have hji94w : (IntKind.i64.wrap ((ji17) - 1)) = ji94 := (i64_w _).trans hji94
                  by_cases c95 : 0 ≤ (ji94)
                  ·rw [if_pos c95] at H
                   have c95b0 : decide (0 ≤ (ji94)) = true := decide_eq_true c95
                   clear c95
                   by_cases c96 : (ji94) < (t315.length : Int)
                   ·rw [if_pos c96] at H
                    have c96b0 : decide ((ji94) < (t315.length : Int)) = true := decide_eq_true c96
                    clear c96
                    as_aux_lemma =>
                     have H' := Aside0.mk H
                     clear H
                     obtain ⟨Ao97, co97, eo97⟩ := Kd.R_slice HO327.out
                     subst eo97
                     have p336 : 0 ≤ ((ji94) : Int) := of_decide_eq_true (by first | (with_reducible assumption) | assumption)
                     have q336 : (ji94) < (t315.length : Int) := of_decide_eq_true (by first | (with_reducible assumption) | assumption)
                     obtain ⟨ad336, e336, hx336_0⟩ := Kd.at_int (Kd.R_reads' HO_6.out).2.2 (ji94) p336 q336
                     cases e336
                     replace p336 := eq_true p336
                     replace q336 := eq_true q336
                     go_wp2
                     go_meet
                     case rel => exact ⟨_, (decide ((rd t315 (ji94)) ≥ 128)), (by first | rfl | (simp; done) | (simp only [← hji94] <;> (first | rfl | simp)) | (simp [*]; done)), H', ⟨by have := HJ5.out; first | omega | exact Nat.le_refl _⟩, ⟨by repeat (first | (with_reducible exact HR322.out) | (with_reducible refine Kd.C_alloc ?_ _) | (with_reducible refine Kd.C_drewN ?_ _) | (with_reducible refine Kd.C_drew ?_) | exact HR322.out)⟩, ⟨by repeat (first | (with_reducible first | exact HB.out | apply below_alloc | apply pw_below_drewN | apply below_drew1) | exact HB.out)⟩⟩
                   ·rw [if_neg c96] at H
                    exact absurd H (by simp)
                  ·rw [if_neg c95] at H
                   exact absurd H (by simp)
                 ·rw [if_neg c93] at H
                  have c93b0 : decide (t324 < (ji17)) = false := decide_eq_false c93
                  clear c93
                  as_aux_lemma =>
                   have H' := Aside0.mk H
                   clear H
                   obtain ⟨Ao98, co98, eo98⟩ := Kd.R_slice HO327.out
                   subst eo98
                   go_wp2
                   go_meet
                   case rel => exact ⟨_, (false), (by first | rfl | (simp; done) | (simp [*]; done)), H', ⟨by have := HJ5.out; first | omega | exact Nat.le_refl _⟩, ⟨by repeat (first | (with_reducible exact HR322.out) | (with_reducible refine Kd.C_alloc ?_ _) | (with_reducible refine Kd.C_drewN ?_ _) | (with_reducible refine Kd.C_drew ?_) | exact HR322.out)⟩, ⟨by repeat (first | (with_reducible first | exact HB.out | apply below_alloc | apply pw_below_drewN | apply below_drew1) | exact HB.out)⟩⟩
                ·rw [if_neg c92] at H
                 have c92b0 : (t325 == 10) = false := beq_eq_false_iff_ne.mpr c92
                 have c92b1 : (t325 != 10) = true := bne_iff_ne.mpr c92
                 as_aux_lemma =>
                  have H' := Aside0.mk H
                  clear H
                  obtain ⟨Ao99, co99, eo99⟩ := Kd.R_slice HO327.out
                  subst eo99
                  go_wp2
                  go_meet
                  case rel => exact ⟨_, (false), (by first | rfl | (simp; done) | (simp [*]; done)), H', ⟨by have := HJ5.out; first | omega | exact Nat.le_refl _⟩, ⟨by repeat (first | (with_reducible exact HR322.out) | (with_reducible refine Kd.C_alloc ?_ _) | (with_reducible refine Kd.C_drewN ?_ _) | (with_reducible refine Kd.C_drew ?_) | exact HR322.out)⟩, ⟨by repeat (first | (with_reducible first | exact HB.out | apply below_alloc | apply pw_below_drewN | apply below_drew1) | exact HB.out)⟩⟩
             ·rw [if_neg c40] at H
              have c40b0 : decide (t324 ≤ (ji17)) = false := decide_eq_false c40
              clear c40
              as_aux_lemma =>
               have H' := Aside0.mk H
               clear H
               obtain ⟨Ao100, co100, eo100⟩ := Kd.R_slice HO327.out
               subst eo100
               go_wp2
               go_meet
               case rel => exact ⟨_, (false), (by first | rfl | (simp; done) | (simp [*]; done)), H', ⟨by have := HJ5.out; first | omega | exact Nat.le_refl _⟩, ⟨by repeat (first | (with_reducible exact HR322.out) | (with_reducible refine Kd.C_alloc ?_ _) | (with_reducible refine Kd.C_drewN ?_ _) | (with_reducible refine Kd.C_drew ?_) | exact HR322.out)⟩, ⟨by repeat (first | (with_reducible first | exact HB.out | apply below_alloc | apply pw_below_drewN | apply below_drew1) | exact HB.out)⟩⟩
            ·rw [if_neg c39] at H
             have c39b0 : decide (1 ≤ t324) = false := decide_eq_false c39
             clear c39
             as_aux_lemma =>
              have H' := Aside0.mk H
              clear H
              obtain ⟨Ao101, co101, eo101⟩ := Kd.R_slice HO327.out
              subst eo101
              go_wp2
              go_meet
              case rel => exact ⟨_, (false), (by first | rfl | (simp; done) | (simp [*]; done)), H', ⟨by have := HJ5.out; first | omega | exact Nat.le_refl _⟩, ⟨by repeat (first | (with_reducible exact HR322.out) | (with_reducible refine Kd.C_alloc ?_ _) | (with_reducible refine Kd.C_drewN ?_ _) | (with_reducible refine Kd.C_drew ?_) | exact HR322.out)⟩, ⟨by repeat (first | (with_reducible first | exact HB.out | apply below_alloc | apply pw_below_drewN | apply below_drew1) | exact HB.out)⟩⟩
           ·rw [if_neg c38] at H
            have c38b0 : ((t323.length : Int) == 0) = false := beq_eq_false_iff_ne.mpr c38
            have c38b1 : ((t323.length : Int) != 0) = true := bne_iff_ne.mpr c38
            have c38b2 : ¬ (t323 = []) := fun h_ => c38 (by rw [h_]; rfl)
            (first | rw [c38b0] | (simp only [i64_w, i32_w]; rw [c38b0]) | skip)
            as_aux_lemma =>
             have H' := Aside0.mk H
             clear H
             obtain ⟨Ao102, co102, eo102⟩ := Kd.R_slice HO327.out
             subst eo102
             go_wp2
             go_meet
             case rel => exact ⟨_, (false), (by first | rfl | (simp; done) | (simp [*]; done)), H', ⟨by have := HJ5.out; first | omega | exact Nat.le_refl _⟩, ⟨by repeat (first | (with_reducible exact HR322.out) | (with_reducible refine Kd.C_alloc ?_ _) | (with_reducible refine Kd.C_drewN ?_ _) | (with_reducible refine Kd.C_drew ?_) | exact HR322.out)⟩, ⟨by repeat (first | (with_reducible first | exact HB.out | apply below_alloc | apply pw_below_drewN | apply below_drew1) | exact HB.out)⟩⟩
          ·replace c37 := Bool.eq_false_iff.mpr c37
           subst c37
           have H1 : (tmesislaw04_QuoteCuts.j3 kj5 false) = some r := by rw [if_neg (show ¬ (false = true) by decide)] at H; exact H
           clear H
           have H := H1
           clear H1
           as_aux_lemma =>
            have H' := Aside0.mk H
            clear H
            go_wp2
            go_meet
            case rel => exact ⟨_, (false), (by first | rfl | (simp; done) | (simp [*]; done)), H', ⟨by have := HJ5.out; first | omega | exact Nat.le_refl _⟩, ⟨by repeat (first | (with_reducible exact HR322.out) | (with_reducible refine Kd.C_alloc ?_ _) | (with_reducible refine Kd.C_drewN ?_ _) | (with_reducible refine Kd.C_drew ?_) | exact HR322.out)⟩, ⟨by repeat (first | (with_reducible first | exact HB.out | apply below_alloc | apply pw_below_drewN | apply below_drew1) | exact HB.out)⟩⟩
         case rest =>
          as_aux_lemma =>
           clear HC33
           try clear c2
           try clear p2
           try clear c3
           try clear p3
           try clear q3
           try clear hx3
           try clear c4
           try clear c5
           try clear c6
           try clear p6
           try clear c7
           try clear c8
           try clear c9
           try clear c21
           try clear c21b1
           try clear p32
           try clear q32
           try clear hx32
           try clear p33
           try clear q33
           try clear hx33
           try clear q35
           try clear c37
           try clear c38
           try clear c38b0
           try clear c38b1
           try clear c38b2
           try clear c39
           try clear c39b0
           try clear c40
           try clear c40b0
           try clear c41
           try clear c41b0
           try clear c41b1
           try clear c42
           try clear c42b0
           try clear c42b1
           try clear c44
           try clear c44b0
           try clear c44b1
           try clear c45
           try clear c45b0
           try clear c45b1
           try clear c47
           try clear c47b0
           try clear c48
           try clear c48b0
           try clear c49
           try clear c49b0
           try clear c49b1
           try clear c51
           try clear c51b0
           try clear c51b1
           try clear c52
           try clear c52b0
           try clear c56
           try clear c56b0
           try clear c56b1
           try clear c57
           try clear c57b0
           try clear c59
           try clear c59b0
           try clear c60
           try clear c60b0
           try clear c64
           try clear c64b0
           try clear c64b1
           try clear p64
           try clear c65
           try clear c65b0
           try clear c67
           try clear c67b0
           try clear c68
           try clear c68b0
           try clear c72
           try clear c72b0
           try clear c72b1
           try clear c73
           try clear c73b0
           try clear c73b1
           try clear c75
           try clear c75b0
           try clear c76
           try clear c76b0
           try clear c77
           try clear c77b0
           try clear c77b1
           try clear c79
           try clear c79b0
           try clear c79b1
           try clear c80
           try clear c80b0
           try clear c84
           try clear c84b0
           try clear c84b1
           try clear c85
           try clear c85b0
           try clear c87
           try clear c87b0
           try clear c88
           try clear c88b0
           try clear c92
           try clear c92b0
           try clear c92b1
           try clear c93
           try clear c93b0
           try clear c95
           try clear c95b0
           try clear c96
           try clear c96b0
           try clear hx329_0
           try clear hx330_0
           try clear hx331_0
           try clear hx332_0
           try clear hx333_0
           try clear hx334_0
           try clear hx335_0
           try clear hx336_0
           try clear p329
           try clear p330
           try clear p331
           try clear p332
           try clear p333
           try clear p334
           try clear p335
           try clear p336
           try clear q329
           try clear q330
           try clear q331
           try clear q332
           try clear q333
           try clear q334
           try clear q335
           try clear q336
           try clear q35
           obtain ⟨kq, x4_32, rfl, HA, HJ32, HR322, HB⟩ := hcut
           cases kq with
           | zero => exact absurd HA.out (by simp [tmesislaw04_QuoteCuts.j3])
           | succ kj32 =>
            have H := HA.out
            clear HA
            simp only [tmesislaw04_QuoteCuts.j3] at H
            as_aux_lemma =>
             obtain rfl := Option.some.inj H
             go_wp2
             go_ret
             exact ⟨by first | rfl | (simp [errW_none, errW_some] <;> rfl) | (simp only [← hji17]; first | rfl | (simp [errW_none, errW_some] <;> rfl)) | (simp [*, errW_none, errW_some] <;> rfl), by repeat (first | (with_reducible first | exact HB.out | apply below_alloc | apply pw_below_drewN | apply below_drew1) | exact HB.out)⟩
       ·rw [if_neg c19] at H
        exact absurd H (by simp)
      ·rw [if_neg c18] at H
       exact absurd H (by simp)
/-- THE ONE PURE STATEMENT of tmesislaw04_QuoteCuts: yours. -/
def tmesislaw04_QuoteCuts.Pure : Prop := ∀ (l0 : List Int) (a1 : Int), l0.length ≤ maxLen → l0.length * 1 ≤ 140737488351232 → (∀ x ∈ l0, (Lit.int .u8 x).wf = true) → (Lit.int .u8 a1).wf = true → ∃ k, tmesislaw04_QuoteCuts.f k l0 a1 = some true
theorem tmesislaw04_QuoteCuts.walk (P : tmesislaw04_QuoteCuts.Pure) (a0 : Option Addr) (len0 cap0 : Nat) (z0 : List Int) (a1 : Int) (w : World) (hG : Gl w) (w0 : (a0 = none ∧ len0 = 0 ∧ cap0 = 0 ∧ z0 = []) ∨ ∃ x, a0 = some x ∧ len0 ≤ cap0 ∧ cap0 ≤ maxLen ∧ z0.length = cap0 ∧ (∀ i, i < z0.length → w.cell? (x.add i) = some (.int .u8 (z0.getD i 0))) ∧ ∀ n ∈ z0, (Lit.int .u8 n).wf = true) (y0 : len0 * 1 ≤ 140737488351232) (w1 : (Lit.int .u8 a1).wf = true) :
  Calls Tryd.prog 4 #[.slice a0 len0 cap0, .int .u8 a1] w fun e w' => e = .returned (.bool true) ∧ Below w.heap.size w w' := by
 obtain ⟨l0, rfl, hr0, hm0, hw0, hc0⟩ := ReadsInt.ofRowC w0
 obtain ⟨k, h⟩ := P l0 a1 hm0 y0 hw0 w1
 refine (tmesislaw04_QuoteCuts.calls k _ _ l0 a1 true w hG (Kd.C_of_reads (d := (0 : Int)) (h1 := fun _ => rfl) hr0) hc0 h).mono ?_
 rintro e w' ⟨rfl, hd⟩
 exact ⟨rfl, hd⟩
end Go.Proofs.YtkicabbgcopjdaaDoor.P
