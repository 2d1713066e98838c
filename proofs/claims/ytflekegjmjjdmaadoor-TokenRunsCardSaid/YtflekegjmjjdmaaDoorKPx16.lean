/- Part of the proof: what the theorem needs of this text. -/
import Derived.Test.YtflekegjmjjdmaaDoorKHG
import Derived.Test.YtflekegjmjjdmaaDoorKHTX
import Derived.Test.YtflekegjmjjdmaaDoorKPx0
import Derived.Test.YtflekegjmjjdmaaDoorKPx8
namespace Go.Proofs.YtflekegjmjjdmaaDoor.P
open Go.RowKit Go.Proofs.YtflekegjmjjdmaaDoorW.PrintWords Go.Proofs.YtflekegjmjjdmaaDoorW.PrintLast Go.Proofs.YtflekegjmjjdmaaDoorW.PrintMore
attribute [local go_sem] max2_int min2_int max_two min_two max_three min_three max_four min_four   -- for this text's walks alone
set_option linter.unusedVariables false
set_option linter.unusedSimpArgs false
mutual
def tmesislaw06_TokenRuns.j0 : Nat → Bool → List Int → Bool → Bool → Int → Int → Int → ByteArray → Int → Option (Bool)
 | 0, _, _, _, _, _, _, _, _, _ => none
 | k + 1, x5, x6, x8, x47, x362000, x362001, x362002, x362003, x362004 => if x47 = true then (if x5 = true then (some (!x8)) else (some false)) else (if 0 ≤ x362001 then (if x362001 < (x6.length : Int) then ((class_Of.f (rd x6 x362001)).bind fun t363 => (if x362002 < (x6.length : Int) then (if 0 ≤ x362002 then ((class_Of.f (rd x6 x362002)).bind fun t365 => (tmesislaw06_TokenRuns.j1 k x5 x6 t363 t365 x362000 x362001 x362002 x362003 x362004)) else (none)) else (tmesislaw06_TokenRuns.j1 k x5 x6 t363 (-1) x362000 x362001 x362002 x362003 x362004))) else (none)) else (none))
def tmesislaw06_TokenRuns.j1 : Nat → Bool → List Int → Int → Int → Int → Int → Int → ByteArray → Int → Option (Bool)
 | 0, _, _, _, _, _, _, _, _, _ => none
 | k + 1, x5, x6, x9, x10, x362000, x362001, x362002, x362003, x362004 => if x10 = 2 then (tmesislaw06_TokenRuns.j2 k x5 x6 x9 x10 true x362000 x362001 x362002 x362003 x362004) else (if x10 = 3 then (tmesislaw06_TokenRuns.j2 k x5 x6 x9 x10 true x362000 x362001 x362002 x362003 x362004) else (tmesislaw06_TokenRuns.j2 k x5 x6 x9 x10 (x10 == 4) x362000 x362001 x362002 x362003 x362004))
def tmesislaw06_TokenRuns.j2 : Nat → Bool → List Int → Int → Int → Bool → Int → Int → Int → ByteArray → Int → Option (Bool)
 | 0, _, _, _, _, _, _, _, _, _, _ => none
 | k + 1, x5, x6, x9, x10, x11, x362000, x362001, x362002, x362003, x362004 => if x362000 = 1 then (if x5 = true then (if x9 = 2 then (some (!x11)) else (if x9 = 9 then (some (!x11)) else (some false))) else (some false)) else (if x362000 = 3 then (if x5 = true then (if x9 = 3 then (some (!x11)) else (some false)) else (some false)) else (if x362000 = 4 then (if x5 = true then (if x9 = 4 then (some (x10 != 4)) else (some false)) else (some false)) else (if x362000 = 2 then (if x362003.toList = ([46] : List UInt8) then (if x10 = (-1) then (if x5 = true then (if x9 = 5 then (if x10 = 5 then (some false) else (some (!true))) else (some false)) else (some false)) else (if x10 = 1 then (if x5 = true then (if x9 = 5 then (if x10 = 5 then (some false) else (some (!true))) else (some false)) else (some false)) else (if x5 = true then (if x9 = 5 then (if x10 = 5 then (some false) else (some (!(x10 == 8)))) else (some false)) else (some false)))) else (if x5 = true then (if x9 = 5 then (if x10 = 5 then (some false) else (some (!false))) else (some false)) else (some false))) else (if x362000 = 7 then (if x5 = true then (if x362003.toList = ([46] : List UInt8) then (if x10 = (-1) then (some true) else (if x10 = 1 then (some true) else (some (x10 == 8)))) else (some false)) else (some false)) else (if x362000 = 6 then (if x5 = true then (if x9 = 6 then (some (x362002 == (wrap64 (x362001 + 1)))) else (some false)) else (some false)) else (if x362000 = 5 then (if x5 = true then (if x9 = 7 then (if 0 ≤ (wrap64 (x362002 - 1)) then (if (wrap64 (x362002 - 1)) < (x6.length : Int) then (if (rd x6 (wrap64 (x362002 - 1))) = 39 then (some (decide (x362002 ≥ (wrap64 (x362001 + 2))))) else (some false)) else (none)) else (none)) else (some false)) else (some false)) else (if x5 = true then (some (x362000 == 8)) else (some false))))))))
end
def tmesislaw06_TokenRuns.f (k : Nat) (l0 : List Int) (a1 : Int) : Option (Bool) := (tmesislaw06_shown.f k).bind fun t351 => ((tmesislaw06_few.f l0).bind fun t352 => (if (wrap64 ((t352.length : Int) + 1)) = 0 then (none) else ((token_Next.f k t352 (Int.tmod (wrap64 (a1)) (wrap64 ((t352.length : Int) + 1)))).bind fun bt355 => (if bt355.2.2.2.2.2 = true then (if bt355.2.1 < 0 then (tmesislaw06_TokenRuns.j0 k t351 t352 bt355.2.2.2.2.2 true bt355.1 bt355.2.1 bt355.2.2.1 bt355.2.2.2.1 bt355.2.2.2.2.1) else (if bt355.2.2.1 > (t352.length : Int) then (tmesislaw06_TokenRuns.j0 k t351 t352 bt355.2.2.2.2.2 true bt355.1 bt355.2.1 bt355.2.2.1 bt355.2.2.2.1 bt355.2.2.2.2.1) else (tmesislaw06_TokenRuns.j0 k t351 t352 bt355.2.2.2.2.2 (decide (bt355.2.1 ≥ bt355.2.2.1)) bt355.1 bt355.2.1 bt355.2.2.1 bt355.2.2.2.1 bt355.2.2.2.2.1))) else (tmesislaw06_TokenRuns.j0 k t351 t352 bt355.2.2.2.2.2 true bt355.1 bt355.2.1 bt355.2.2.1 bt355.2.2.2.1 bt355.2.2.2.2.1)))))
theorem tmesislaw06_TokenRuns.mono_l : ∀ k, (∀ y0 y1 y2 y3 y4 y5 y6 y7 y8, LeO (tmesislaw06_TokenRuns.j0 k y0 y1 y2 y3 y4 y5 y6 y7 y8) (tmesislaw06_TokenRuns.j0 (k + 1) y0 y1 y2 y3 y4 y5 y6 y7 y8)) ∧ (∀ y0 y1 y2 y3 y4 y5 y6 y7 y8, LeO (tmesislaw06_TokenRuns.j1 k y0 y1 y2 y3 y4 y5 y6 y7 y8) (tmesislaw06_TokenRuns.j1 (k + 1) y0 y1 y2 y3 y4 y5 y6 y7 y8)) ∧ (∀ y0 y1 y2 y3 y4 y5 y6 y7 y8 y9, LeO (tmesislaw06_TokenRuns.j2 k y0 y1 y2 y3 y4 y5 y6 y7 y8 y9) (tmesislaw06_TokenRuns.j2 (k + 1) y0 y1 y2 y3 y4 y5 y6 y7 y8 y9))
 | 0 => ⟨fun _ _ _ _ _ _ _ _ _ r h => by simp [tmesislaw06_TokenRuns.j0] at h, fun _ _ _ _ _ _ _ _ _ r h => by simp [tmesislaw06_TokenRuns.j1] at h, fun _ _ _ _ _ _ _ _ _ _ r h => by simp [tmesislaw06_TokenRuns.j2] at h⟩
 | k + 1 => by
  obtain ⟨ih0, ih1, ih2⟩ := tmesislaw06_TokenRuns.mono_l k
  refine ⟨?_, ?_, ?_⟩
  ·intro y0 y1 y2 y3 y4 y5 y6 y7 y8
   unfold tmesislaw06_TokenRuns.j0
   repeat' first
   | (with_reducible exact ih0 _ _ _ _ _ _ _ _ _)
   | (with_reducible exact ih1 _ _ _ _ _ _ _ _ _)
   | (with_reducible exact ih2 _ _ _ _ _ _ _ _ _ _)
   | (with_reducible exact tmesislaw06_shown.mono _)
   | (with_reducible exact token_Next.mono _ _ _)
   | (with_reducible exact LeO.refl _)
   | (with_reducible exact LeO.none _)
   | (with_reducible refine LeO.ite ?_ ?_)
   | (with_reducible refine LeO.bind ?_ (fun _ => ?_))
   | exact ih0 _ _ _ _ _ _ _ _ _
   | exact ih1 _ _ _ _ _ _ _ _ _
   | exact ih2 _ _ _ _ _ _ _ _ _ _
   | exact tmesislaw06_shown.mono _
   | exact token_Next.mono _ _ _
   | exact LeO.none _
   | refine LeO.ite ?_ ?_
   | refine LeO.bind ?_ (fun _ => ?_)
  ·intro y0 y1 y2 y3 y4 y5 y6 y7 y8
   unfold tmesislaw06_TokenRuns.j1
   repeat' first
   | (with_reducible exact ih0 _ _ _ _ _ _ _ _ _)
   | (with_reducible exact ih1 _ _ _ _ _ _ _ _ _)
   | (with_reducible exact ih2 _ _ _ _ _ _ _ _ _ _)
   | (with_reducible exact tmesislaw06_shown.mono _)
   | (with_reducible exact token_Next.mono _ _ _)
   | (with_reducible exact LeO.refl _)
   | (with_reducible exact LeO.none _)
   | (with_reducible refine LeO.ite ?_ ?_)
   | (with_reducible refine LeO.bind ?_ (fun _ => ?_))
   | exact ih0 _ _ _ _ _ _ _ _ _
   | exact ih1 _ _ _ _ _ _ _ _ _
   | exact ih2 _ _ _ _ _ _ _ _ _ _
   | exact tmesislaw06_shown.mono _
   | exact token_Next.mono _ _ _
   | exact LeO.none _
   | refine LeO.ite ?_ ?_
   | refine LeO.bind ?_ (fun _ => ?_)
  ·intro y0 y1 y2 y3 y4 y5 y6 y7 y8 y9
   unfold tmesislaw06_TokenRuns.j2
   repeat' first
   | (with_reducible exact ih0 _ _ _ _ _ _ _ _ _)
   | (with_reducible exact ih1 _ _ _ _ _ _ _ _ _)
   | (with_reducible exact ih2 _ _ _ _ _ _ _ _ _ _)
   | (with_reducible exact tmesislaw06_shown.mono _)
   | (with_reducible exact token_Next.mono _ _ _)
   | (with_reducible exact LeO.refl _)
   | (with_reducible exact LeO.none _)
   | (with_reducible refine LeO.ite ?_ ?_)
   | (with_reducible refine LeO.bind ?_ (fun _ => ?_))
   | exact ih0 _ _ _ _ _ _ _ _ _
   | exact ih1 _ _ _ _ _ _ _ _ _
   | exact ih2 _ _ _ _ _ _ _ _ _ _
   | exact tmesislaw06_shown.mono _
   | exact token_Next.mono _ _ _
   | exact LeO.none _
   | refine LeO.ite ?_ ?_
   | refine LeO.bind ?_ (fun _ => ?_)
theorem tmesislaw06_TokenRuns.mono : ∀ a0 a1 k, LeO (tmesislaw06_TokenRuns.f k a0 a1) (tmesislaw06_TokenRuns.f (k + 1) a0 a1) := by
 intro a0 a1 k
 obtain ⟨ih0, ih1, ih2⟩ := tmesislaw06_TokenRuns.mono_l k
 unfold tmesislaw06_TokenRuns.f
 repeat' first
   | (with_reducible exact ih0 _ _ _ _ _ _ _ _ _)
   | (with_reducible exact ih1 _ _ _ _ _ _ _ _ _)
   | (with_reducible exact ih2 _ _ _ _ _ _ _ _ _ _)
   | (with_reducible exact tmesislaw06_shown.mono _)
   | (with_reducible exact token_Next.mono _ _ _)
   | (with_reducible exact LeO.refl _)
   | (with_reducible exact LeO.none _)
   | (with_reducible refine LeO.ite ?_ ?_)
   | (with_reducible refine LeO.bind ?_ (fun _ => ?_))
   | exact ih0 _ _ _ _ _ _ _ _ _
   | exact ih1 _ _ _ _ _ _ _ _ _
   | exact ih2 _ _ _ _ _ _ _ _ _ _
   | exact tmesislaw06_shown.mono _
   | exact token_Next.mono _ _ _
   | exact LeO.none _
   | refine LeO.ite ?_ ?_
   | refine LeO.bind ?_ (fun _ => ?_)
set_option maxHeartbeats 8000000 in
set_option maxRecDepth 100000 in
theorem tmesislaw06_TokenRuns.calls (k : Nat) (A0 : Option Addr) (c0 : Nat) (l0 : List Int) (a1 : Int) (r : Bool) (w : World) (hG : Gl w) (hr0 : Kd.C (Kd.int .u8) w A0 l0.length l0) (hc0 : l0.length ≤ c0) (h : tmesislaw06_TokenRuns.f k l0 a1 = some r) :
  Calls Tryd.prog 5 #[.slice A0 l0.length c0, .int .u8 a1] w fun e w' => e = .returned (.bool r) ∧ Below w.heap.size w w' := by
 have hu27 := Tryd.underlying27
 have HR0 := Aside0.mk hr0
 have HC0 := Aside0.mk hc0
 clear hr0 hc0
 have HB := Aside0.mk (Below.refl w.heap.size w)
 have HG := Aside0.mk hG
 clear hG
 have H : ((tmesislaw06_shown.f k).bind fun t351 => ((tmesislaw06_few.f l0).bind fun t352 => (if (wrap64 ((t352.length : Int) + 1)) = 0 then (none) else ((token_Next.f k t352 (Int.tmod (wrap64 (a1)) (wrap64 ((t352.length : Int) + 1)))).bind fun bt355 => (if bt355.2.2.2.2.2 = true then (if bt355.2.1 < 0 then (tmesislaw06_TokenRuns.j0 k t351 t352 bt355.2.2.2.2.2 true bt355.1 bt355.2.1 bt355.2.2.1 bt355.2.2.2.1 bt355.2.2.2.2.1) else (if bt355.2.2.1 > (t352.length : Int) then (tmesislaw06_TokenRuns.j0 k t351 t352 bt355.2.2.2.2.2 true bt355.1 bt355.2.1 bt355.2.2.1 bt355.2.2.2.1 bt355.2.2.2.2.1) else (tmesislaw06_TokenRuns.j0 k t351 t352 bt355.2.2.2.2.2 (decide (bt355.2.1 ≥ bt355.2.2.1)) bt355.1 bt355.2.1 bt355.2.2.1 bt355.2.2.2.1 bt355.2.2.2.2.1))) else (tmesislaw06_TokenRuns.j0 k t351 t352 bt355.2.2.2.2.2 true bt355.1 bt355.2.1 bt355.2.2.1 bt355.2.2.2.1 bt355.2.2.2.2.1)))))) = some r := h
 clear h
 replace H := Option.bind_eq_some_iff.mp H
 obtain ⟨t351, A30, H⟩ := H
 replace H : ((tmesislaw06_few.f l0).bind fun t352 => (if (wrap64 ((t352.length : Int) + 1)) = 0 then (none) else ((token_Next.f k t352 (Int.tmod (wrap64 (a1)) (wrap64 ((t352.length : Int) + 1)))).bind fun bt355 => (if bt355.2.2.2.2.2 = true then (if bt355.2.1 < 0 then (tmesislaw06_TokenRuns.j0 k t351 t352 bt355.2.2.2.2.2 true bt355.1 bt355.2.1 bt355.2.2.1 bt355.2.2.2.1 bt355.2.2.2.2.1) else (if bt355.2.2.1 > (t352.length : Int) then (tmesislaw06_TokenRuns.j0 k t351 t352 bt355.2.2.2.2.2 true bt355.1 bt355.2.1 bt355.2.2.1 bt355.2.2.2.1 bt355.2.2.2.2.1) else (tmesislaw06_TokenRuns.j0 k t351 t352 bt355.2.2.2.2.2 (decide (bt355.2.1 ≥ bt355.2.2.1)) bt355.1 bt355.2.1 bt355.2.2.1 bt355.2.2.2.1 bt355.2.2.2.2.1))) else (tmesislaw06_TokenRuns.j0 k t351 t352 bt355.2.2.2.2.2 true bt355.1 bt355.2.1 bt355.2.2.1 bt355.2.2.2.1 bt355.2.2.2.2.1))))) = some r := H
 have A3 := Aside0.mk A30
 clear A30
 replace H := Option.bind_eq_some_iff.mp H
 obtain ⟨t352, A40, H⟩ := H
 replace H : (if (wrap64 ((t352.length : Int) + 1)) = 0 then (none) else ((token_Next.f k t352 (Int.tmod (wrap64 (a1)) (wrap64 ((t352.length : Int) + 1)))).bind fun bt355 => (if bt355.2.2.2.2.2 = true then (if bt355.2.1 < 0 then (tmesislaw06_TokenRuns.j0 k t351 t352 bt355.2.2.2.2.2 true bt355.1 bt355.2.1 bt355.2.2.1 bt355.2.2.2.1 bt355.2.2.2.2.1) else (if bt355.2.2.1 > (t352.length : Int) then (tmesislaw06_TokenRuns.j0 k t351 t352 bt355.2.2.2.2.2 true bt355.1 bt355.2.1 bt355.2.2.1 bt355.2.2.2.1 bt355.2.2.2.2.1) else (tmesislaw06_TokenRuns.j0 k t351 t352 bt355.2.2.2.2.2 (decide (bt355.2.1 ≥ bt355.2.2.1)) bt355.1 bt355.2.1 bt355.2.2.1 bt355.2.2.2.1 bt355.2.2.2.2.1))) else (tmesislaw06_TokenRuns.j0 k t351 t352 bt355.2.2.2.2.2 true bt355.1 bt355.2.1 bt355.2.2.1 bt355.2.2.2.1 bt355.2.2.2.2.1)))) = some r := H
 have A4 := Aside0.mk A40
 clear A40
 by_cases c5 : (wrap64 ((t352.length : Int) + 1)) = 0
 ·rw [if_pos c5] at H
  exact absurd H (by simp)
 ·rw [if_neg c5] at H
  have c5b0 : ((wrap64 ((t352.length : Int) + 1)) == 0) = false := beq_eq_false_iff_ne.mpr c5
  have c5b1 : ((wrap64 ((t352.length : Int) + 1)) != 0) = true := bne_iff_ne.mpr c5
  replace H := Option.bind_eq_some_iff.mp H
  obtain ⟨⟨t355, t356, t357, t358, t359, t360⟩, A60, H⟩ := H
  replace H : (if t360 = true then (if t356 < 0 then (tmesislaw06_TokenRuns.j0 k t351 t352 t360 true t355 t356 t357 t358 t359) else (if t357 > (t352.length : Int) then (tmesislaw06_TokenRuns.j0 k t351 t352 t360 true t355 t356 t357 t358 t359) else (tmesislaw06_TokenRuns.j0 k t351 t352 t360 (decide (t356 ≥ t357)) t355 t356 t357 t358 t359))) else (tmesislaw06_TokenRuns.j0 k t351 t352 t360 true t355 t356 t357 t358 t359)) = some r := H
  have A6 := Aside0.mk A60
  clear A60
  have HC7 := Aside0.mk H
  clear H
  go_enter Tryd.func5, Tryd.ntmps5
  go_upto_region 4 with (first | ((with_reducible refine gate_callee (f := 9) rfl ?_); refine goesL_ (some 13) rfl rfl Tryd.func9 (by kernel_rfl) rfl #[] rfl (by (try simp only [List.map_toArray, List.map_cons, List.map_nil]); first | done | rfl | (simp only [List.length_drop, List.length_take]; rfl)) ?_; (with_reducible refine (tmesislaw06_shown.calls k  t351 _ ?side1 A3.out).mono ?_); (case side1 => exact Gl.below HG.out (by repeat (first | (with_reducible first | exact HB.out | apply below_alloc | apply pw_below_drewN | apply below_drew1) | exact HB.out))); rintro e w8 ⟨rfl, hb⟩; refine ⟨_, rfl, ?_⟩; have n0_ := Aside0.mk (below_step (by repeat (first | (with_reducible first | exact HB.out | apply below_alloc | apply pw_below_drewN | apply below_drew1) | exact HB.out)) hb); clear HB; have HB := n0_; clear n0_; (try clear hb); (try clear hb2); (try clear hk); (try clear hi)) | ((with_reducible refine gate_callee (f := 10) rfl ?_); refine goesL_ (some 15) rfl rfl Tryd.func10 (by kernel_rfl) rfl #[.slice A0 l0.length c0] rfl (by (try simp only [List.map_toArray, List.map_cons, List.map_nil]); first | done | rfl | (simp only [List.length_drop, List.length_take]; rfl)) ?_; (with_reducible refine (tmesislaw06_few.calls (fun k_ => k_ < w.heap.size) _ _ l0 t352 _ ?side1 A4.out).mono ?_); (case side1 => exact Kd.V_mk HC0.out (Kd.F_below (Kd.C_F (Kd.heap_int .u8) HR0.out) (by repeat (first | (with_reducible first | exact HB.out | apply below_alloc | apply pw_below_drewN | apply below_drew1) | exact HB.out)))); rintro e w9 ⟨v353, rfl, ho0, hb⟩; refine ⟨_, rfl, ?_⟩; have n0_ := Aside0.mk (Kd.V_lower (Kd.V_mono (ok' := fun k_ => True) ho0 (fun k_ hk_ => trivial)) (below_size (by repeat (first | (with_reducible first | exact HB.out | apply below_alloc | apply pw_below_drewN | apply below_drew1) | exact HB.out)))); have n1_ := Aside0.mk (below_step (by repeat (first | (with_reducible first | exact HB.out | apply below_alloc | apply pw_below_drewN | apply below_drew1) | exact HB.out)) hb); clear HB; have HO354 := n0_; have HB := n1_; clear n0_ n1_; (try clear hb); (try clear hb2); (try clear hk); (try clear hi); (try clear ho0); obtain ⟨Ao10, co10, eo10⟩ := Kd.V_slice HO354.out; subst eo10) | ((with_reducible refine gate_callee (f := 11) rfl ?_); refine goesL_ (some 24) rfl rfl Tryd.func11 (by kernel_rfl) rfl #[.slice Ao10 t352.length co10, .int .i64 (Int.tmod (wrap64 (a1)) (wrap64 ((t352.length : Int) + 1)))] rfl (by (try simp only [List.map_toArray, List.map_cons, List.map_nil]); first | done | rfl | (simp only [List.length_drop, List.length_take]; rfl)) ?_; (with_reducible refine (token_Next.calls k _ _ t352 (Int.tmod (wrap64 (a1)) (wrap64 ((t352.length : Int) + 1))) t355 t356 t357 t358 t359 t360 _ ?side1 ?side2 ?side3 A6.out).mono ?_); (case side1 => exact Gl.below HG.out (by repeat (first | (with_reducible first | exact HB.out | apply below_alloc | apply pw_below_drewN | apply below_drew1) | exact HB.out))); (case side2 => repeat (first | exact (Kd.V_reads' HO354.out).2.2 | (with_reducible refine Kd.C_alloc ?_ _) | (with_reducible refine Kd.C_drewN ?_ _) | (with_reducible refine Kd.C_drew ?_))); (case side3 => exact (Kd.V_reads' HO354.out).2.1); rintro e w11 ⟨rfl, hb⟩; refine ⟨_, rfl, ?_⟩; have n0_ := Aside0.mk (Kd.V_below (by (with_reducible repeat (first | apply Kd.V_alloc | apply Kd.V_drewN | apply Kd.V_drew)); exact HO354.out) hb); have n1_ := Aside0.mk (below_step (by repeat (first | (with_reducible first | exact HB.out | apply below_alloc | apply pw_below_drewN | apply below_drew1) | exact HB.out)) hb); clear HO354; clear HB; have HO354 := n0_; have HB := n1_; clear n0_ n1_; (try clear hb); (try clear hb2); (try clear hk); (try clear hi)) | ((with_reducible refine gate_dst (N := 7) rfl ?_); (try (refine gate_guard (by rfl) ?_; dsimp only)); refine box_event ?hg (N := 7) ?hd (cs := #[.int .i64 0, .int .i64 0, .int .i64 0, .string (⟨#[]⟩ : ByteArray), .int .i64 0]) (t := 27) ?hr ?_; (case hd => rfl); (case hg => rfl); (case hr => first | (go_simp; done) | (go_simp; rfl)); intro gb361 hg w12 hbox hb; have n0_ := Aside0.mk (Kd.V_below (Kd.V_elderB (by (with_reducible repeat (first | apply Kd.V_alloc | apply Kd.V_drewN | apply Kd.V_drew)); exact HO354.out) gb361 (Nat.le_of_eq hg.symm)) hb); have n1_ := Aside0.mk (below_step (by repeat (first | (with_reducible first | exact HB.out | apply below_alloc | apply pw_below_drewN | apply below_drew1) | exact HB.out)) hb); have n2_ := Aside0.mk (hbox); have n3_ := Aside0.mk ((by rw [hg]; exact (below_size (by repeat (first | (with_reducible first | exact HB.out | apply below_alloc | apply pw_below_drewN | apply below_drew1) | exact HB.out))) : w.heap.size ≤ gb361)); have n4_ := Aside0.mk ((by rw [hg]; exact (below_size (by repeat (first | (with_reducible first | exact HB.out | apply below_alloc | apply pw_below_drewN | apply below_drew1) | exact HB.out))) : w.heap.size ≤ gb361)); clear HO354; clear HB; have HO354 := n0_; have HB := n1_; have BK361 := n2_; have GW361 := n3_; have GE361 := n4_; clear n0_ n1_ n2_ n3_ n4_; clear hb hbox hg; have hcz13_0 : w12.cell? ⟨gb361, 0, none⟩ = some (.int .i64 0) := (blk_cell BK361.out 0).trans rfl; have hcz13_1 : w12.cell? ⟨gb361, 1, none⟩ = some (.int .i64 0) := (blk_cell BK361.out 1).trans rfl; have hcz13_2 : w12.cell? ⟨gb361, 2, none⟩ = some (.int .i64 0) := (blk_cell BK361.out 2).trans rfl; have hcz13_3 : w12.cell? ⟨gb361, 3, none⟩ = some (.string (⟨#[]⟩ : ByteArray)) := (blk_cell BK361.out 3).trans rfl; have hcz13_4 : w12.cell? ⟨gb361, 4, none⟩ = some (.int .i64 0) := (blk_cell BK361.out 4).trans rfl; have hfz13_0 := blk_frozen BK361.out 0; have hfz13_1 := blk_frozen BK361.out 1; have hfz13_2 := blk_frozen BK361.out 2; have hfz13_3 := blk_frozen BK361.out 3; have hfz13_4 := blk_frozen BK361.out 4))
  (try simp only [Act.put, List.setIfInBounds_toArray, List.set_cons_zero, List.set_cons_succ])
  go_cut [47] (fun v47 wc => ∃ (kq : Nat) (x47_6 : Bool), v47 = .bool x47_6 ∧ Aside0 (tmesislaw06_TokenRuns.j0 kq t351 t352 t360 x47_6 t355 t356 t357 t358 t359 = some r) ∧ Aside0 (kq ≤ k) ∧ Aside0 (Kd.V (Kd.int .u8) 5 wc w.heap.size (fun k_ => k_ ≠ gb361) (.slice Ao10 t352.length co10) t352) ∧ Aside0 (wc.heap[gb361]? = some (.cells #[.int .i64 t355, .int .i64 t356, .int .i64 t357, .string t358, .int .i64 t359] 27 (0, 0))) ∧ Aside0 (Below w.heap.size w wc))
  case first =>
   have H := HC7.out
   clear HC7
   by_cases c14 : t360 = true
   ·subst c14
    have H1 : (if t356 < 0 then (tmesislaw06_TokenRuns.j0 k t351 t352 true true t355 t356 t357 t358 t359) else (if t357 > (t352.length : Int) then (tmesislaw06_TokenRuns.j0 k t351 t352 true true t355 t356 t357 t358 t359) else (tmesislaw06_TokenRuns.j0 k t351 t352 true (decide (t356 ≥ t357)) t355 t356 t357 t358 t359))) = some r := by rw [if_pos rfl] at H; exact H
    clear H
    have H := H1
    clear H1
    by_cases c15 : t356 < 0
    ·rw [if_pos c15] at H
     have c15b0 : decide (t356 < 0) = true := decide_eq_true c15
     clear c15
     (first | rw [c15b0] | (simp only [i64_w, i32_w]; rw [c15b0]) | skip)
     as_aux_lemma =>
      have H' := Aside0.mk H
      clear H
      have hcz16_0 : w12.cell? ⟨gb361, 0, none⟩ = some (.int .i64 0) := (blk_cell BK361.out 0).trans rfl
      have hcz16_1 : w12.cell? ⟨gb361, 1, none⟩ = some (.int .i64 0) := (blk_cell BK361.out 1).trans rfl
      have hcz16_2 : w12.cell? ⟨gb361, 2, none⟩ = some (.int .i64 0) := (blk_cell BK361.out 2).trans rfl
      have hcz16_3 : w12.cell? ⟨gb361, 3, none⟩ = some (.string (⟨#[]⟩ : ByteArray)) := (blk_cell BK361.out 3).trans rfl
      have hcz16_4 : w12.cell? ⟨gb361, 4, none⟩ = some (.int .i64 0) := (blk_cell BK361.out 4).trans rfl
      have hfz16_0 := blk_frozen BK361.out 0
      have hfz16_1 := blk_frozen BK361.out 1
      have hfz16_2 := blk_frozen BK361.out 2
      have hfz16_3 := blk_frozen BK361.out 3
      have hfz16_4 := blk_frozen BK361.out 4
      go_wp2
      go_meet
      case rel => exact ⟨_, (true), (by first | rfl | (simp; done) | (simp [*]; done)), H', ⟨by first | omega | exact Nat.le_refl _⟩, ⟨by (with_reducible repeat (first | apply Kd.V_alloc | apply Kd.V_drewN | apply Kd.V_drew)); exact Kd.V_mono (Kd.V_far (p := ⟨gb361, 4, none⟩) (Kd.V_far (p := ⟨gb361, 3, none⟩) (Kd.V_far (p := ⟨gb361, 2, none⟩) (Kd.V_far (p := ⟨gb361, 1, none⟩) (Kd.V_far (p := ⟨gb361, 0, none⟩) (Kd.V_mono HO354.out (fun k_ hk => (⟨hk, hk.2⟩ : _ ∧ k_ ≠ gb361))) (fun _ hk => hk.2) (.int .i64 t355)) (fun _ hk => hk.2) (.int .i64 t356)) (fun _ hk => hk.2) (.int .i64 t357)) (fun _ hk => hk.2) (.string t358)) (fun _ hk => hk.2) (.int .i64 t359)) (fun _ hk => hk.1.2)⟩, ⟨by (with_reducible repeat (first | refine blk_drewN ?_ _ | refine blk_drew ?_ | refine blk_alloc ?_ _)); refine blk_put (cs := #[.int .i64 t355, .int .i64 t356, .int .i64 t357, .string t358, .int .i64 0]) ?_ 4 _ rfl; (with_reducible repeat (first | refine blk_drewN ?_ _ | refine blk_drew ?_ | refine blk_alloc ?_ _)); refine blk_put (cs := #[.int .i64 t355, .int .i64 t356, .int .i64 t357, .string (⟨#[]⟩ : ByteArray), .int .i64 0]) ?_ 3 _ rfl; (with_reducible repeat (first | refine blk_drewN ?_ _ | refine blk_drew ?_ | refine blk_alloc ?_ _)); refine blk_put (cs := #[.int .i64 t355, .int .i64 t356, .int .i64 0, .string (⟨#[]⟩ : ByteArray), .int .i64 0]) ?_ 2 _ rfl; (with_reducible repeat (first | refine blk_drewN ?_ _ | refine blk_drew ?_ | refine blk_alloc ?_ _)); refine blk_put (cs := #[.int .i64 t355, .int .i64 0, .int .i64 0, .string (⟨#[]⟩ : ByteArray), .int .i64 0]) ?_ 1 _ rfl; (with_reducible repeat (first | refine blk_drewN ?_ _ | refine blk_drew ?_ | refine blk_alloc ?_ _)); refine blk_put (cs := #[.int .i64 0, .int .i64 0, .int .i64 0, .string (⟨#[]⟩ : ByteArray), .int .i64 0]) ?_ 0 _ rfl; (with_reducible repeat (first | refine blk_drewN ?_ _ | refine blk_drew ?_ | refine blk_alloc ?_ _)); exact BK361.out⟩, ⟨by repeat (first | (with_reducible first | exact HB.out | apply below_alloc | apply pw_below_drewN | apply below_drew1 | refine below_set ?_ GE361.out) | exact HB.out)⟩⟩
    ·rw [if_neg c15] at H
     have c15b0 : decide (t356 < 0) = false := decide_eq_false c15
     clear c15
     (first | rw [c15b0] | (simp only [i64_w, i32_w]; rw [c15b0]) | skip)
     by_cases c17 : t357 > (t352.length : Int)
     ·rw [if_pos c17] at H
      have c17b0 : decide ((t352.length : Int) < t357) = true := decide_eq_true c17
      clear c17
      as_aux_lemma =>
       have H' := Aside0.mk H
       clear H
       have hcz18_0 : w12.cell? ⟨gb361, 0, none⟩ = some (.int .i64 0) := (blk_cell BK361.out 0).trans rfl
       have hcz18_1 : w12.cell? ⟨gb361, 1, none⟩ = some (.int .i64 0) := (blk_cell BK361.out 1).trans rfl
       have hcz18_2 : w12.cell? ⟨gb361, 2, none⟩ = some (.int .i64 0) := (blk_cell BK361.out 2).trans rfl
       have hcz18_3 : w12.cell? ⟨gb361, 3, none⟩ = some (.string (⟨#[]⟩ : ByteArray)) := (blk_cell BK361.out 3).trans rfl
       have hcz18_4 : w12.cell? ⟨gb361, 4, none⟩ = some (.int .i64 0) := (blk_cell BK361.out 4).trans rfl
       have hfz18_0 := blk_frozen BK361.out 0
       have hfz18_1 := blk_frozen BK361.out 1
       have hfz18_2 := blk_frozen BK361.out 2
       have hfz18_3 := blk_frozen BK361.out 3
       have hfz18_4 := blk_frozen BK361.out 4
       go_wp2
       go_meet
       case rel => exact ⟨_, (true), (by first | rfl | (simp; done) | (simp [*]; done)), H', ⟨by first | omega | exact Nat.le_refl _⟩, ⟨by (with_reducible repeat (first | apply Kd.V_alloc | apply Kd.V_drewN | apply Kd.V_drew)); exact Kd.V_mono (Kd.V_far (p := ⟨gb361, 4, none⟩) (Kd.V_far (p := ⟨gb361, 3, none⟩) (Kd.V_far (p := ⟨gb361, 2, none⟩) (Kd.V_far (p := ⟨gb361, 1, none⟩) (Kd.V_far (p := ⟨gb361, 0, none⟩) (Kd.V_mono HO354.out (fun k_ hk => (⟨hk, hk.2⟩ : _ ∧ k_ ≠ gb361))) (fun _ hk => hk.2) (.int .i64 t355)) (fun _ hk => hk.2) (.int .i64 t356)) (fun _ hk => hk.2) (.int .i64 t357)) (fun _ hk => hk.2) (.string t358)) (fun _ hk => hk.2) (.int .i64 t359)) (fun _ hk => hk.1.2)⟩, ⟨by (with_reducible repeat (first | refine blk_drewN ?_ _ | refine blk_drew ?_ | refine blk_alloc ?_ _)); refine blk_put (cs := #[.int .i64 t355, .int .i64 t356, .int .i64 t357, .string t358, .int .i64 0]) ?_ 4 _ rfl; (with_reducible repeat (first | refine blk_drewN ?_ _ | refine blk_drew ?_ | refine blk_alloc ?_ _)); refine blk_put (cs := #[.int .i64 t355, .int .i64 t356, .int .i64 t357, .string (⟨#[]⟩ : ByteArray), .int .i64 0]) ?_ 3 _ rfl; (with_reducible repeat (first | refine blk_drewN ?_ _ | refine blk_drew ?_ | refine blk_alloc ?_ _)); refine blk_put (cs := #[.int .i64 t355, .int .i64 t356, .int .i64 0, .string (⟨#[]⟩ : ByteArray), .int .i64 0]) ?_ 2 _ rfl; (with_reducible repeat (first | refine blk_drewN ?_ _ | refine blk_drew ?_ | refine blk_alloc ?_ _)); refine blk_put (cs := #[.int .i64 t355, .int .i64 0, .int .i64 0, .string (⟨#[]⟩ : ByteArray), .int .i64 0]) ?_ 1 _ rfl; (with_reducible repeat (first | refine blk_drewN ?_ _ | refine blk_drew ?_ | refine blk_alloc ?_ _)); refine blk_put (cs := #[.int .i64 0, .int .i64 0, .int .i64 0, .string (⟨#[]⟩ : ByteArray), .int .i64 0]) ?_ 0 _ rfl; (with_reducible repeat (first | refine blk_drewN ?_ _ | refine blk_drew ?_ | refine blk_alloc ?_ _)); exact BK361.out⟩, ⟨by repeat (first | (with_reducible first | exact HB.out | apply below_alloc | apply pw_below_drewN | apply below_drew1 | refine below_set ?_ GE361.out) | exact HB.out)⟩⟩
     ·rw [if_neg c17] at H
      have c17b0 : decide ((t352.length : Int) < t357) = false := decide_eq_false c17
      clear c17
      as_aux_lemma =>
       have H' := Aside0.mk H
       clear H
       have hcz19_0 : w12.cell? ⟨gb361, 0, none⟩ = some (.int .i64 0) := (blk_cell BK361.out 0).trans rfl
       have hcz19_1 : w12.cell? ⟨gb361, 1, none⟩ = some (.int .i64 0) := (blk_cell BK361.out 1).trans rfl
       have hcz19_2 : w12.cell? ⟨gb361, 2, none⟩ = some (.int .i64 0) := (blk_cell BK361.out 2).trans rfl
       have hcz19_3 : w12.cell? ⟨gb361, 3, none⟩ = some (.string (⟨#[]⟩ : ByteArray)) := (blk_cell BK361.out 3).trans rfl
       have hcz19_4 : w12.cell? ⟨gb361, 4, none⟩ = some (.int .i64 0) := (blk_cell BK361.out 4).trans rfl
       have hfz19_0 := blk_frozen BK361.out 0
       have hfz19_1 := blk_frozen BK361.out 1
       have hfz19_2 := blk_frozen BK361.out 2
       have hfz19_3 := blk_frozen BK361.out 3
       have hfz19_4 := blk_frozen BK361.out 4
       go_wp2
       go_meet
       case rel => exact ⟨_, (decide (t356 ≥ t357)), (by first | rfl | (simp; done) | (simp [*]; done)), H', ⟨by first | omega | exact Nat.le_refl _⟩, ⟨by (with_reducible repeat (first | apply Kd.V_alloc | apply Kd.V_drewN | apply Kd.V_drew)); exact Kd.V_mono (Kd.V_far (p := ⟨gb361, 4, none⟩) (Kd.V_far (p := ⟨gb361, 3, none⟩) (Kd.V_far (p := ⟨gb361, 2, none⟩) (Kd.V_far (p := ⟨gb361, 1, none⟩) (Kd.V_far (p := ⟨gb361, 0, none⟩) (Kd.V_mono HO354.out (fun k_ hk => (⟨hk, hk.2⟩ : _ ∧ k_ ≠ gb361))) (fun _ hk => hk.2) (.int .i64 t355)) (fun _ hk => hk.2) (.int .i64 t356)) (fun _ hk => hk.2) (.int .i64 t357)) (fun _ hk => hk.2) (.string t358)) (fun _ hk => hk.2) (.int .i64 t359)) (fun _ hk => hk.1.2)⟩, ⟨by (with_reducible repeat (first | refine blk_drewN ?_ _ | refine blk_drew ?_ | refine blk_alloc ?_ _)); refine blk_put (cs := #[.int .i64 t355, .int .i64 t356, .int .i64 t357, .string t358, .int .i64 0]) ?_ 4 _ rfl; (with_reducible repeat (first | refine blk_drewN ?_ _ | refine blk_drew ?_ | refine blk_alloc ?_ _)); refine blk_put (cs := #[.int .i64 t355, .int .i64 t356, .int .i64 t357, .string (⟨#[]⟩ : ByteArray), .int .i64 0]) ?_ 3 _ rfl; (with_reducible repeat (first | refine blk_drewN ?_ _ | refine blk_drew ?_ | refine blk_alloc ?_ _)); refine blk_put (cs := #[.int .i64 t355, .int .i64 t356, .int .i64 0, .string (⟨#[]⟩ : ByteArray), .int .i64 0]) ?_ 2 _ rfl; (with_reducible repeat (first | refine blk_drewN ?_ _ | refine blk_drew ?_ | refine blk_alloc ?_ _)); refine blk_put (cs := #[.int .i64 t355, .int .i64 0, .int .i64 0, .string (⟨#[]⟩ : ByteArray), .int .i64 0]) ?_ 1 _ rfl; (with_reducible repeat (first | refine blk_drewN ?_ _ | refine blk_drew ?_ | refine blk_alloc ?_ _)); refine blk_put (cs := #[.int .i64 0, .int .i64 0, .int .i64 0, .string (⟨#[]⟩ : ByteArray), .int .i64 0]) ?_ 0 _ rfl; (with_reducible repeat (first | refine blk_drewN ?_ _ | refine blk_drew ?_ | refine blk_alloc ?_ _)); exact BK361.out⟩, ⟨by repeat (first | (with_reducible first | exact HB.out | apply below_alloc | apply pw_below_drewN | apply below_drew1 | refine below_set ?_ GE361.out) | exact HB.out)⟩⟩
   ·replace c14 := Bool.eq_false_iff.mpr c14
    subst c14
    have H1 : (tmesislaw06_TokenRuns.j0 k t351 t352 false true t355 t356 t357 t358 t359) = some r := by rw [if_neg (show ¬ (false = true) by decide)] at H; exact H
    clear H
    have H := H1
    clear H1
    as_aux_lemma =>
     have H' := Aside0.mk H
     clear H
     go_wp2
     go_meet
     case rel => exact ⟨_, (true), (by first | rfl | (simp; done) | (simp [*]; done)), H', ⟨by first | omega | exact Nat.le_refl _⟩, ⟨by (with_reducible repeat (first | apply Kd.V_alloc | apply Kd.V_drewN | apply Kd.V_drew)); exact Kd.V_mono (Kd.V_far (p := ⟨gb361, 4, none⟩) (Kd.V_far (p := ⟨gb361, 3, none⟩) (Kd.V_far (p := ⟨gb361, 2, none⟩) (Kd.V_far (p := ⟨gb361, 1, none⟩) (Kd.V_far (p := ⟨gb361, 0, none⟩) (Kd.V_mono HO354.out (fun k_ hk => (⟨hk, hk.2⟩ : _ ∧ k_ ≠ gb361))) (fun _ hk => hk.2) (.int .i64 t355)) (fun _ hk => hk.2) (.int .i64 t356)) (fun _ hk => hk.2) (.int .i64 t357)) (fun _ hk => hk.2) (.string t358)) (fun _ hk => hk.2) (.int .i64 t359)) (fun _ hk => hk.1.2)⟩, ⟨by (with_reducible repeat (first | refine blk_drewN ?_ _ | refine blk_drew ?_ | refine blk_alloc ?_ _)); refine blk_put (cs := #[.int .i64 t355, .int .i64 t356, .int .i64 t357, .string t358, .int .i64 0]) ?_ 4 _ rfl; (with_reducible repeat (first | refine blk_drewN ?_ _ | refine blk_drew ?_ | refine blk_alloc ?_ _)); refine blk_put (cs := #[.int .i64 t355, .int .i64 t356, .int .i64 t357, .string (⟨#[]⟩ : ByteArray), .int .i64 0]) ?_ 3 _ rfl; (with_reducible repeat (first | refine blk_drewN ?_ _ | refine blk_drew ?_ | refine blk_alloc ?_ _)); refine blk_put (cs := #[.int .i64 t355, .int .i64 t356, .int .i64 0, .string (⟨#[]⟩ : ByteArray), .int .i64 0]) ?_ 2 _ rfl; (with_reducible repeat (first | refine blk_drewN ?_ _ | refine blk_drew ?_ | refine blk_alloc ?_ _)); refine blk_put (cs := #[.int .i64 t355, .int .i64 0, .int .i64 0, .string (⟨#[]⟩ : ByteArray), .int .i64 0]) ?_ 1 _ rfl; (with_reducible repeat (first | refine blk_drewN ?_ _ | refine blk_drew ?_ | refine blk_alloc ?_ _)); refine blk_put (cs := #[.int .i64 0, .int .i64 0, .int .i64 0, .string (⟨#[]⟩ : ByteArray), .int .i64 0]) ?_ 0 _ rfl; (with_reducible repeat (first | refine blk_drewN ?_ _ | refine blk_drew ?_ | refine blk_alloc ?_ _)); exact BK361.out⟩, ⟨by repeat (first | (with_reducible first | exact HB.out | apply below_alloc | apply pw_below_drewN | apply below_drew1 | refine below_set ?_ GE361.out) | exact HB.out)⟩⟩
  case rest =>
   as_aux_lemma =>
    clear HC7
    try clear c1
    try clear p2
    try clear c5
    try clear c5b0
    try clear c5b1
    try clear p6
    try clear c9
    try clear c10
    try clear c11
    try clear c14
    try clear c15
    try clear c15b0
    try clear c17
    try clear c17b0
    try clear hcz13_0
    try clear hcz13_1
    try clear hcz13_2
    try clear hcz13_3
    try clear hcz13_4
    try clear hcz16_0
    try clear hcz16_1
    try clear hcz16_2
    try clear hcz16_3
    try clear hcz16_4
    try clear hcz18_0
    try clear hcz18_1
    try clear hcz18_2
    try clear hcz18_3
    try clear hcz18_4
    try clear hcz19_0
    try clear hcz19_1
    try clear hcz19_2
    try clear hcz19_3
    try clear hcz19_4
    try clear hfz13_0
    try clear hfz13_1
    try clear hfz13_2
    try clear hfz13_3
    try clear hfz13_4
    try clear hfz16_0
    try clear hfz16_1
    try clear hfz16_2
    try clear hfz16_3
    try clear hfz16_4
    try clear hfz18_0
    try clear hfz18_1
    try clear hfz18_2
    try clear hfz18_3
    try clear hfz18_4
    try clear hfz19_0
    try clear hfz19_1
    try clear hfz19_2
    try clear hfz19_3
    try clear hfz19_4
    obtain ⟨kq, x47_6, rfl, HA, HJ6, HO_6, BK361, HB⟩ := hcut
    cases kq with
    | zero => exact absurd HA.out (by simp [tmesislaw06_TokenRuns.j0])
    | succ kj6 =>
     have H := HA.out
     clear HA
     simp only [tmesislaw06_TokenRuns.j0] at H
     by_cases c20 : x47_6 = true
     ·subst c20
      have H1 : (if t351 = true then (some (!t360)) else (some false)) = some r := by rw [if_pos rfl] at H; exact H
      clear H
      have H := H1
      clear H1
      by_cases c21 : t351 = true
      ·subst c21
       have H1 : (some (!t360)) = some r := by rw [if_pos rfl] at H; exact H
       clear H
       have H := H1
       clear H1
       as_aux_lemma =>
        obtain rfl := Option.some.inj H
        go_wp2
        go_ret
        exact ⟨by first | rfl | (simp [errW_none, errW_some] <;> rfl) | (simp [*, errW_none, errW_some] <;> rfl), by repeat (first | (with_reducible first | exact HB.out | apply below_alloc | apply pw_below_drewN | apply below_drew1 | refine below_set ?_ GE361.out) | exact HB.out)⟩
      ·replace c21 := Bool.eq_false_iff.mpr c21
       subst c21
       have H1 : (some false) = some r := by rw [if_neg (show ¬ (false = true) by decide)] at H; exact H
       clear H
       have H := H1
       clear H1
       as_aux_lemma =>
        obtain rfl := Option.some.inj H
        go_wp2
        go_ret
        exact ⟨by first | rfl | (simp [errW_none, errW_some] <;> rfl) | (simp [*, errW_none, errW_some] <;> rfl), by repeat (first | (with_reducible first | exact HB.out | apply below_alloc | apply pw_below_drewN | apply below_drew1 | refine below_set ?_ GE361.out) | exact HB.out)⟩
     ·replace c20 := Bool.eq_false_iff.mpr c20
      subst c20
      have H1 : (if 0 ≤ t356 then (if t356 < (t352.length : Int) then ((class_Of.f (rd t352 t356)).bind fun t363 => (if t357 < (t352.length : Int) then (if 0 ≤ t357 then ((class_Of.f (rd t352 t357)).bind fun t365 => (tmesislaw06_TokenRuns.j1 kj6 t351 t352 t363 t365 t355 t356 t357 t358 t359)) else (none)) else (tmesislaw06_TokenRuns.j1 kj6 t351 t352 t363 (-1) t355 t356 t357 t358 t359))) else (none)) else (none)) = some r := by rw [if_neg (show ¬ (false = true) by decide)] at H; exact H
      clear H
      have H := H1
      clear H1
      by_cases c22 : 0 ≤ t356
      ·rw [if_pos c22] at H
       have c22b0 : decide (0 ≤ t356) = true := decide_eq_true c22
       clear c22
       by_cases c23 : t356 < (t352.length : Int)
       ·rw [if_pos c23] at H
        have c23b0 : decide (t356 < (t352.length : Int)) = true := decide_eq_true c23
        clear c23
        replace H := Option.bind_eq_some_iff.mp H
        obtain ⟨t363, A240, H⟩ := H
        replace H : (if t357 < (t352.length : Int) then (if 0 ≤ t357 then ((class_Of.f (rd t352 t357)).bind fun t365 => (tmesislaw06_TokenRuns.j1 kj6 t351 t352 t363 t365 t355 t356 t357 t358 t359)) else (none)) else (tmesislaw06_TokenRuns.j1 kj6 t351 t352 t363 (-1) t355 t356 t357 t358 t359)) = some r := H
        have A24 := Aside0.mk A240
        clear A240
        have HC25 := Aside0.mk H
        clear H
        have hcz26_0 : wc.cell? ⟨gb361, 0, none⟩ = some (.int .i64 t355) := (blk_cell BK361.out 0).trans rfl
        have hcz26_1 : wc.cell? ⟨gb361, 1, none⟩ = some (.int .i64 t356) := (blk_cell BK361.out 1).trans rfl
        have hcz26_2 : wc.cell? ⟨gb361, 2, none⟩ = some (.int .i64 t357) := (blk_cell BK361.out 2).trans rfl
        have hcz26_3 : wc.cell? ⟨gb361, 3, none⟩ = some (.string t358) := (blk_cell BK361.out 3).trans rfl
        have hcz26_4 : wc.cell? ⟨gb361, 4, none⟩ = some (.int .i64 t359) := (blk_cell BK361.out 4).trans rfl
        have hfz26_0 := blk_frozen BK361.out 0
        have hfz26_1 := blk_frozen BK361.out 1
        have hfz26_2 := blk_frozen BK361.out 2
        have hfz26_3 := blk_frozen BK361.out 3
        have hfz26_4 := blk_frozen BK361.out 4
        have p362 : 0 ≤ (t356 : Int) := of_decide_eq_true (by first | (with_reducible assumption) | assumption)
        have q362 : t356 < (t352.length : Int) := of_decide_eq_true (by first | (with_reducible assumption) | assumption)
        obtain ⟨ad362, e362, hx362_0⟩ := Kd.at_int (Kd.V_reads' HO_6.out).2.2 t356 p362 q362
        cases e362
        replace p362 := eq_true p362
        replace q362 := eq_true q362
        go_upto_if 63 with (first | ((with_reducible refine gate_callee (f := 14) rfl ?_); refine goesL_ (some 58) rfl rfl Tryd.func14 (by kernel_rfl) rfl #[.int .u8 (rd t352 t356)] rfl (by (try simp only [List.map_toArray, List.map_cons, List.map_nil]); first | done | rfl | (simp only [List.length_drop, List.length_take]; rfl)) ?_; (with_reducible refine (class_Of.calls (rd t352 t356) t363 _ ?side1 A24.out).mono ?_); (case side1 => exact Gl.below HG.out (by repeat (first | (with_reducible first | exact HB.out | apply below_alloc | apply pw_below_drewN | apply below_drew1 | refine below_set ?_ GE361.out) | exact HB.out))); rintro e w27 ⟨rfl, hb⟩; refine ⟨_, rfl, ?_⟩; have n0_ := Aside0.mk (Kd.V_below (by (with_reducible repeat (first | apply Kd.V_alloc | apply Kd.V_drewN | apply Kd.V_drew)); exact HO_6.out) hb); have n1_ := Aside0.mk (blk_below (g := gb361) (o := .cells #[.int .i64 t355, .int .i64 t356, .int .i64 t357, .string t358, .int .i64 t359] 27 (0, 0)) (by (with_reducible repeat (first | refine blk_drewN ?_ _ | refine blk_drew ?_ | refine blk_alloc ?_ _)); exact BK361.out) hb); have n2_ := Aside0.mk (below_step (by repeat (first | (with_reducible first | exact HB.out | apply below_alloc | apply pw_below_drewN | apply below_drew1 | refine below_set ?_ GE361.out) | exact HB.out)) hb); clear HO_6; clear BK361; clear HB; have HO_6 := n0_; have BK361 := n1_; have HB := n2_; clear n0_ n1_ n2_; (try clear hb); (try clear hb2); (try clear hk); (try clear hi); have hcz28_0 : w27.cell? ⟨gb361, 0, none⟩ = some (.int .i64 t355) := (blk_cell BK361.out 0).trans rfl; have hcz28_1 : w27.cell? ⟨gb361, 1, none⟩ = some (.int .i64 t356) := (blk_cell BK361.out 1).trans rfl; have hcz28_2 : w27.cell? ⟨gb361, 2, none⟩ = some (.int .i64 t357) := (blk_cell BK361.out 2).trans rfl; have hcz28_3 : w27.cell? ⟨gb361, 3, none⟩ = some (.string t358) := (blk_cell BK361.out 3).trans rfl; have hcz28_4 : w27.cell? ⟨gb361, 4, none⟩ = some (.int .i64 t359) := (blk_cell BK361.out 4).trans rfl; have hfz28_0 := blk_frozen BK361.out 0; have hfz28_1 := blk_frozen BK361.out 1; have hfz28_2 := blk_frozen BK361.out 2; have hfz28_3 := blk_frozen BK361.out 3; have hfz28_4 := blk_frozen BK361.out 4))
        (try simp only [Act.put, List.setIfInBounds_toArray, List.set_cons_zero, List.set_cons_succ])
        go_cut [10] (fun v10 wc => ∃ (kq : Nat) (x10_24 : Int), v10 = .int .i64 x10_24 ∧ Aside0 (tmesislaw06_TokenRuns.j1 kq t351 t352 t363 x10_24 t355 t356 t357 t358 t359 = some r) ∧ Aside0 (kq ≤ kj6) ∧ Aside0 (Kd.V (Kd.int .u8) 5 wc w.heap.size (fun k_ => k_ ≠ gb361) (.slice (some ad362) t352.length co10) t352) ∧ Aside0 (wc.heap[gb361]? = some (.cells #[.int .i64 t355, .int .i64 t356, .int .i64 t357, .string t358, .int .i64 t359] 27 (0, 0))) ∧ Aside0 (Below w.heap.size w wc))
        case first =>
         have H := HC25.out
         clear HC25
         by_cases c29 : t357 < (t352.length : Int)
         ·rw [if_pos c29] at H
          have c29b0 : decide (t357 < (t352.length : Int)) = true := decide_eq_true c29
          clear c29
          (first | rw [c29b0] | (simp only [i64_w, i32_w]; rw [c29b0]) | skip)
          by_cases c30 : 0 ≤ t357
          ·rw [if_pos c30] at H
           have c30b0 : decide (0 ≤ t357) = true := decide_eq_true c30
           clear c30
           replace H := Option.bind_eq_some_iff.mp H
           obtain ⟨t365, A310, H⟩ := H
           replace H : (tmesislaw06_TokenRuns.j1 kj6 t351 t352 t363 t365 t355 t356 t357 t358 t359) = some r := H
           have A31 := Aside0.mk A310
           clear A310
           as_aux_lemma =>
            have H' := Aside0.mk H
            clear H
            have hcz32_0 : w27.cell? ⟨gb361, 0, none⟩ = some (.int .i64 t355) := (blk_cell BK361.out 0).trans rfl
            have hcz32_1 : w27.cell? ⟨gb361, 1, none⟩ = some (.int .i64 t356) := (blk_cell BK361.out 1).trans rfl
            have hcz32_2 : w27.cell? ⟨gb361, 2, none⟩ = some (.int .i64 t357) := (blk_cell BK361.out 2).trans rfl
            have hcz32_3 : w27.cell? ⟨gb361, 3, none⟩ = some (.string t358) := (blk_cell BK361.out 3).trans rfl
            have hcz32_4 : w27.cell? ⟨gb361, 4, none⟩ = some (.int .i64 t359) := (blk_cell BK361.out 4).trans rfl
            have hfz32_0 := blk_frozen BK361.out 0
            have hfz32_1 := blk_frozen BK361.out 1
            have hfz32_2 := blk_frozen BK361.out 2
            have hfz32_3 := blk_frozen BK361.out 3
            have hfz32_4 := blk_frozen BK361.out 4
            have p364 : 0 ≤ (t357 : Int) := of_decide_eq_true (by first | (with_reducible assumption) | assumption)
            have q364 : t357 < (t352.length : Int) := of_decide_eq_true (by first | (with_reducible assumption) | assumption)
            obtain ⟨ad364, e364, hx364_0⟩ := Kd.at_int (Kd.V_reads' HO_6.out).2.2 t357 p364 q364
            obtain rfl : ad362 = ad364 := (by injection e364)
            replace p364 := eq_true p364
            replace q364 := eq_true q364
            go_wp2_with (first | ((with_reducible refine gate_callee (f := 14) rfl ?_); refine goesL_ (some 69) rfl rfl Tryd.func14 (by kernel_rfl) rfl #[.int .u8 (rd t352 t357)] rfl (by (try simp only [List.map_toArray, List.map_cons, List.map_nil]); first | done | rfl | (simp only [List.length_drop, List.length_take]; rfl)) ?_; (with_reducible refine (class_Of.calls (rd t352 t357) t365 _ ?side1 A31.out).mono ?_); (case side1 => exact Gl.below HG.out (by repeat (first | (with_reducible first | exact HB.out | apply below_alloc | apply pw_below_drewN | apply below_drew1 | refine below_set ?_ GE361.out) | exact HB.out))); rintro e w33 ⟨rfl, hb⟩; refine ⟨_, rfl, ?_⟩; have n0_ := Aside0.mk (Kd.V_below (by (with_reducible repeat (first | apply Kd.V_alloc | apply Kd.V_drewN | apply Kd.V_drew)); exact HO_6.out) hb); have n1_ := Aside0.mk (blk_below (g := gb361) (o := .cells #[.int .i64 t355, .int .i64 t356, .int .i64 t357, .string t358, .int .i64 t359] 27 (0, 0)) (by (with_reducible repeat (first | refine blk_drewN ?_ _ | refine blk_drew ?_ | refine blk_alloc ?_ _)); exact BK361.out) hb); have n2_ := Aside0.mk (below_step (by repeat (first | (with_reducible first | exact HB.out | apply below_alloc | apply pw_below_drewN | apply below_drew1 | refine below_set ?_ GE361.out) | exact HB.out)) hb); clear HO_6; clear BK361; clear HB; have HO_6 := n0_; have BK361 := n1_; have HB := n2_; clear n0_ n1_ n2_; (try clear hb); (try clear hb2); (try clear hk); (try clear hi)))
            go_meet
            case rel => exact ⟨_, (t365), (by first | rfl | (simp; done) | (simp [*]; done)), H', ⟨by have := HJ6.out; first | omega | exact Nat.le_refl _⟩, ⟨by (with_reducible repeat (first | apply Kd.V_alloc | apply Kd.V_drewN | apply Kd.V_drew)); exact HO_6.out⟩, ⟨by (with_reducible repeat (first | refine blk_drewN ?_ _ | refine blk_drew ?_ | refine blk_alloc ?_ _)); exact BK361.out⟩, ⟨by repeat (first | (with_reducible first | exact HB.out | apply below_alloc | apply pw_below_drewN | apply below_drew1 | refine below_set ?_ GE361.out) | exact HB.out)⟩⟩
          ·rw [if_neg c30] at H
           exact absurd H (by simp)
         ·rw [if_neg c29] at H
          have c29b0 : decide (t357 < (t352.length : Int)) = false := decide_eq_false c29
          clear c29
          (first | rw [c29b0] | (simp only [i64_w, i32_w]; rw [c29b0]) | skip)
          as_aux_lemma =>
           have H' := Aside0.mk H
           clear H
           go_wp2
           go_meet
           case rel => exact ⟨_, ((-1)), (by first | rfl | (simp; done) | (simp [*]; done)), H', ⟨by have := HJ6.out; first | omega | exact Nat.le_refl _⟩, ⟨by (with_reducible repeat (first | apply Kd.V_alloc | apply Kd.V_drewN | apply Kd.V_drew)); exact HO_6.out⟩, ⟨by (with_reducible repeat (first | refine blk_drewN ?_ _ | refine blk_drew ?_ | refine blk_alloc ?_ _)); exact BK361.out⟩, ⟨by repeat (first | (with_reducible first | exact HB.out | apply below_alloc | apply pw_below_drewN | apply below_drew1 | refine below_set ?_ GE361.out) | exact HB.out)⟩⟩
        case rest =>
         as_aux_lemma =>
          clear HC25
          try clear c1
          try clear c2
          try clear p2
          try clear c3
          try clear p3
          try clear q3
          try clear hx3
          try clear c5
          try clear c5b0
          try clear c5b1
          try clear p6
          try clear c9
          try clear c10
          try clear c11
          try clear c14
          try clear c15
          try clear c15b0
          try clear c17
          try clear c17b0
          try clear c20
          try clear c21
          try clear c22
          try clear c22b0
          try clear c23
          try clear c23b0
          try clear c29
          try clear c29b0
          try clear c30
          try clear c30b0
          try clear hcz13_0
          try clear hcz13_1
          try clear hcz13_2
          try clear hcz13_3
          try clear hcz13_4
          try clear hcz16_0
          try clear hcz16_1
          try clear hcz16_2
          try clear hcz16_3
          try clear hcz16_4
          try clear hcz18_0
          try clear hcz18_1
          try clear hcz18_2
          try clear hcz18_3
          try clear hcz18_4
          try clear hcz19_0
          try clear hcz19_1
          try clear hcz19_2
          try clear hcz19_3
          try clear hcz19_4
          try clear hcz26_0
          try clear hcz26_1
          try clear hcz26_2
          try clear hcz26_3
          try clear hcz26_4
          try clear hcz28_0
          try clear hcz28_1
          try clear hcz28_2
          try clear hcz28_3
          try clear hcz28_4
          try clear hcz32_0
          try clear hcz32_1
          try clear hcz32_2
          try clear hcz32_3
          try clear hcz32_4
          try clear hfz13_0
          try clear hfz13_1
          try clear hfz13_2
          try clear hfz13_3
          try clear hfz13_4
          try clear hfz16_0
          try clear hfz16_1
          try clear hfz16_2
          try clear hfz16_3
          try clear hfz16_4
          try clear hfz18_0
          try clear hfz18_1
          try clear hfz18_2
          try clear hfz18_3
          try clear hfz18_4
          try clear hfz19_0
          try clear hfz19_1
          try clear hfz19_2
          try clear hfz19_3
          try clear hfz19_4
          try clear hfz26_0
          try clear hfz26_1
          try clear hfz26_2
          try clear hfz26_3
          try clear hfz26_4
          try clear hfz28_0
          try clear hfz28_1
          try clear hfz28_2
          try clear hfz28_3
          try clear hfz28_4
          try clear hfz32_0
          try clear hfz32_1
          try clear hfz32_2
          try clear hfz32_3
          try clear hfz32_4
          try clear hx362_0
          try clear hx364_0
          try clear p2
          try clear p362
          try clear p364
          try clear p6
          try clear q362
          try clear q364
          obtain ⟨kq, x10_24, rfl, HA, HJ24, HO_6, BK361, HB⟩ := hcut
          cases kq with
          | zero => exact absurd HA.out (by simp [tmesislaw06_TokenRuns.j1])
          | succ kj24 =>
           have H := HA.out
           clear HA
           simp only [tmesislaw06_TokenRuns.j1] at H
           have HC34 := Aside0.mk H
           clear H
           go_upto_region 10 with (fail)
           go_cut [11] (fun v11 wc => ∃ (kq : Nat) (x11_33 : Bool), v11 = .bool x11_33 ∧ Aside0 (tmesislaw06_TokenRuns.j2 kq t351 t352 t363 x10_24 x11_33 t355 t356 t357 t358 t359 = some r) ∧ Aside0 (kq ≤ kj24) ∧ Aside0 (Kd.V (Kd.int .u8) 5 wc w.heap.size (fun k_ => k_ ≠ gb361) (.slice (some ad362) t352.length co10) t352) ∧ Aside0 (wc.heap[gb361]? = some (.cells #[.int .i64 t355, .int .i64 t356, .int .i64 t357, .string t358, .int .i64 t359] 27 (0, 0))) ∧ Aside0 (Below w.heap.size w wc))
           case first =>
            have H := HC34.out
            clear HC34
            by_cases c35 : x10_24 = 2
            ·rw [if_pos c35] at H
             have c35b0 : (x10_24 == 2) = true := beq_iff_eq.mpr c35
             have c35b1 : (x10_24 != 2) = false := bne_eq_false_iff_eq.mpr c35
             clear c35
             (first | rw [c35b0] | (simp only [i64_w, i32_w]; rw [c35b0]) | skip)
             as_aux_lemma =>
              have H' := Aside0.mk H
              clear H
              go_wp2
              go_meet
              case rel => exact ⟨_, (true), (by first | rfl | (simp; done) | (simp [*]; done)), H', ⟨by have := HJ6.out; have := HJ24.out; first | omega | exact Nat.le_refl _⟩, ⟨by (with_reducible repeat (first | apply Kd.V_alloc | apply Kd.V_drewN | apply Kd.V_drew)); exact HO_6.out⟩, ⟨by (with_reducible repeat (first | refine blk_drewN ?_ _ | refine blk_drew ?_ | refine blk_alloc ?_ _)); exact BK361.out⟩, ⟨by repeat (first | (with_reducible first | exact HB.out | apply below_alloc | apply pw_below_drewN | apply below_drew1 | refine below_set ?_ GE361.out) | exact HB.out)⟩⟩
            ·rw [if_neg c35] at H
             have c35b0 : (x10_24 == 2) = false := beq_eq_false_iff_ne.mpr c35
             have c35b1 : (x10_24 != 2) = true := bne_iff_ne.mpr c35
             (first | rw [c35b0] | (simp only [i64_w, i32_w]; rw [c35b0]) | skip)
             by_cases c36 : x10_24 = 3
             ·rw [if_pos c36] at H
              have c36b0 : (x10_24 == 3) = true := beq_iff_eq.mpr c36
              have c36b1 : (x10_24 != 3) = false := bne_eq_false_iff_eq.mpr c36
              clear c36
              as_aux_lemma =>
               have H' := Aside0.mk H
               clear H
               go_wp2
               go_meet
               case rel => exact ⟨_, (true), (by first | rfl | (simp; done) | (simp [*]; done)), H', ⟨by have := HJ6.out; have := HJ24.out; first | omega | exact Nat.le_refl _⟩, ⟨by (with_reducible repeat (first | apply Kd.V_alloc | apply Kd.V_drewN | apply Kd.V_drew)); exact HO_6.out⟩, ⟨by (with_reducible repeat (first | refine blk_drewN ?_ _ | refine blk_drew ?_ | refine blk_alloc ?_ _)); exact BK361.out⟩, ⟨by repeat (first | (with_reducible first | exact HB.out | apply below_alloc | apply pw_below_drewN | apply below_drew1 | refine below_set ?_ GE361.out) | exact HB.out)⟩⟩
             ·rw [if_neg c36] at H
              have c36b0 : (x10_24 == 3) = false := beq_eq_false_iff_ne.mpr c36
              have c36b1 : (x10_24 != 3) = true := bne_iff_ne.mpr c36
              as_aux_lemma =>
               have H' := Aside0.mk H
               clear H
               go_wp2
               go_meet
               case rel => exact ⟨_, ((x10_24 == 4)), (by first | rfl | (simp; done) | (simp [*]; done)), H', ⟨by have := HJ6.out; have := HJ24.out; first | omega | exact Nat.le_refl _⟩, ⟨by (with_reducible repeat (first | apply Kd.V_alloc | apply Kd.V_drewN | apply Kd.V_drew)); exact HO_6.out⟩, ⟨by (with_reducible repeat (first | refine blk_drewN ?_ _ | refine blk_drew ?_ | refine blk_alloc ?_ _)); exact BK361.out⟩, ⟨by repeat (first | (with_reducible first | exact HB.out | apply below_alloc | apply pw_below_drewN | apply below_drew1 | refine below_set ?_ GE361.out) | exact HB.out)⟩⟩
           case rest =>
            as_aux_lemma =>
             clear HC34
             try clear c1
             try clear c2
             try clear p2
             try clear c3
             try clear p3
             try clear q3
             try clear hx3
             try clear c5
             try clear c5b0
             try clear c5b1
             try clear p6
             try clear c9
             try clear c10
             try clear c11
             try clear c14
             try clear c15
             try clear c15b0
             try clear c17
             try clear c17b0
             try clear c20
             try clear c21
             try clear c22
             try clear c22b0
             try clear c23
             try clear c23b0
             try clear c29
             try clear c29b0
             try clear c30
             try clear c30b0
             try clear c35
             try clear c35b0
             try clear c35b1
             try clear c36
             try clear c36b0
             try clear c36b1
             try clear p36
             try clear q36
             try clear hx36
             try clear hcz13_0
             try clear hcz13_1
             try clear hcz13_2
             try clear hcz13_3
             try clear hcz13_4
             try clear hcz16_0
             try clear hcz16_1
             try clear hcz16_2
             try clear hcz16_3
             try clear hcz16_4
             try clear hcz18_0
             try clear hcz18_1
             try clear hcz18_2
             try clear hcz18_3
             try clear hcz18_4
             try clear hcz19_0
             try clear hcz19_1
             try clear hcz19_2
             try clear hcz19_3
             try clear hcz19_4
             try clear hcz26_0
             try clear hcz26_1
             try clear hcz26_2
             try clear hcz26_3
             try clear hcz26_4
             try clear hcz28_0
             try clear hcz28_1
             try clear hcz28_2
             try clear hcz28_3
             try clear hcz28_4
             try clear hcz32_0
             try clear hcz32_1
             try clear hcz32_2
             try clear hcz32_3
             try clear hcz32_4
             try clear hfz13_0
             try clear hfz13_1
             try clear hfz13_2
             try clear hfz13_3
             try clear hfz13_4
             try clear hfz16_0
             try clear hfz16_1
             try clear hfz16_2
             try clear hfz16_3
             try clear hfz16_4
             try clear hfz18_0
             try clear hfz18_1
             try clear hfz18_2
             try clear hfz18_3
             try clear hfz18_4
             try clear hfz19_0
             try clear hfz19_1
             try clear hfz19_2
             try clear hfz19_3
             try clear hfz19_4
             try clear hfz26_0
             try clear hfz26_1
             try clear hfz26_2
             try clear hfz26_3
             try clear hfz26_4
             try clear hfz28_0
             try clear hfz28_1
             try clear hfz28_2
             try clear hfz28_3
             try clear hfz28_4
             try clear hfz32_0
             try clear hfz32_1
             try clear hfz32_2
             try clear hfz32_3
             try clear hfz32_4
             try clear hx362_0
             try clear hx364_0
             try clear p2
             try clear p3
             try clear p362
             try clear p364
             try clear p6
             try clear q3
             try clear q362
             try clear q364
             obtain ⟨kq, x11_33, rfl, HA, HJ33, HO_6, BK361, HB⟩ := hcut
             cases kq with
             | zero => exact absurd HA.out (by simp [tmesislaw06_TokenRuns.j2])
             | succ kj33 =>
              have H := HA.out
              clear HA
              simp only [tmesislaw06_TokenRuns.j2] at H
              by_cases c37 : t355 = 1
              ·rw [if_pos c37] at H
               have c37b0 : (t355 == 1) = true := beq_iff_eq.mpr c37
               have c37b1 : (t355 != 1) = false := bne_eq_false_iff_eq.mpr c37
               clear c37
               by_cases c38 : t351 = true
               ·subst c38
                have H1 : (if t363 = 2 then (some (!x11_33)) else (if t363 = 9 then (some (!x11_33)) else (some false))) = some r := by rw [if_pos rfl] at H; exact H
                clear H
                have H := H1
                clear H1
                by_cases c39 : t363 = 2
                ·rw [if_pos c39] at H
                 have c39b0 : (t363 == 2) = true := beq_iff_eq.mpr c39
                 have c39b1 : (t363 != 2) = false := bne_eq_false_iff_eq.mpr c39
                 clear c39
                 as_aux_lemma =>
                  obtain rfl := Option.some.inj H
                  have hcz40_0 : wc.cell? ⟨gb361, 0, none⟩ = some (.int .i64 t355) := (blk_cell BK361.out 0).trans rfl
                  have hcz40_1 : wc.cell? ⟨gb361, 1, none⟩ = some (.int .i64 t356) := (blk_cell BK361.out 1).trans rfl
                  have hcz40_2 : wc.cell? ⟨gb361, 2, none⟩ = some (.int .i64 t357) := (blk_cell BK361.out 2).trans rfl
                  have hcz40_3 : wc.cell? ⟨gb361, 3, none⟩ = some (.string t358) := (blk_cell BK361.out 3).trans rfl
                  have hcz40_4 : wc.cell? ⟨gb361, 4, none⟩ = some (.int .i64 t359) := (blk_cell BK361.out 4).trans rfl
                  have hfz40_0 := blk_frozen BK361.out 0
                  have hfz40_1 := blk_frozen BK361.out 1
                  have hfz40_2 := blk_frozen BK361.out 2
                  have hfz40_3 := blk_frozen BK361.out 3
                  have hfz40_4 := blk_frozen BK361.out 4
                  go_wp2
                  go_ret
                  exact ⟨by first | rfl | (simp [errW_none, errW_some] <;> rfl) | (simp [*, errW_none, errW_some] <;> rfl), by repeat (first | (with_reducible first | exact HB.out | apply below_alloc | apply pw_below_drewN | apply below_drew1 | refine below_set ?_ GE361.out) | exact HB.out)⟩
                ·rw [if_neg c39] at H
                 have c39b0 : (t363 == 2) = false := beq_eq_false_iff_ne.mpr c39
                 have c39b1 : (t363 != 2) = true := bne_iff_ne.mpr c39
                 by_cases c41 : t363 = 9
                 ·rw [if_pos c41] at H
                  have c41b0 : (t363 == 9) = true := beq_iff_eq.mpr c41
                  have c41b1 : (t363 != 9) = false := bne_eq_false_iff_eq.mpr c41
                  clear c41
                  as_aux_lemma =>
                   obtain rfl := Option.some.inj H
                   have hcz42_0 : wc.cell? ⟨gb361, 0, none⟩ = some (.int .i64 t355) := (blk_cell BK361.out 0).trans rfl
                   have hcz42_1 : wc.cell? ⟨gb361, 1, none⟩ = some (.int .i64 t356) := (blk_cell BK361.out 1).trans rfl
                   have hcz42_2 : wc.cell? ⟨gb361, 2, none⟩ = some (.int .i64 t357) := (blk_cell BK361.out 2).trans rfl
                   have hcz42_3 : wc.cell? ⟨gb361, 3, none⟩ = some (.string t358) := (blk_cell BK361.out 3).trans rfl
                   have hcz42_4 : wc.cell? ⟨gb361, 4, none⟩ = some (.int .i64 t359) := (blk_cell BK361.out 4).trans rfl
                   have hfz42_0 := blk_frozen BK361.out 0
                   have hfz42_1 := blk_frozen BK361.out 1
                   have hfz42_2 := blk_frozen BK361.out 2
                   have hfz42_3 := blk_frozen BK361.out 3
                   have hfz42_4 := blk_frozen BK361.out 4
                   go_wp2
                   go_ret
                   exact ⟨by first | rfl | (simp [errW_none, errW_some] <;> rfl) | (simp [*, errW_none, errW_some] <;> rfl), by repeat (first | (with_reducible first | exact HB.out | apply below_alloc | apply pw_below_drewN | apply below_drew1 | refine below_set ?_ GE361.out) | exact HB.out)⟩
                 ·rw [if_neg c41] at H
                  have c41b0 : (t363 == 9) = false := beq_eq_false_iff_ne.mpr c41
                  have c41b1 : (t363 != 9) = true := bne_iff_ne.mpr c41
                  as_aux_lemma =>
                   obtain rfl := Option.some.inj H
                   have hcz43_0 : wc.cell? ⟨gb361, 0, none⟩ = some (.int .i64 t355) := (blk_cell BK361.out 0).trans rfl
                   have hcz43_1 : wc.cell? ⟨gb361, 1, none⟩ = some (.int .i64 t356) := (blk_cell BK361.out 1).trans rfl
                   have hcz43_2 : wc.cell? ⟨gb361, 2, none⟩ = some (.int .i64 t357) := (blk_cell BK361.out 2).trans rfl
                   have hcz43_3 : wc.cell? ⟨gb361, 3, none⟩ = some (.string t358) := (blk_cell BK361.out 3).trans rfl
                   have hcz43_4 : wc.cell? ⟨gb361, 4, none⟩ = some (.int .i64 t359) := (blk_cell BK361.out 4).trans rfl
                   have hfz43_0 := blk_frozen BK361.out 0
                   have hfz43_1 := blk_frozen BK361.out 1
                   have hfz43_2 := blk_frozen BK361.out 2
                   have hfz43_3 := blk_frozen BK361.out 3
                   have hfz43_4 := blk_frozen BK361.out 4
                   go_wp2
                   go_ret
                   exact ⟨by first | rfl | (simp [errW_none, errW_some] <;> rfl) | (simp [*, errW_none, errW_some] <;> rfl), by repeat (first | (with_reducible first | exact HB.out | apply below_alloc | apply pw_below_drewN | apply below_drew1 | refine below_set ?_ GE361.out) | exact HB.out)⟩
               ·replace c38 := Bool.eq_false_iff.mpr c38
                subst c38
                have H1 : (some false) = some r := by rw [if_neg (show ¬ (false = true) by decide)] at H; exact H
                clear H
                have H := H1
                clear H1
                as_aux_lemma =>
                 obtain rfl := Option.some.inj H
                 have hcz44_0 : wc.cell? ⟨gb361, 0, none⟩ = some (.int .i64 t355) := (blk_cell BK361.out 0).trans rfl
                 have hcz44_1 : wc.cell? ⟨gb361, 1, none⟩ = some (.int .i64 t356) := (blk_cell BK361.out 1).trans rfl
                 have hcz44_2 : wc.cell? ⟨gb361, 2, none⟩ = some (.int .i64 t357) := (blk_cell BK361.out 2).trans rfl
                 have hcz44_3 : wc.cell? ⟨gb361, 3, none⟩ = some (.string t358) := (blk_cell BK361.out 3).trans rfl
                 have hcz44_4 : wc.cell? ⟨gb361, 4, none⟩ = some (.int .i64 t359) := (blk_cell BK361.out 4).trans rfl
                 have hfz44_0 := blk_frozen BK361.out 0
                 have hfz44_1 := blk_frozen BK361.out 1
                 have hfz44_2 := blk_frozen BK361.out 2
                 have hfz44_3 := blk_frozen BK361.out 3
                 have hfz44_4 := blk_frozen BK361.out 4
                 go_wp2
                 go_ret
                 exact ⟨by first | rfl | (simp [errW_none, errW_some] <;> rfl) | (simp [*, errW_none, errW_some] <;> rfl), by repeat (first | (with_reducible first | exact HB.out | apply below_alloc | apply pw_below_drewN | apply below_drew1 | refine below_set ?_ GE361.out) | exact HB.out)⟩
              ·rw [if_neg c37] at H
               have c37b0 : (t355 == 1) = false := beq_eq_false_iff_ne.mpr c37
               have c37b1 : (t355 != 1) = true := bne_iff_ne.mpr c37
               by_cases c45 : t355 = 3
               ·rw [if_pos c45] at H
                have c45b0 : (t355 == 3) = true := beq_iff_eq.mpr c45
                have c45b1 : (t355 != 3) = false := bne_eq_false_iff_eq.mpr c45
                clear c45
                by_cases c46 : t351 = true
                ·subst c46
                 have H1 : (if t363 = 3 then (some (!x11_33)) else (some false)) = some r := by rw [if_pos rfl] at H; exact H
                 clear H
                 have H := H1
                 clear H1
                 by_cases c47 : t363 = 3
                 ·rw [if_pos c47] at H
                  have c47b0 : (t363 == 3) = true := beq_iff_eq.mpr c47
                  have c47b1 : (t363 != 3) = false := bne_eq_false_iff_eq.mpr c47
                  clear c47
                  as_aux_lemma =>
                   obtain rfl := Option.some.inj H
                   have hcz48_0 : wc.cell? ⟨gb361, 0, none⟩ = some (.int .i64 t355) := (blk_cell BK361.out 0).trans rfl
                   have hcz48_1 : wc.cell? ⟨gb361, 1, none⟩ = some (.int .i64 t356) := (blk_cell BK361.out 1).trans rfl
                   have hcz48_2 : wc.cell? ⟨gb361, 2, none⟩ = some (.int .i64 t357) := (blk_cell BK361.out 2).trans rfl
                   have hcz48_3 : wc.cell? ⟨gb361, 3, none⟩ = some (.string t358) := (blk_cell BK361.out 3).trans rfl
                   have hcz48_4 : wc.cell? ⟨gb361, 4, none⟩ = some (.int .i64 t359) := (blk_cell BK361.out 4).trans rfl
                   have hfz48_0 := blk_frozen BK361.out 0
                   have hfz48_1 := blk_frozen BK361.out 1
                   have hfz48_2 := blk_frozen BK361.out 2
                   have hfz48_3 := blk_frozen BK361.out 3
                   have hfz48_4 := blk_frozen BK361.out 4
                   go_wp2
                   go_ret
                   exact ⟨by first | rfl | (simp [errW_none, errW_some] <;> rfl) | (simp [*, errW_none, errW_some] <;> rfl), by repeat (first | (with_reducible first | exact HB.out | apply below_alloc | apply pw_below_drewN | apply below_drew1 | refine below_set ?_ GE361.out) | exact HB.out)⟩
                 ·rw [if_neg c47] at H
                  have c47b0 : (t363 == 3) = false := beq_eq_false_iff_ne.mpr c47
                  have c47b1 : (t363 != 3) = true := bne_iff_ne.mpr c47
                  as_aux_lemma =>
                   obtain rfl := Option.some.inj H
                   have hcz49_0 : wc.cell? ⟨gb361, 0, none⟩ = some (.int .i64 t355) := (blk_cell BK361.out 0).trans rfl
                   have hcz49_1 : wc.cell? ⟨gb361, 1, none⟩ = some (.int .i64 t356) := (blk_cell BK361.out 1).trans rfl
                   have hcz49_2 : wc.cell? ⟨gb361, 2, none⟩ = some (.int .i64 t357) := (blk_cell BK361.out 2).trans rfl
                   have hcz49_3 : wc.cell? ⟨gb361, 3, none⟩ = some (.string t358) := (blk_cell BK361.out 3).trans rfl
                   have hcz49_4 : wc.cell? ⟨gb361, 4, none⟩ = some (.int .i64 t359) := (blk_cell BK361.out 4).trans rfl
                   have hfz49_0 := blk_frozen BK361.out 0
                   have hfz49_1 := blk_frozen BK361.out 1
                   have hfz49_2 := blk_frozen BK361.out 2
                   have hfz49_3 := blk_frozen BK361.out 3
                   have hfz49_4 := blk_frozen BK361.out 4
                   go_wp2
                   go_ret
                   exact ⟨by first | rfl | (simp [errW_none, errW_some] <;> rfl) | (simp [*, errW_none, errW_some] <;> rfl), by repeat (first | (with_reducible first | exact HB.out | apply below_alloc | apply pw_below_drewN | apply below_drew1 | refine below_set ?_ GE361.out) | exact HB.out)⟩
                ·replace c46 := Bool.eq_false_iff.mpr c46
                 subst c46
                 have H1 : (some false) = some r := by rw [if_neg (show ¬ (false = true) by decide)] at H; exact H
                 clear H
                 have H := H1
                 clear H1
                 as_aux_lemma =>
                  obtain rfl := Option.some.inj H
                  have hcz50_0 : wc.cell? ⟨gb361, 0, none⟩ = some (.int .i64 t355) := (blk_cell BK361.out 0).trans rfl
                  have hcz50_1 : wc.cell? ⟨gb361, 1, none⟩ = some (.int .i64 t356) := (blk_cell BK361.out 1).trans rfl
                  have hcz50_2 : wc.cell? ⟨gb361, 2, none⟩ = some (.int .i64 t357) := (blk_cell BK361.out 2).trans rfl
                  have hcz50_3 : wc.cell? ⟨gb361, 3, none⟩ = some (.string t358) := (blk_cell BK361.out 3).trans rfl
                  have hcz50_4 : wc.cell? ⟨gb361, 4, none⟩ = some (.int .i64 t359) := (blk_cell BK361.out 4).trans rfl
                  have hfz50_0 := blk_frozen BK361.out 0
                  have hfz50_1 := blk_frozen BK361.out 1
                  have hfz50_2 := blk_frozen BK361.out 2
                  have hfz50_3 := blk_frozen BK361.out 3
                  have hfz50_4 := blk_frozen BK361.out 4
                  go_wp2
                  go_ret
                  exact ⟨by first | rfl | (simp [errW_none, errW_some] <;> rfl) | (simp [*, errW_none, errW_some] <;> rfl), by repeat (first | (with_reducible first | exact HB.out | apply below_alloc | apply pw_below_drewN | apply below_drew1 | refine below_set ?_ GE361.out) | exact HB.out)⟩
               ·rw [if_neg c45] at H
                have c45b0 : (t355 == 3) = false := beq_eq_false_iff_ne.mpr c45
                have c45b1 : (t355 != 3) = true := bne_iff_ne.mpr c45
                by_cases c51 : t355 = 4
                ·rw [if_pos c51] at H
                 have c51b0 : (t355 == 4) = true := beq_iff_eq.mpr c51
                 have c51b1 : (t355 != 4) = false := bne_eq_false_iff_eq.mpr c51
                 clear c51
                 by_cases c52 : t351 = true
                 ·subst c52
                  have H1 : (if t363 = 4 then (some (x10_24 != 4)) else (some false)) = some r := by rw [if_pos rfl] at H; exact H
                  clear H
                  have H := H1
                  clear H1
                  by_cases c53 : t363 = 4
                  ·rw [if_pos c53] at H
                   have c53b0 : (t363 == 4) = true := beq_iff_eq.mpr c53
                   have c53b1 : (t363 != 4) = false := bne_eq_false_iff_eq.mpr c53
                   clear c53
                   as_aux_lemma =>
                    obtain rfl := Option.some.inj H
                    have hcz54_0 : wc.cell? ⟨gb361, 0, none⟩ = some (.int .i64 t355) := (blk_cell BK361.out 0).trans rfl
                    have hcz54_1 : wc.cell? ⟨gb361, 1, none⟩ = some (.int .i64 t356) := (blk_cell BK361.out 1).trans rfl
                    have hcz54_2 : wc.cell? ⟨gb361, 2, none⟩ = some (.int .i64 t357) := (blk_cell BK361.out 2).trans rfl
                    have hcz54_3 : wc.cell? ⟨gb361, 3, none⟩ = some (.string t358) := (blk_cell BK361.out 3).trans rfl
                    have hcz54_4 : wc.cell? ⟨gb361, 4, none⟩ = some (.int .i64 t359) := (blk_cell BK361.out 4).trans rfl
                    have hfz54_0 := blk_frozen BK361.out 0
                    have hfz54_1 := blk_frozen BK361.out 1
                    have hfz54_2 := blk_frozen BK361.out 2
                    have hfz54_3 := blk_frozen BK361.out 3
                    have hfz54_4 := blk_frozen BK361.out 4
                    go_wp2
                    go_ret
                    exact ⟨by first | rfl | (simp [errW_none, errW_some] <;> rfl) | (simp [*, errW_none, errW_some] <;> rfl), by repeat (first | (with_reducible first | exact HB.out | apply below_alloc | apply pw_below_drewN | apply below_drew1 | refine below_set ?_ GE361.out) | exact HB.out)⟩
                  ·rw [if_neg c53] at H
                   have c53b0 : (t363 == 4) = false := beq_eq_false_iff_ne.mpr c53
                   have c53b1 : (t363 != 4) = true := bne_iff_ne.mpr c53
                   as_aux_lemma =>
                    obtain rfl := Option.some.inj H
                    have hcz55_0 : wc.cell? ⟨gb361, 0, none⟩ = some (.int .i64 t355) := (blk_cell BK361.out 0).trans rfl
                    have hcz55_1 : wc.cell? ⟨gb361, 1, none⟩ = some (.int .i64 t356) := (blk_cell BK361.out 1).trans rfl
                    have hcz55_2 : wc.cell? ⟨gb361, 2, none⟩ = some (.int .i64 t357) := (blk_cell BK361.out 2).trans rfl
                    have hcz55_3 : wc.cell? ⟨gb361, 3, none⟩ = some (.string t358) := (blk_cell BK361.out 3).trans rfl
                    have hcz55_4 : wc.cell? ⟨gb361, 4, none⟩ = some (.int .i64 t359) := (blk_cell BK361.out 4).trans rfl
                    have hfz55_0 := blk_frozen BK361.out 0
                    have hfz55_1 := blk_frozen BK361.out 1
                    have hfz55_2 := blk_frozen BK361.out 2
                    have hfz55_3 := blk_frozen BK361.out 3
                    have hfz55_4 := blk_frozen BK361.out 4
                    go_wp2
                    go_ret
                    exact ⟨by first | rfl | (simp [errW_none, errW_some] <;> rfl) | (simp [*, errW_none, errW_some] <;> rfl), by repeat (first | (with_reducible first | exact HB.out | apply below_alloc | apply pw_below_drewN | apply below_drew1 | refine below_set ?_ GE361.out) | exact HB.out)⟩
                 ·replace c52 := Bool.eq_false_iff.mpr c52
                  subst c52
                  have H1 : (some false) = some r := by rw [if_neg (show ¬ (false = true) by decide)] at H; exact H
                  clear H
                  have H := H1
                  clear H1
                  as_aux_lemma =>
                   obtain rfl := Option.some.inj H
                   have hcz56_0 : wc.cell? ⟨gb361, 0, none⟩ = some (.int .i64 t355) := (blk_cell BK361.out 0).trans rfl
                   have hcz56_1 : wc.cell? ⟨gb361, 1, none⟩ = some (.int .i64 t356) := (blk_cell BK361.out 1).trans rfl
                   have hcz56_2 : wc.cell? ⟨gb361, 2, none⟩ = some (.int .i64 t357) := (blk_cell BK361.out 2).trans rfl
                   have hcz56_3 : wc.cell? ⟨gb361, 3, none⟩ = some (.string t358) := (blk_cell BK361.out 3).trans rfl
                   have hcz56_4 : wc.cell? ⟨gb361, 4, none⟩ = some (.int .i64 t359) := (blk_cell BK361.out 4).trans rfl
                   have hfz56_0 := blk_frozen BK361.out 0
                   have hfz56_1 := blk_frozen BK361.out 1
                   have hfz56_2 := blk_frozen BK361.out 2
                   have hfz56_3 := blk_frozen BK361.out 3
                   have hfz56_4 := blk_frozen BK361.out 4
                   go_wp2
                   go_ret
                   exact ⟨by first | rfl | (simp [errW_none, errW_some] <;> rfl) | (simp [*, errW_none, errW_some] <;> rfl), by repeat (first | (with_reducible first | exact HB.out | apply below_alloc | apply pw_below_drewN | apply below_drew1 | refine below_set ?_ GE361.out) | exact HB.out)⟩
                ·rw [if_neg c51] at H
                 have c51b0 : (t355 == 4) = false := beq_eq_false_iff_ne.mpr c51
                 have c51b1 : (t355 != 4) = true := bne_iff_ne.mpr c51
                 by_cases c57 : t355 = 2
                 ·rw [if_pos c57] at H
                  have c57b0 : (t355 == 2) = true := beq_iff_eq.mpr c57
                  have c57b1 : (t355 != 2) = false := bne_eq_false_iff_eq.mpr c57
                  clear c57
                  by_cases c58 : t358.toList = ([46] : List UInt8)
                  ·rw [if_pos c58] at H
                   have c58b0 : (t358.toList == ([46] : List UInt8)) = true := beq_iff_eq.mpr c58
                   have c58b1 : (t358.toList != ([46] : List UInt8)) = false := bne_eq_false_iff_eq.mpr c58
                   clear c58
                   by_cases c59 : x10_24 = (-1)
                   ·rw [if_pos c59] at H
                    have c59b0 : (x10_24 == (-1)) = true := beq_iff_eq.mpr c59
                    have c59b1 : (x10_24 != (-1)) = false := bne_eq_false_iff_eq.mpr c59
                    clear c59
                    by_cases c60 : t351 = true
                    ·subst c60
                     have H1 : (if t363 = 5 then (if x10_24 = 5 then (some false) else (some (!true))) else (some false)) = some r := by rw [if_pos rfl] at H; exact H
                     clear H
                     have H := H1
                     clear H1
                     by_cases c61 : t363 = 5
                     ·rw [if_pos c61] at H
                      have c61b0 : (t363 == 5) = true := beq_iff_eq.mpr c61
                      have c61b1 : (t363 != 5) = false := bne_eq_false_iff_eq.mpr c61
                      clear c61
                      by_cases c62 : x10_24 = 5
                      ·rw [if_pos c62] at H
                       have c62b0 : (x10_24 == 5) = true := beq_iff_eq.mpr c62
                       have c62b1 : (x10_24 != 5) = false := bne_eq_false_iff_eq.mpr c62
                       clear c62
                       as_aux_lemma =>
                        obtain rfl := Option.some.inj H
                        have hcz63_0 : wc.cell? ⟨gb361, 0, none⟩ = some (.int .i64 t355) := (blk_cell BK361.out 0).trans rfl
                        have hcz63_1 : wc.cell? ⟨gb361, 1, none⟩ = some (.int .i64 t356) := (blk_cell BK361.out 1).trans rfl
                        have hcz63_2 : wc.cell? ⟨gb361, 2, none⟩ = some (.int .i64 t357) := (blk_cell BK361.out 2).trans rfl
                        have hcz63_3 : wc.cell? ⟨gb361, 3, none⟩ = some (.string t358) := (blk_cell BK361.out 3).trans rfl
                        have hcz63_4 : wc.cell? ⟨gb361, 4, none⟩ = some (.int .i64 t359) := (blk_cell BK361.out 4).trans rfl
                        have hfz63_0 := blk_frozen BK361.out 0
                        have hfz63_1 := blk_frozen BK361.out 1
                        have hfz63_2 := blk_frozen BK361.out 2
                        have hfz63_3 := blk_frozen BK361.out 3
                        have hfz63_4 := blk_frozen BK361.out 4
                        go_wp2
                        go_ret
                        exact ⟨by first | rfl | (simp [errW_none, errW_some] <;> rfl) | (simp [*, errW_none, errW_some] <;> rfl), by repeat (first | (with_reducible first | exact HB.out | apply below_alloc | apply pw_below_drewN | apply below_drew1 | refine below_set ?_ GE361.out) | exact HB.out)⟩
                      ·rw [if_neg c62] at H
                       have c62b0 : (x10_24 == 5) = false := beq_eq_false_iff_ne.mpr c62
                       have c62b1 : (x10_24 != 5) = true := bne_iff_ne.mpr c62
                       as_aux_lemma =>
                        obtain rfl := Option.some.inj H
                        have hcz64_0 : wc.cell? ⟨gb361, 0, none⟩ = some (.int .i64 t355) := (blk_cell BK361.out 0).trans rfl
                        have hcz64_1 : wc.cell? ⟨gb361, 1, none⟩ = some (.int .i64 t356) := (blk_cell BK361.out 1).trans rfl
                        have hcz64_2 : wc.cell? ⟨gb361, 2, none⟩ = some (.int .i64 t357) := (blk_cell BK361.out 2).trans rfl
                        have hcz64_3 : wc.cell? ⟨gb361, 3, none⟩ = some (.string t358) := (blk_cell BK361.out 3).trans rfl
                        have hcz64_4 : wc.cell? ⟨gb361, 4, none⟩ = some (.int .i64 t359) := (blk_cell BK361.out 4).trans rfl
                        have hfz64_0 := blk_frozen BK361.out 0
                        have hfz64_1 := blk_frozen BK361.out 1
                        have hfz64_2 := blk_frozen BK361.out 2
                        have hfz64_3 := blk_frozen BK361.out 3
                        have hfz64_4 := blk_frozen BK361.out 4
                        go_wp2
                        go_ret
                        exact ⟨by first | rfl | (simp [errW_none, errW_some] <;> rfl) | (simp [*, errW_none, errW_some] <;> rfl), by repeat (first | (with_reducible first | exact HB.out | apply below_alloc | apply pw_below_drewN | apply below_drew1 | refine below_set ?_ GE361.out) | exact HB.out)⟩
                     ·rw [if_neg c61] at H
                      have c61b0 : (t363 == 5) = false := beq_eq_false_iff_ne.mpr c61
                      have c61b1 : (t363 != 5) = true := bne_iff_ne.mpr c61
                      as_aux_lemma =>
                       obtain rfl := Option.some.inj H
                       have hcz65_0 : wc.cell? ⟨gb361, 0, none⟩ = some (.int .i64 t355) := (blk_cell BK361.out 0).trans rfl
                       have hcz65_1 : wc.cell? ⟨gb361, 1, none⟩ = some (.int .i64 t356) := (blk_cell BK361.out 1).trans rfl
                       have hcz65_2 : wc.cell? ⟨gb361, 2, none⟩ = some (.int .i64 t357) := (blk_cell BK361.out 2).trans rfl
                       have hcz65_3 : wc.cell? ⟨gb361, 3, none⟩ = some (.string t358) := (blk_cell BK361.out 3).trans rfl
                       have hcz65_4 : wc.cell? ⟨gb361, 4, none⟩ = some (.int .i64 t359) := (blk_cell BK361.out 4).trans rfl
                       have hfz65_0 := blk_frozen BK361.out 0
                       have hfz65_1 := blk_frozen BK361.out 1
                       have hfz65_2 := blk_frozen BK361.out 2
                       have hfz65_3 := blk_frozen BK361.out 3
                       have hfz65_4 := blk_frozen BK361.out 4
                       go_wp2
                       go_ret
                       exact ⟨by first | rfl | (simp [errW_none, errW_some] <;> rfl) | (simp [*, errW_none, errW_some] <;> rfl), by repeat (first | (with_reducible first | exact HB.out | apply below_alloc | apply pw_below_drewN | apply below_drew1 | refine below_set ?_ GE361.out) | exact HB.out)⟩
                    ·replace c60 := Bool.eq_false_iff.mpr c60
                     subst c60
                     have H1 : (some false) = some r := by rw [if_neg (show ¬ (false = true) by decide)] at H; exact H
                     clear H
                     have H := H1
                     clear H1
                     as_aux_lemma =>
                      obtain rfl := Option.some.inj H
                      have hcz66_0 : wc.cell? ⟨gb361, 0, none⟩ = some (.int .i64 t355) := (blk_cell BK361.out 0).trans rfl
                      have hcz66_1 : wc.cell? ⟨gb361, 1, none⟩ = some (.int .i64 t356) := (blk_cell BK361.out 1).trans rfl
                      have hcz66_2 : wc.cell? ⟨gb361, 2, none⟩ = some (.int .i64 t357) := (blk_cell BK361.out 2).trans rfl
                      have hcz66_3 : wc.cell? ⟨gb361, 3, none⟩ = some (.string t358) := (blk_cell BK361.out 3).trans rfl
                      have hcz66_4 : wc.cell? ⟨gb361, 4, none⟩ = some (.int .i64 t359) := (blk_cell BK361.out 4).trans rfl
                      have hfz66_0 := blk_frozen BK361.out 0
                      have hfz66_1 := blk_frozen BK361.out 1
                      have hfz66_2 := blk_frozen BK361.out 2
                      have hfz66_3 := blk_frozen BK361.out 3
                      have hfz66_4 := blk_frozen BK361.out 4
                      go_wp2
                      go_ret
                      exact ⟨by first | rfl | (simp [errW_none, errW_some] <;> rfl) | (simp [*, errW_none, errW_some] <;> rfl), by repeat (first | (with_reducible first | exact HB.out | apply below_alloc | apply pw_below_drewN | apply below_drew1 | refine below_set ?_ GE361.out) | exact HB.out)⟩
                   ·rw [if_neg c59] at H
                    have c59b0 : (x10_24 == (-1)) = false := beq_eq_false_iff_ne.mpr c59
                    have c59b1 : (x10_24 != (-1)) = true := bne_iff_ne.mpr c59
                    by_cases c67 : x10_24 = 1
                    ·rw [if_pos c67] at H
                     have c67b0 : (x10_24 == 1) = true := beq_iff_eq.mpr c67
                     have c67b1 : (x10_24 != 1) = false := bne_eq_false_iff_eq.mpr c67
                     clear c67
                     by_cases c68 : t351 = true
                     ·subst c68
                      have H1 : (if t363 = 5 then (if x10_24 = 5 then (some false) else (some (!true))) else (some false)) = some r := by rw [if_pos rfl] at H; exact H
                      clear H
                      have H := H1
                      clear H1
                      by_cases c69 : t363 = 5
                      ·rw [if_pos c69] at H
                       have c69b0 : (t363 == 5) = true := beq_iff_eq.mpr c69
                       have c69b1 : (t363 != 5) = false := bne_eq_false_iff_eq.mpr c69
                       clear c69
                       by_cases c70 : x10_24 = 5
                       ·rw [if_pos c70] at H
                        have c70b0 : (x10_24 == 5) = true := beq_iff_eq.mpr c70
                        have c70b1 : (x10_24 != 5) = false := bne_eq_false_iff_eq.mpr c70
                        clear c70
                        as_aux_lemma =>
                         obtain rfl := Option.some.inj H
                         have hcz71_0 : wc.cell? ⟨gb361, 0, none⟩ = some (.int .i64 t355) := (blk_cell BK361.out 0).trans rfl
                         have hcz71_1 : wc.cell? ⟨gb361, 1, none⟩ = some (.int .i64 t356) := (blk_cell BK361.out 1).trans rfl
                         have hcz71_2 : wc.cell? ⟨gb361, 2, none⟩ = some (.int .i64 t357) := (blk_cell BK361.out 2).trans rfl
                         have hcz71_3 : wc.cell? ⟨gb361, 3, none⟩ = some (.string t358) := (blk_cell BK361.out 3).trans rfl
                         have hcz71_4 : wc.cell? ⟨gb361, 4, none⟩ = some (.int .i64 t359) := (blk_cell BK361.out 4).trans rfl
                         have hfz71_0 := blk_frozen BK361.out 0
                         have hfz71_1 := blk_frozen BK361.out 1
                         have hfz71_2 := blk_frozen BK361.out 2
                         have hfz71_3 := blk_frozen BK361.out 3
                         have hfz71_4 := blk_frozen BK361.out 4
                         go_wp2
                         go_ret
                         exact ⟨by first | rfl | (simp [errW_none, errW_some] <;> rfl) | (simp [*, errW_none, errW_some] <;> rfl), by repeat (first | (with_reducible first | exact HB.out | apply below_alloc | apply pw_below_drewN | apply below_drew1 | refine below_set ?_ GE361.out) | exact HB.out)⟩
                       ·rw [if_neg c70] at H
                        have c70b0 : (x10_24 == 5) = false := beq_eq_false_iff_ne.mpr c70
                        have c70b1 : (x10_24 != 5) = true := bne_iff_ne.mpr c70
                        as_aux_lemma =>
                         obtain rfl := Option.some.inj H
                         have hcz72_0 : wc.cell? ⟨gb361, 0, none⟩ = some (.int .i64 t355) := (blk_cell BK361.out 0).trans rfl
                         have hcz72_1 : wc.cell? ⟨gb361, 1, none⟩ = some (.int .i64 t356) := (blk_cell BK361.out 1).trans rfl
                         have hcz72_2 : wc.cell? ⟨gb361, 2, none⟩ = some (.int .i64 t357) := (blk_cell BK361.out 2).trans rfl
                         have hcz72_3 : wc.cell? ⟨gb361, 3, none⟩ = some (.string t358) := (blk_cell BK361.out 3).trans rfl
                         have hcz72_4 : wc.cell? ⟨gb361, 4, none⟩ = some (.int .i64 t359) := (blk_cell BK361.out 4).trans rfl
                         have hfz72_0 := blk_frozen BK361.out 0
                         have hfz72_1 := blk_frozen BK361.out 1
                         have hfz72_2 := blk_frozen BK361.out 2
                         have hfz72_3 := blk_frozen BK361.out 3
                         have hfz72_4 := blk_frozen BK361.out 4
                         go_wp2
                         go_ret
                         exact ⟨by first | rfl | (simp [errW_none, errW_some] <;> rfl) | (simp [*, errW_none, errW_some] <;> rfl), by repeat (first | (with_reducible first | exact HB.out | apply below_alloc | apply pw_below_drewN | apply below_drew1 | refine below_set ?_ GE361.out) | exact HB.out)⟩
                      ·rw [if_neg c69] at H
                       have c69b0 : (t363 == 5) = false := beq_eq_false_iff_ne.mpr c69
                       have c69b1 : (t363 != 5) = true := bne_iff_ne.mpr c69
                       as_aux_lemma =>
                        obtain rfl := Option.some.inj H
                        have hcz73_0 : wc.cell? ⟨gb361, 0, none⟩ = some (.int .i64 t355) := (blk_cell BK361.out 0).trans rfl
                        have hcz73_1 : wc.cell? ⟨gb361, 1, none⟩ = some (.int .i64 t356) := (blk_cell BK361.out 1).trans rfl
                        have hcz73_2 : wc.cell? ⟨gb361, 2, none⟩ = some (.int .i64 t357) := (blk_cell BK361.out 2).trans rfl
                        have hcz73_3 : wc.cell? ⟨gb361, 3, none⟩ = some (.string t358) := (blk_cell BK361.out 3).trans rfl
                        have hcz73_4 : wc.cell? ⟨gb361, 4, none⟩ = some (.int .i64 t359) := (blk_cell BK361.out 4).trans rfl
                        have hfz73_0 := blk_frozen BK361.out 0
                        have hfz73_1 := blk_frozen BK361.out 1
                        have hfz73_2 := blk_frozen BK361.out 2
                        have hfz73_3 := blk_frozen BK361.out 3
                        have hfz73_4 := blk_frozen BK361.out 4
                        go_wp2
                        go_ret
                        exact ⟨by first | rfl | (simp [errW_none, errW_some] <;> rfl) | (simp [*, errW_none, errW_some] <;> rfl), by repeat (first | (with_reducible first | exact HB.out | apply below_alloc | apply pw_below_drewN | apply below_drew1 | refine below_set ?_ GE361.out) | exact HB.out)⟩
                     ·replace c68 := Bool.eq_false_iff.mpr c68
                      subst c68
                      have H1 : (some false) = some r := by rw [if_neg (show ¬ (false = true) by decide)] at H; exact H
                      clear H
                      have H := H1
                      clear H1
                      as_aux_lemma =>
                       obtain rfl := Option.some.inj H
                       have hcz74_0 : wc.cell? ⟨gb361, 0, none⟩ = some (.int .i64 t355) := (blk_cell BK361.out 0).trans rfl
                       have hcz74_1 : wc.cell? ⟨gb361, 1, none⟩ = some (.int .i64 t356) := (blk_cell BK361.out 1).trans rfl
                       have hcz74_2 : wc.cell? ⟨gb361, 2, none⟩ = some (.int .i64 t357) := (blk_cell BK361.out 2).trans rfl
                       have hcz74_3 : wc.cell? ⟨gb361, 3, none⟩ = some (.string t358) := (blk_cell BK361.out 3).trans rfl
                       have hcz74_4 : wc.cell? ⟨gb361, 4, none⟩ = some (.int .i64 t359) := (blk_cell BK361.out 4).trans rfl
                       have hfz74_0 := blk_frozen BK361.out 0
                       have hfz74_1 := blk_frozen BK361.out 1
                       have hfz74_2 := blk_frozen BK361.out 2
                       have hfz74_3 := blk_frozen BK361.out 3
                       have hfz74_4 := blk_frozen BK361.out 4
                       go_wp2
                       go_ret
                       exact ⟨by first | rfl | (simp [errW_none, errW_some] <;> rfl) | (simp [*, errW_none, errW_some] <;> rfl), by repeat (first | (with_reducible first | exact HB.out | apply below_alloc | apply pw_below_drewN | apply below_drew1 | refine below_set ?_ GE361.out) | exact HB.out)⟩
                    ·rw [if_neg c67] at H
                     have c67b0 : (x10_24 == 1) = false := beq_eq_false_iff_ne.mpr c67
                     have c67b1 : (x10_24 != 1) = true := bne_iff_ne.mpr c67
                     by_cases c75 : t351 = true
                     ·subst c75
                      have H1 : (if t363 = 5 then (if x10_24 = 5 then (some false) else (some (!(x10_24 == 8)))) else (some false)) = some r := by rw [if_pos rfl] at H; exact H
                      clear H
                      have H := H1
                      clear H1
                      by_cases c76 : t363 = 5
                      ·rw [if_pos c76] at H
                       have c76b0 : (t363 == 5) = true := beq_iff_eq.mpr c76
                       have c76b1 : (t363 != 5) = false := bne_eq_false_iff_eq.mpr c76
                       clear c76
                       by_cases c77 : x10_24 = 5
                       ·rw [if_pos c77] at H
                        have c77b0 : (x10_24 == 5) = true := beq_iff_eq.mpr c77
                        have c77b1 : (x10_24 != 5) = false := bne_eq_false_iff_eq.mpr c77
                        clear c77
                        as_aux_lemma =>
                         obtain rfl := Option.some.inj H
                         have hcz78_0 : wc.cell? ⟨gb361, 0, none⟩ = some (.int .i64 t355) := (blk_cell BK361.out 0).trans rfl
                         have hcz78_1 : wc.cell? ⟨gb361, 1, none⟩ = some (.int .i64 t356) := (blk_cell BK361.out 1).trans rfl
                         have hcz78_2 : wc.cell? ⟨gb361, 2, none⟩ = some (.int .i64 t357) := (blk_cell BK361.out 2).trans rfl
                         have hcz78_3 : wc.cell? ⟨gb361, 3, none⟩ = some (.string t358) := (blk_cell BK361.out 3).trans rfl
                         have hcz78_4 : wc.cell? ⟨gb361, 4, none⟩ = some (.int .i64 t359) := (blk_cell BK361.out 4).trans rfl
                         have hfz78_0 := blk_frozen BK361.out 0
                         have hfz78_1 := blk_frozen BK361.out 1
                         have hfz78_2 := blk_frozen BK361.out 2
                         have hfz78_3 := blk_frozen BK361.out 3
                         have hfz78_4 := blk_frozen BK361.out 4
                         go_wp2
                         go_ret
                         exact ⟨by first | rfl | (simp [errW_none, errW_some] <;> rfl) | (simp [*, errW_none, errW_some] <;> rfl), by repeat (first | (with_reducible first | exact HB.out | apply below_alloc | apply pw_below_drewN | apply below_drew1 | refine below_set ?_ GE361.out) | exact HB.out)⟩
                       ·rw [if_neg c77] at H
                        have c77b0 : (x10_24 == 5) = false := beq_eq_false_iff_ne.mpr c77
                        have c77b1 : (x10_24 != 5) = true := bne_iff_ne.mpr c77
                        as_aux_lemma =>
                         obtain rfl := Option.some.inj H
                         have hcz79_0 : wc.cell? ⟨gb361, 0, none⟩ = some (.int .i64 t355) := (blk_cell BK361.out 0).trans rfl
                         have hcz79_1 : wc.cell? ⟨gb361, 1, none⟩ = some (.int .i64 t356) := (blk_cell BK361.out 1).trans rfl
                         have hcz79_2 : wc.cell? ⟨gb361, 2, none⟩ = some (.int .i64 t357) := (blk_cell BK361.out 2).trans rfl
                         have hcz79_3 : wc.cell? ⟨gb361, 3, none⟩ = some (.string t358) := (blk_cell BK361.out 3).trans rfl
                         have hcz79_4 : wc.cell? ⟨gb361, 4, none⟩ = some (.int .i64 t359) := (blk_cell BK361.out 4).trans rfl
                         have hfz79_0 := blk_frozen BK361.out 0
                         have hfz79_1 := blk_frozen BK361.out 1
                         have hfz79_2 := blk_frozen BK361.out 2
                         have hfz79_3 := blk_frozen BK361.out 3
                         have hfz79_4 := blk_frozen BK361.out 4
                         go_wp2
                         go_ret
                         exact ⟨by first | rfl | (simp [errW_none, errW_some] <;> rfl) | (simp [*, errW_none, errW_some] <;> rfl), by repeat (first | (with_reducible first | exact HB.out | apply below_alloc | apply pw_below_drewN | apply below_drew1 | refine below_set ?_ GE361.out) | exact HB.out)⟩
                      ·rw [if_neg c76] at H
                       have c76b0 : (t363 == 5) = false := beq_eq_false_iff_ne.mpr c76
                       have c76b1 : (t363 != 5) = true := bne_iff_ne.mpr c76
                       as_aux_lemma =>
                        obtain rfl := Option.some.inj H
                        have hcz80_0 : wc.cell? ⟨gb361, 0, none⟩ = some (.int .i64 t355) := (blk_cell BK361.out 0).trans rfl
                        have hcz80_1 : wc.cell? ⟨gb361, 1, none⟩ = some (.int .i64 t356) := (blk_cell BK361.out 1).trans rfl
                        have hcz80_2 : wc.cell? ⟨gb361, 2, none⟩ = some (.int .i64 t357) := (blk_cell BK361.out 2).trans rfl
                        have hcz80_3 : wc.cell? ⟨gb361, 3, none⟩ = some (.string t358) := (blk_cell BK361.out 3).trans rfl
                        have hcz80_4 : wc.cell? ⟨gb361, 4, none⟩ = some (.int .i64 t359) := (blk_cell BK361.out 4).trans rfl
                        have hfz80_0 := blk_frozen BK361.out 0
                        have hfz80_1 := blk_frozen BK361.out 1
                        have hfz80_2 := blk_frozen BK361.out 2
                        have hfz80_3 := blk_frozen BK361.out 3
                        have hfz80_4 := blk_frozen BK361.out 4
                        go_wp2
                        go_ret
                        exact ⟨by first | rfl | (simp [errW_none, errW_some] <;> rfl) | (simp [*, errW_none, errW_some] <;> rfl), by repeat (first | (with_reducible first | exact HB.out | apply below_alloc | apply pw_below_drewN | apply below_drew1 | refine below_set ?_ GE361.out) | exact HB.out)⟩
                     ·replace c75 := Bool.eq_false_iff.mpr c75
                      subst c75
                      have H1 : (some false) = some r := by rw [if_neg (show ¬ (false = true) by decide)] at H; exact H
                      clear H
                      have H := H1
                      clear H1
                      as_aux_lemma =>
                       obtain rfl := Option.some.inj H
                       have hcz81_0 : wc.cell? ⟨gb361, 0, none⟩ = some (.int .i64 t355) := (blk_cell BK361.out 0).trans rfl
                       have hcz81_1 : wc.cell? ⟨gb361, 1, none⟩ = some (.int .i64 t356) := (blk_cell BK361.out 1).trans rfl
                       have hcz81_2 : wc.cell? ⟨gb361, 2, none⟩ = some (.int .i64 t357) := (blk_cell BK361.out 2).trans rfl
                       have hcz81_3 : wc.cell? ⟨gb361, 3, none⟩ = some (.string t358) := (blk_cell BK361.out 3).trans rfl
                       have hcz81_4 : wc.cell? ⟨gb361, 4, none⟩ = some (.int .i64 t359) := (blk_cell BK361.out 4).trans rfl
                       have hfz81_0 := blk_frozen BK361.out 0
                       have hfz81_1 := blk_frozen BK361.out 1
                       have hfz81_2 := blk_frozen BK361.out 2
                       have hfz81_3 := blk_frozen BK361.out 3
                       have hfz81_4 := blk_frozen BK361.out 4
                       go_wp2
                       go_ret
                       exact ⟨by first | rfl | (simp [errW_none, errW_some] <;> rfl) | (simp [*, errW_none, errW_some] <;> rfl), by repeat (first | (with_reducible first | exact HB.out | apply below_alloc | apply pw_below_drewN | apply below_drew1 | refine below_set ?_ GE361.out) | exact HB.out)⟩
                  ·rw [if_neg c58] at H
                   have c58b0 : (t358.toList == ([46] : List UInt8)) = false := beq_eq_false_iff_ne.mpr c58
                   have c58b1 : (t358.toList != ([46] : List UInt8)) = true := bne_iff_ne.mpr c58
                   by_cases c82 : t351 = true
                   ·subst c82
                    have H1 : (if t363 = 5 then (if x10_24 = 5 then (some false) else (some (!false))) else (some false)) = some r := by rw [if_pos rfl] at H; exact H
                    clear H
                    have H := H1
                    clear H1
                    by_cases c83 : t363 = 5
                    ·rw [if_pos c83] at H
                     have c83b0 : (t363 == 5) = true := beq_iff_eq.mpr c83
                     have c83b1 : (t363 != 5) = false := bne_eq_false_iff_eq.mpr c83
                     clear c83
                     by_cases c84 : x10_24 = 5
                     ·rw [if_pos c84] at H
                      have c84b0 : (x10_24 == 5) = true := beq_iff_eq.mpr c84
                      have c84b1 : (x10_24 != 5) = false := bne_eq_false_iff_eq.mpr c84
                      clear c84
                      as_aux_lemma =>
                       obtain rfl := Option.some.inj H
                       have hcz85_0 : wc.cell? ⟨gb361, 0, none⟩ = some (.int .i64 t355) := (blk_cell BK361.out 0).trans rfl
                       have hcz85_1 : wc.cell? ⟨gb361, 1, none⟩ = some (.int .i64 t356) := (blk_cell BK361.out 1).trans rfl
                       have hcz85_2 : wc.cell? ⟨gb361, 2, none⟩ = some (.int .i64 t357) := (blk_cell BK361.out 2).trans rfl
                       have hcz85_3 : wc.cell? ⟨gb361, 3, none⟩ = some (.string t358) := (blk_cell BK361.out 3).trans rfl
                       have hcz85_4 : wc.cell? ⟨gb361, 4, none⟩ = some (.int .i64 t359) := (blk_cell BK361.out 4).trans rfl
                       have hfz85_0 := blk_frozen BK361.out 0
                       have hfz85_1 := blk_frozen BK361.out 1
                       have hfz85_2 := blk_frozen BK361.out 2
                       have hfz85_3 := blk_frozen BK361.out 3
                       have hfz85_4 := blk_frozen BK361.out 4
                       go_wp2
                       go_ret
                       exact ⟨by first | rfl | (simp [errW_none, errW_some] <;> rfl) | (simp [*, errW_none, errW_some] <;> rfl), by repeat (first | (with_reducible first | exact HB.out | apply below_alloc | apply pw_below_drewN | apply below_drew1 | refine below_set ?_ GE361.out) | exact HB.out)⟩
                     ·rw [if_neg c84] at H
                      have c84b0 : (x10_24 == 5) = false := beq_eq_false_iff_ne.mpr c84
                      have c84b1 : (x10_24 != 5) = true := bne_iff_ne.mpr c84
                      as_aux_lemma =>
                       obtain rfl := Option.some.inj H
                       have hcz86_0 : wc.cell? ⟨gb361, 0, none⟩ = some (.int .i64 t355) := (blk_cell BK361.out 0).trans rfl
                       have hcz86_1 : wc.cell? ⟨gb361, 1, none⟩ = some (.int .i64 t356) := (blk_cell BK361.out 1).trans rfl
                       have hcz86_2 : wc.cell? ⟨gb361, 2, none⟩ = some (.int .i64 t357) := (blk_cell BK361.out 2).trans rfl
                       have hcz86_3 : wc.cell? ⟨gb361, 3, none⟩ = some (.string t358) := (blk_cell BK361.out 3).trans rfl
                       have hcz86_4 : wc.cell? ⟨gb361, 4, none⟩ = some (.int .i64 t359) := (blk_cell BK361.out 4).trans rfl
                       have hfz86_0 := blk_frozen BK361.out 0
                       have hfz86_1 := blk_frozen BK361.out 1
                       have hfz86_2 := blk_frozen BK361.out 2
                       have hfz86_3 := blk_frozen BK361.out 3
                       have hfz86_4 := blk_frozen BK361.out 4
                       go_wp2
                       go_ret
                       exact ⟨by first | rfl | (simp [errW_none, errW_some] <;> rfl) | (simp [*, errW_none, errW_some] <;> rfl), by repeat (first | (with_reducible first | exact HB.out | apply below_alloc | apply pw_below_drewN | apply below_drew1 | refine below_set ?_ GE361.out) | exact HB.out)⟩
                    ·rw [if_neg c83] at H
                     have c83b0 : (t363 == 5) = false := beq_eq_false_iff_ne.mpr c83
                     have c83b1 : (t363 != 5) = true := bne_iff_ne.mpr c83
                     as_aux_lemma =>
                      obtain rfl := Option.some.inj H
                      have hcz87_0 : wc.cell? ⟨gb361, 0, none⟩ = some (.int .i64 t355) := (blk_cell BK361.out 0).trans rfl
                      have hcz87_1 : wc.cell? ⟨gb361, 1, none⟩ = some (.int .i64 t356) := (blk_cell BK361.out 1).trans rfl
                      have hcz87_2 : wc.cell? ⟨gb361, 2, none⟩ = some (.int .i64 t357) := (blk_cell BK361.out 2).trans rfl
                      have hcz87_3 : wc.cell? ⟨gb361, 3, none⟩ = some (.string t358) := (blk_cell BK361.out 3).trans rfl
                      have hcz87_4 : wc.cell? ⟨gb361, 4, none⟩ = some (.int .i64 t359) := (blk_cell BK361.out 4).trans rfl
                      have hfz87_0 := blk_frozen BK361.out 0
                      have hfz87_1 := blk_frozen BK361.out 1
                      have hfz87_2 := blk_frozen BK361.out 2
                      have hfz87_3 := blk_frozen BK361.out 3
                      have hfz87_4 := blk_frozen BK361.out 4
                      go_wp2
                      go_ret
                      exact ⟨by first | rfl | (simp [errW_none, errW_some] <;> rfl) | (simp [*, errW_none, errW_some] <;> rfl), by repeat (first | (with_reducible first | exact HB.out | apply below_alloc | apply pw_below_drewN | apply below_drew1 | refine below_set ?_ GE361.out) | exact HB.out)⟩
                   ·replace c82 := Bool.eq_false_iff.mpr c82
                    subst c82
                    have H1 : (some false) = some r := by rw [if_neg (show ¬ (false = true) by decide)] at H; exact H
                    clear H
                    have H := H1
                    clear H1
                    as_aux_lemma =>
                     obtain rfl := Option.some.inj H
                     have hcz88_0 : wc.cell? ⟨gb361, 0, none⟩ = some (.int .i64 t355) := (blk_cell BK361.out 0).trans rfl
                     have hcz88_1 : wc.cell? ⟨gb361, 1, none⟩ = some (.int .i64 t356) := (blk_cell BK361.out 1).trans rfl
                     have hcz88_2 : wc.cell? ⟨gb361, 2, none⟩ = some (.int .i64 t357) := (blk_cell BK361.out 2).trans rfl
                     have hcz88_3 : wc.cell? ⟨gb361, 3, none⟩ = some (.string t358) := (blk_cell BK361.out 3).trans rfl
                     have hcz88_4 : wc.cell? ⟨gb361, 4, none⟩ = some (.int .i64 t359) := (blk_cell BK361.out 4).trans rfl
                     have hfz88_0 := blk_frozen BK361.out 0
                     have hfz88_1 := blk_frozen BK361.out 1
                     have hfz88_2 := blk_frozen BK361.out 2
                     have hfz88_3 := blk_frozen BK361.out 3
                     have hfz88_4 := blk_frozen BK361.out 4
                     go_wp2
                     go_ret
                     exact ⟨by first | rfl | (simp [errW_none, errW_some] <;> rfl) | (simp [*, errW_none, errW_some] <;> rfl), by repeat (first | (with_reducible first | exact HB.out | apply below_alloc | apply pw_below_drewN | apply below_drew1 | refine below_set ?_ GE361.out) | exact HB.out)⟩
                 ·rw [if_neg c57] at H
                  have c57b0 : (t355 == 2) = false := beq_eq_false_iff_ne.mpr c57
                  have c57b1 : (t355 != 2) = true := bne_iff_ne.mpr c57
                  by_cases c89 : t355 = 7
                  ·rw [if_pos c89] at H
                   have c89b0 : (t355 == 7) = true := beq_iff_eq.mpr c89
                   have c89b1 : (t355 != 7) = false := bne_eq_false_iff_eq.mpr c89
                   clear c89
                   by_cases c90 : t351 = true
                   ·subst c90
                    have H1 : (if t358.toList = ([46] : List UInt8) then (if x10_24 = (-1) then (some true) else (if x10_24 = 1 then (some true) else (some (x10_24 == 8)))) else (some false)) = some r := by rw [if_pos rfl] at H; exact H
                    clear H
                    have H := H1
                    clear H1
                    by_cases c91 : t358.toList = ([46] : List UInt8)
                    ·rw [if_pos c91] at H
                     have c91b0 : (t358.toList == ([46] : List UInt8)) = true := beq_iff_eq.mpr c91
                     have c91b1 : (t358.toList != ([46] : List UInt8)) = false := bne_eq_false_iff_eq.mpr c91
                     clear c91
                     by_cases c92 : x10_24 = (-1)
                     ·rw [if_pos c92] at H
                      have c92b0 : (x10_24 == (-1)) = true := beq_iff_eq.mpr c92
                      have c92b1 : (x10_24 != (-1)) = false := bne_eq_false_iff_eq.mpr c92
                      clear c92
                      as_aux_lemma =>
                       obtain rfl := Option.some.inj H
                       have hcz93_0 : wc.cell? ⟨gb361, 0, none⟩ = some (.int .i64 t355) := (blk_cell BK361.out 0).trans rfl
                       have hcz93_1 : wc.cell? ⟨gb361, 1, none⟩ = some (.int .i64 t356) := (blk_cell BK361.out 1).trans rfl
                       have hcz93_2 : wc.cell? ⟨gb361, 2, none⟩ = some (.int .i64 t357) := (blk_cell BK361.out 2).trans rfl
                       have hcz93_3 : wc.cell? ⟨gb361, 3, none⟩ = some (.string t358) := (blk_cell BK361.out 3).trans rfl
                       have hcz93_4 : wc.cell? ⟨gb361, 4, none⟩ = some (.int .i64 t359) := (blk_cell BK361.out 4).trans rfl
                       have hfz93_0 := blk_frozen BK361.out 0
                       have hfz93_1 := blk_frozen BK361.out 1
                       have hfz93_2 := blk_frozen BK361.out 2
                       have hfz93_3 := blk_frozen BK361.out 3
                       have hfz93_4 := blk_frozen BK361.out 4
                       go_wp2
                       go_ret
                       exact ⟨by first | rfl | (simp [errW_none, errW_some] <;> rfl) | (simp [*, errW_none, errW_some] <;> rfl), by repeat (first | (with_reducible first | exact HB.out | apply below_alloc | apply pw_below_drewN | apply below_drew1 | refine below_set ?_ GE361.out) | exact HB.out)⟩
                     ·rw [if_neg c92] at H
                      have c92b0 : (x10_24 == (-1)) = false := beq_eq_false_iff_ne.mpr c92
                      have c92b1 : (x10_24 != (-1)) = true := bne_iff_ne.mpr c92
                      by_cases c94 : x10_24 = 1
                      ·rw [if_pos c94] at H
                       have c94b0 : (x10_24 == 1) = true := beq_iff_eq.mpr c94
                       have c94b1 : (x10_24 != 1) = false := bne_eq_false_iff_eq.mpr c94
                       clear c94
                       as_aux_lemma =>
                        obtain rfl := Option.some.inj H
                        have hcz95_0 : wc.cell? ⟨gb361, 0, none⟩ = some (.int .i64 t355) := (blk_cell BK361.out 0).trans rfl
                        have hcz95_1 : wc.cell? ⟨gb361, 1, none⟩ = some (.int .i64 t356) := (blk_cell BK361.out 1).trans rfl
                        have hcz95_2 : wc.cell? ⟨gb361, 2, none⟩ = some (.int .i64 t357) := (blk_cell BK361.out 2).trans rfl
                        have hcz95_3 : wc.cell? ⟨gb361, 3, none⟩ = some (.string t358) := (blk_cell BK361.out 3).trans rfl
                        have hcz95_4 : wc.cell? ⟨gb361, 4, none⟩ = some (.int .i64 t359) := (blk_cell BK361.out 4).trans rfl
                        have hfz95_0 := blk_frozen BK361.out 0
                        have hfz95_1 := blk_frozen BK361.out 1
                        have hfz95_2 := blk_frozen BK361.out 2
                        have hfz95_3 := blk_frozen BK361.out 3
                        have hfz95_4 := blk_frozen BK361.out 4
                        go_wp2
                        go_ret
                        exact ⟨by first | rfl | (simp [errW_none, errW_some] <;> rfl) | (simp [*, errW_none, errW_some] <;> rfl), by repeat (first | (with_reducible first | exact HB.out | apply below_alloc | apply pw_below_drewN | apply below_drew1 | refine below_set ?_ GE361.out) | exact HB.out)⟩
                      ·rw [if_neg c94] at H
                       have c94b0 : (x10_24 == 1) = false := beq_eq_false_iff_ne.mpr c94
                       have c94b1 : (x10_24 != 1) = true := bne_iff_ne.mpr c94
                       as_aux_lemma =>
                        obtain rfl := Option.some.inj H
                        have hcz96_0 : wc.cell? ⟨gb361, 0, none⟩ = some (.int .i64 t355) := (blk_cell BK361.out 0).trans rfl
                        have hcz96_1 : wc.cell? ⟨gb361, 1, none⟩ = some (.int .i64 t356) := (blk_cell BK361.out 1).trans rfl
                        have hcz96_2 : wc.cell? ⟨gb361, 2, none⟩ = some (.int .i64 t357) := (blk_cell BK361.out 2).trans rfl
                        have hcz96_3 : wc.cell? ⟨gb361, 3, none⟩ = some (.string t358) := (blk_cell BK361.out 3).trans rfl
                        have hcz96_4 : wc.cell? ⟨gb361, 4, none⟩ = some (.int .i64 t359) := (blk_cell BK361.out 4).trans rfl
                        have hfz96_0 := blk_frozen BK361.out 0
                        have hfz96_1 := blk_frozen BK361.out 1
                        have hfz96_2 := blk_frozen BK361.out 2
                        have hfz96_3 := blk_frozen BK361.out 3
                        have hfz96_4 := blk_frozen BK361.out 4
                        go_wp2
                        go_ret
                        exact ⟨by first | rfl | (simp [errW_none, errW_some] <;> rfl) | (simp [*, errW_none, errW_some] <;> rfl), by repeat (first | (with_reducible first | exact HB.out | apply below_alloc | apply pw_below_drewN | apply below_drew1 | refine below_set ?_ GE361.out) | exact HB.out)⟩
                    ·rw [if_neg c91] at H
                     have c91b0 : (t358.toList == ([46] : List UInt8)) = false := beq_eq_false_iff_ne.mpr c91
                     have c91b1 : (t358.toList != ([46] : List UInt8)) = true := bne_iff_ne.mpr c91
                     as_aux_lemma =>
                      obtain rfl := Option.some.inj H
                      have hcz97_0 : wc.cell? ⟨gb361, 0, none⟩ = some (.int .i64 t355) := (blk_cell BK361.out 0).trans rfl
                      have hcz97_1 : wc.cell? ⟨gb361, 1, none⟩ = some (.int .i64 t356) := (blk_cell BK361.out 1).trans rfl
                      have hcz97_2 : wc.cell? ⟨gb361, 2, none⟩ = some (.int .i64 t357) := (blk_cell BK361.out 2).trans rfl
                      have hcz97_3 : wc.cell? ⟨gb361, 3, none⟩ = some (.string t358) := (blk_cell BK361.out 3).trans rfl
                      have hcz97_4 : wc.cell? ⟨gb361, 4, none⟩ = some (.int .i64 t359) := (blk_cell BK361.out 4).trans rfl
                      have hfz97_0 := blk_frozen BK361.out 0
                      have hfz97_1 := blk_frozen BK361.out 1
                      have hfz97_2 := blk_frozen BK361.out 2
                      have hfz97_3 := blk_frozen BK361.out 3
                      have hfz97_4 := blk_frozen BK361.out 4
                      go_wp2
                      go_ret
                      exact ⟨by first | rfl | (simp [errW_none, errW_some] <;> rfl) | (simp [*, errW_none, errW_some] <;> rfl), by repeat (first | (with_reducible first | exact HB.out | apply below_alloc | apply pw_below_drewN | apply below_drew1 | refine below_set ?_ GE361.out) | exact HB.out)⟩
                   ·replace c90 := Bool.eq_false_iff.mpr c90
                    subst c90
                    have H1 : (some false) = some r := by rw [if_neg (show ¬ (false = true) by decide)] at H; exact H
                    clear H
                    have H := H1
                    clear H1
                    as_aux_lemma =>
                     obtain rfl := Option.some.inj H
                     have hcz98_0 : wc.cell? ⟨gb361, 0, none⟩ = some (.int .i64 t355) := (blk_cell BK361.out 0).trans rfl
                     have hcz98_1 : wc.cell? ⟨gb361, 1, none⟩ = some (.int .i64 t356) := (blk_cell BK361.out 1).trans rfl
                     have hcz98_2 : wc.cell? ⟨gb361, 2, none⟩ = some (.int .i64 t357) := (blk_cell BK361.out 2).trans rfl
                     have hcz98_3 : wc.cell? ⟨gb361, 3, none⟩ = some (.string t358) := (blk_cell BK361.out 3).trans rfl
                     have hcz98_4 : wc.cell? ⟨gb361, 4, none⟩ = some (.int .i64 t359) := (blk_cell BK361.out 4).trans rfl
                     have hfz98_0 := blk_frozen BK361.out 0
                     have hfz98_1 := blk_frozen BK361.out 1
                     have hfz98_2 := blk_frozen BK361.out 2
                     have hfz98_3 := blk_frozen BK361.out 3
                     have hfz98_4 := blk_frozen BK361.out 4
                     go_wp2
                     go_ret
                     exact ⟨by first | rfl | (simp [errW_none, errW_some] <;> rfl) | (simp [*, errW_none, errW_some] <;> rfl), by repeat (first | (with_reducible first | exact HB.out | apply below_alloc | apply pw_below_drewN | apply below_drew1 | refine below_set ?_ GE361.out) | exact HB.out)⟩
                  ·rw [if_neg c89] at H
                   have c89b0 : (t355 == 7) = false := beq_eq_false_iff_ne.mpr c89
                   have c89b1 : (t355 != 7) = true := bne_iff_ne.mpr c89
                   by_cases c99 : t355 = 6
                   ·rw [if_pos c99] at H
                    have c99b0 : (t355 == 6) = true := beq_iff_eq.mpr c99
                    have c99b1 : (t355 != 6) = false := bne_eq_false_iff_eq.mpr c99
                    clear c99
                    by_cases c100 : t351 = true
                    ·subst c100
                     have H1 : (if t363 = 6 then (some (t357 == (wrap64 (t356 + 1)))) else (some false)) = some r := by rw [if_pos rfl] at H; exact H
                     clear H
                     have H := H1
                     clear H1
                     by_cases c101 : t363 = 6
                     ·rw [if_pos c101] at H
                      have c101b0 : (t363 == 6) = true := beq_iff_eq.mpr c101
                      have c101b1 : (t363 != 6) = false := bne_eq_false_iff_eq.mpr c101
                      clear c101
                      as_aux_lemma =>
                       obtain rfl := Option.some.inj H
                       have hcz102_0 : wc.cell? ⟨gb361, 0, none⟩ = some (.int .i64 t355) := (blk_cell BK361.out 0).trans rfl
                       have hcz102_1 : wc.cell? ⟨gb361, 1, none⟩ = some (.int .i64 t356) := (blk_cell BK361.out 1).trans rfl
                       have hcz102_2 : wc.cell? ⟨gb361, 2, none⟩ = some (.int .i64 t357) := (blk_cell BK361.out 2).trans rfl
                       have hcz102_3 : wc.cell? ⟨gb361, 3, none⟩ = some (.string t358) := (blk_cell BK361.out 3).trans rfl
                       have hcz102_4 : wc.cell? ⟨gb361, 4, none⟩ = some (.int .i64 t359) := (blk_cell BK361.out 4).trans rfl
                       have hfz102_0 := blk_frozen BK361.out 0
                       have hfz102_1 := blk_frozen BK361.out 1
                       have hfz102_2 := blk_frozen BK361.out 2
                       have hfz102_3 := blk_frozen BK361.out 3
                       have hfz102_4 := blk_frozen BK361.out 4
                       go_wp2
                       go_ret
                       exact ⟨by first | rfl | (simp [errW_none, errW_some] <;> rfl) | (simp [*, errW_none, errW_some] <;> rfl), by repeat (first | (with_reducible first | exact HB.out | apply below_alloc | apply pw_below_drewN | apply below_drew1 | refine below_set ?_ GE361.out) | exact HB.out)⟩
                     ·rw [if_neg c101] at H
                      have c101b0 : (t363 == 6) = false := beq_eq_false_iff_ne.mpr c101
                      have c101b1 : (t363 != 6) = true := bne_iff_ne.mpr c101
                      as_aux_lemma =>
                       obtain rfl := Option.some.inj H
                       have hcz103_0 : wc.cell? ⟨gb361, 0, none⟩ = some (.int .i64 t355) := (blk_cell BK361.out 0).trans rfl
                       have hcz103_1 : wc.cell? ⟨gb361, 1, none⟩ = some (.int .i64 t356) := (blk_cell BK361.out 1).trans rfl
                       have hcz103_2 : wc.cell? ⟨gb361, 2, none⟩ = some (.int .i64 t357) := (blk_cell BK361.out 2).trans rfl
                       have hcz103_3 : wc.cell? ⟨gb361, 3, none⟩ = some (.string t358) := (blk_cell BK361.out 3).trans rfl
                       have hcz103_4 : wc.cell? ⟨gb361, 4, none⟩ = some (.int .i64 t359) := (blk_cell BK361.out 4).trans rfl
                       have hfz103_0 := blk_frozen BK361.out 0
                       have hfz103_1 := blk_frozen BK361.out 1
                       have hfz103_2 := blk_frozen BK361.out 2
                       have hfz103_3 := blk_frozen BK361.out 3
                       have hfz103_4 := blk_frozen BK361.out 4
                       go_wp2
                       go_ret
                       exact ⟨by first | rfl | (simp [errW_none, errW_some] <;> rfl) | (simp [*, errW_none, errW_some] <;> rfl), by repeat (first | (with_reducible first | exact HB.out | apply below_alloc | apply pw_below_drewN | apply below_drew1 | refine below_set ?_ GE361.out) | exact HB.out)⟩
                    ·replace c100 := Bool.eq_false_iff.mpr c100
                     subst c100
                     have H1 : (some false) = some r := by rw [if_neg (show ¬ (false = true) by decide)] at H; exact H
                     clear H
                     have H := H1
                     clear H1
                     as_aux_lemma =>
                      obtain rfl := Option.some.inj H
                      have hcz104_0 : wc.cell? ⟨gb361, 0, none⟩ = some (.int .i64 t355) := (blk_cell BK361.out 0).trans rfl
                      have hcz104_1 : wc.cell? ⟨gb361, 1, none⟩ = some (.int .i64 t356) := (blk_cell BK361.out 1).trans rfl
                      have hcz104_2 : wc.cell? ⟨gb361, 2, none⟩ = some (.int .i64 t357) := (blk_cell BK361.out 2).trans rfl
                      have hcz104_3 : wc.cell? ⟨gb361, 3, none⟩ = some (.string t358) := (blk_cell BK361.out 3).trans rfl
                      have hcz104_4 : wc.cell? ⟨gb361, 4, none⟩ = some (.int .i64 t359) := (blk_cell BK361.out 4).trans rfl
                      have hfz104_0 := blk_frozen BK361.out 0
                      have hfz104_1 := blk_frozen BK361.out 1
                      have hfz104_2 := blk_frozen BK361.out 2
                      have hfz104_3 := blk_frozen BK361.out 3
                      have hfz104_4 := blk_frozen BK361.out 4
                      go_wp2
                      go_ret
                      exact ⟨by first | rfl | (simp [errW_none, errW_some] <;> rfl) | (simp [*, errW_none, errW_some] <;> rfl), by repeat (first | (with_reducible first | exact HB.out | apply below_alloc | apply pw_below_drewN | apply below_drew1 | refine below_set ?_ GE361.out) | exact HB.out)⟩
                   ·rw [if_neg c99] at H
                    have c99b0 : (t355 == 6) = false := beq_eq_false_iff_ne.mpr c99
                    have c99b1 : (t355 != 6) = true := bne_iff_ne.mpr c99
                    by_cases c105 : t355 = 5
                    ·rw [if_pos c105] at H
                     have c105b0 : (t355 == 5) = true := beq_iff_eq.mpr c105
                     have c105b1 : (t355 != 5) = false := bne_eq_false_iff_eq.mpr c105
                     clear c105
                     by_cases c106 : t351 = true
                     ·subst c106
                      have H1 : (if t363 = 7 then (if 0 ≤ (wrap64 (t357 - 1)) then (if (wrap64 (t357 - 1)) < (t352.length : Int) then (if (rd t352 (wrap64 (t357 - 1))) = 39 then (some (decide (t357 ≥ (wrap64 (t356 + 2))))) else (some false)) else (none)) else (none)) else (some false)) = some r := by rw [if_pos rfl] at H; exact H
                      clear H
                      have H := H1
                      clear H1
                      by_cases c107 : t363 = 7
                      ·rw [if_pos c107] at H
                       have c107b0 : (t363 == 7) = true := beq_iff_eq.mpr c107
                       have c107b1 : (t363 != 7) = false := bne_eq_false_iff_eq.mpr c107
                       clear c107
                       obtain ⟨ji108, hji108⟩ : ∃ j_ : Int, (wrap64 (t357 - 1)) = j_ := ⟨_, rfl⟩
                       replace H : (if 0 ≤ (ji108) then (if (ji108) < (t352.length : Int) then (if (rd t352 (ji108)) = 39 then (some (decide (t357 ≥ (wrap64 (t356 + 2))))) else (some false)) else (none)) else (none)) = some r := by first | (rw [hji108] at H; exact H) | (simp only [hji108] at H ⊢; exact H)
                       have hji108w : (IntKind.i64.wrap (t357 - 1)) = ji108 := (i64_w _).trans hji108
                       by_cases c109 : 0 ≤ (ji108)
                       ·rw [if_pos c109] at H
                        have c109b0 : decide (0 ≤ (ji108)) = true := decide_eq_true c109
                        clear c109
                        by_cases c110 : (ji108) < (t352.length : Int)
                        ·rw [if_pos c110] at H
                         have c110b0 : decide ((ji108) < (t352.length : Int)) = true := decide_eq_true c110
                         clear c110
                         by_cases c111 : (rd t352 (ji108)) = 39
                         ·rw [if_pos c111] at H
                          have c111b0 : ((rd t352 (ji108)) == 39) = true := beq_iff_eq.mpr c111
                          have c111b1 : ((rd t352 (ji108)) != 39) = false := bne_eq_false_iff_eq.mpr c111
                          clear c111
                          as_aux_lemma =>
                           obtain rfl := Option.some.inj H
                           have hcz112_0 : wc.cell? ⟨gb361, 0, none⟩ = some (.int .i64 t355) := (blk_cell BK361.out 0).trans rfl
                           have hcz112_1 : wc.cell? ⟨gb361, 1, none⟩ = some (.int .i64 t356) := (blk_cell BK361.out 1).trans rfl
                           have hcz112_2 : wc.cell? ⟨gb361, 2, none⟩ = some (.int .i64 t357) := (blk_cell BK361.out 2).trans rfl
                           have hcz112_3 : wc.cell? ⟨gb361, 3, none⟩ = some (.string t358) := (blk_cell BK361.out 3).trans rfl
                           have hcz112_4 : wc.cell? ⟨gb361, 4, none⟩ = some (.int .i64 t359) := (blk_cell BK361.out 4).trans rfl
                           have hfz112_0 := blk_frozen BK361.out 0
                           have hfz112_1 := blk_frozen BK361.out 1
                           have hfz112_2 := blk_frozen BK361.out 2
                           have hfz112_3 := blk_frozen BK361.out 3
                           have hfz112_4 := blk_frozen BK361.out 4
                           have p366 : 0 ≤ ((ji108) : Int) := of_decide_eq_true (by first | (with_reducible assumption) | assumption)
                           have q366 : (ji108) < (t352.length : Int) := of_decide_eq_true (by first | (with_reducible assumption) | assumption)
                           obtain ⟨ad366, e366, hx366_0⟩ := Kd.at_int (Kd.V_reads' HO_6.out).2.2 (ji108) p366 q366
                           obtain rfl : ad362 = ad366 := (by injection e366)
                           replace p366 := eq_true p366
                           replace q366 := eq_true q366
                           go_wp2
                           go_ret
                           exact ⟨by first | rfl | (simp [errW_none, errW_some] <;> rfl) | (simp only [← hji108]; first | rfl | (simp [errW_none, errW_some] <;> rfl)) | (simp [*, errW_none, errW_some] <;> rfl), by repeat (first | (with_reducible first | exact HB.out | apply below_alloc | apply pw_below_drewN | apply below_drew1 | refine below_set ?_ GE361.out) | exact HB.out)⟩
                         ·rw [if_neg c111] at H
                          have c111b0 : ((rd t352 (ji108)) == 39) = false := beq_eq_false_iff_ne.mpr c111
                          have c111b1 : ((rd t352 (ji108)) != 39) = true := bne_iff_ne.mpr c111
                          as_aux_lemma =>
                           obtain rfl := Option.some.inj H
                           have hcz113_0 : wc.cell? ⟨gb361, 0, none⟩ = some (.int .i64 t355) := (blk_cell BK361.out 0).trans rfl
                           have hcz113_1 : wc.cell? ⟨gb361, 1, none⟩ = some (.int .i64 t356) := (blk_cell BK361.out 1).trans rfl
                           have hcz113_2 : wc.cell? ⟨gb361, 2, none⟩ = some (.int .i64 t357) := (blk_cell BK361.out 2).trans rfl
                           have hcz113_3 : wc.cell? ⟨gb361, 3, none⟩ = some (.string t358) := (blk_cell BK361.out 3).trans rfl
                           have hcz113_4 : wc.cell? ⟨gb361, 4, none⟩ = some (.int .i64 t359) := (blk_cell BK361.out 4).trans rfl
                           have hfz113_0 := blk_frozen BK361.out 0
                           have hfz113_1 := blk_frozen BK361.out 1
                           have hfz113_2 := blk_frozen BK361.out 2
                           have hfz113_3 := blk_frozen BK361.out 3
                           have hfz113_4 := blk_frozen BK361.out 4
                           have p366 : 0 ≤ ((ji108) : Int) := of_decide_eq_true (by first | (with_reducible assumption) | assumption)
                           have q366 : (ji108) < (t352.length : Int) := of_decide_eq_true (by first | (with_reducible assumption) | assumption)
                           obtain ⟨ad366, e366, hx366_0⟩ := Kd.at_int (Kd.V_reads' HO_6.out).2.2 (ji108) p366 q366
                           obtain rfl : ad362 = ad366 := (by injection e366)
                           replace p366 := eq_true p366
                           replace q366 := eq_true q366
                           go_wp2
                           go_ret
                           exact ⟨by first | rfl | (simp [errW_none, errW_some] <;> rfl) | (simp only [← hji108]; first | rfl | (simp [errW_none, errW_some] <;> rfl)) | (simp [*, errW_none, errW_some] <;> rfl), by repeat (first | (with_reducible first | exact HB.out | apply below_alloc | apply pw_below_drewN | apply below_drew1 | refine below_set ?_ GE361.out) | exact HB.out)⟩
                        ·rw [if_neg c110] at H
                         exact absurd H (by simp)
                       ·rw [if_neg c109] at H
                        exact absurd H (by simp)
                      ·rw [if_neg c107] at H
                       have c107b0 : (t363 == 7) = false := beq_eq_false_iff_ne.mpr c107
                       have c107b1 : (t363 != 7) = true := bne_iff_ne.mpr c107
                       as_aux_lemma =>
                        obtain rfl := Option.some.inj H
                        have hcz114_0 : wc.cell? ⟨gb361, 0, none⟩ = some (.int .i64 t355) := (blk_cell BK361.out 0).trans rfl
                        have hcz114_1 : wc.cell? ⟨gb361, 1, none⟩ = some (.int .i64 t356) := (blk_cell BK361.out 1).trans rfl
                        have hcz114_2 : wc.cell? ⟨gb361, 2, none⟩ = some (.int .i64 t357) := (blk_cell BK361.out 2).trans rfl
                        have hcz114_3 : wc.cell? ⟨gb361, 3, none⟩ = some (.string t358) := (blk_cell BK361.out 3).trans rfl
                        have hcz114_4 : wc.cell? ⟨gb361, 4, none⟩ = some (.int .i64 t359) := (blk_cell BK361.out 4).trans rfl
                        have hfz114_0 := blk_frozen BK361.out 0
                        have hfz114_1 := blk_frozen BK361.out 1
                        have hfz114_2 := blk_frozen BK361.out 2
                        have hfz114_3 := blk_frozen BK361.out 3
                        have hfz114_4 := blk_frozen BK361.out 4
                        go_wp2
                        go_ret
                        exact ⟨by first | rfl | (simp [errW_none, errW_some] <;> rfl) | (simp [*, errW_none, errW_some] <;> rfl), by repeat (first | (with_reducible first | exact HB.out | apply below_alloc | apply pw_below_drewN | apply below_drew1 | refine below_set ?_ GE361.out) | exact HB.out)⟩
                     ·replace c106 := Bool.eq_false_iff.mpr c106
                      subst c106
                      have H1 : (some false) = some r := by rw [if_neg (show ¬ (false = true) by decide)] at H; exact H
                      clear H
                      have H := H1
                      clear H1
                      as_aux_lemma =>
                       obtain rfl := Option.some.inj H
                       have hcz115_0 : wc.cell? ⟨gb361, 0, none⟩ = some (.int .i64 t355) := (blk_cell BK361.out 0).trans rfl
                       have hcz115_1 : wc.cell? ⟨gb361, 1, none⟩ = some (.int .i64 t356) := (blk_cell BK361.out 1).trans rfl
                       have hcz115_2 : wc.cell? ⟨gb361, 2, none⟩ = some (.int .i64 t357) := (blk_cell BK361.out 2).trans rfl
                       have hcz115_3 : wc.cell? ⟨gb361, 3, none⟩ = some (.string t358) := (blk_cell BK361.out 3).trans rfl
                       have hcz115_4 : wc.cell? ⟨gb361, 4, none⟩ = some (.int .i64 t359) := (blk_cell BK361.out 4).trans rfl
                       have hfz115_0 := blk_frozen BK361.out 0
                       have hfz115_1 := blk_frozen BK361.out 1
                       have hfz115_2 := blk_frozen BK361.out 2
                       have hfz115_3 := blk_frozen BK361.out 3
                       have hfz115_4 := blk_frozen BK361.out 4
                       go_wp2
                       go_ret
                       exact ⟨by first | rfl | (simp [errW_none, errW_some] <;> rfl) | (simp [*, errW_none, errW_some] <;> rfl), by repeat (first | (with_reducible first | exact HB.out | apply below_alloc | apply pw_below_drewN | apply below_drew1 | refine below_set ?_ GE361.out) | exact HB.out)⟩
                    ·rw [if_neg c105] at H
                     have c105b0 : (t355 == 5) = false := beq_eq_false_iff_ne.mpr c105
                     have c105b1 : (t355 != 5) = true := bne_iff_ne.mpr c105
                     by_cases c116 : t351 = true
                     ·subst c116
                      have H1 : (some (t355 == 8)) = some r := by rw [if_pos rfl] at H; exact H
                      clear H
                      have H := H1
                      clear H1
                      as_aux_lemma =>
                       obtain rfl := Option.some.inj H
                       have hcz117_0 : wc.cell? ⟨gb361, 0, none⟩ = some (.int .i64 t355) := (blk_cell BK361.out 0).trans rfl
                       have hcz117_1 : wc.cell? ⟨gb361, 1, none⟩ = some (.int .i64 t356) := (blk_cell BK361.out 1).trans rfl
                       have hcz117_2 : wc.cell? ⟨gb361, 2, none⟩ = some (.int .i64 t357) := (blk_cell BK361.out 2).trans rfl
                       have hcz117_3 : wc.cell? ⟨gb361, 3, none⟩ = some (.string t358) := (blk_cell BK361.out 3).trans rfl
                       have hcz117_4 : wc.cell? ⟨gb361, 4, none⟩ = some (.int .i64 t359) := (blk_cell BK361.out 4).trans rfl
                       have hfz117_0 := blk_frozen BK361.out 0
                       have hfz117_1 := blk_frozen BK361.out 1
                       have hfz117_2 := blk_frozen BK361.out 2
                       have hfz117_3 := blk_frozen BK361.out 3
                       have hfz117_4 := blk_frozen BK361.out 4
                       go_wp2
                       go_ret
                       exact ⟨by first | rfl | (simp [errW_none, errW_some] <;> rfl) | (simp [*, errW_none, errW_some] <;> rfl), by repeat (first | (with_reducible first | exact HB.out | apply below_alloc | apply pw_below_drewN | apply below_drew1 | refine below_set ?_ GE361.out) | exact HB.out)⟩
                     ·replace c116 := Bool.eq_false_iff.mpr c116
                      subst c116
                      have H1 : (some false) = some r := by rw [if_neg (show ¬ (false = true) by decide)] at H; exact H
                      clear H
                      have H := H1
                      clear H1
                      as_aux_lemma =>
                       obtain rfl := Option.some.inj H
                       have hcz118_0 : wc.cell? ⟨gb361, 0, none⟩ = some (.int .i64 t355) := (blk_cell BK361.out 0).trans rfl
                       have hcz118_1 : wc.cell? ⟨gb361, 1, none⟩ = some (.int .i64 t356) := (blk_cell BK361.out 1).trans rfl
                       have hcz118_2 : wc.cell? ⟨gb361, 2, none⟩ = some (.int .i64 t357) := (blk_cell BK361.out 2).trans rfl
                       have hcz118_3 : wc.cell? ⟨gb361, 3, none⟩ = some (.string t358) := (blk_cell BK361.out 3).trans rfl
                       have hcz118_4 : wc.cell? ⟨gb361, 4, none⟩ = some (.int .i64 t359) := (blk_cell BK361.out 4).trans rfl
                       have hfz118_0 := blk_frozen BK361.out 0
                       have hfz118_1 := blk_frozen BK361.out 1
                       have hfz118_2 := blk_frozen BK361.out 2
                       have hfz118_3 := blk_frozen BK361.out 3
                       have hfz118_4 := blk_frozen BK361.out 4
                       go_wp2
                       go_ret
                       exact ⟨by first | rfl | (simp [errW_none, errW_some] <;> rfl) | (simp [*, errW_none, errW_some] <;> rfl), by repeat (first | (with_reducible first | exact HB.out | apply below_alloc | apply pw_below_drewN | apply below_drew1 | refine below_set ?_ GE361.out) | exact HB.out)⟩
       ·rw [if_neg c23] at H
        exact absurd H (by simp)
      ·rw [if_neg c22] at H
       exact absurd H (by simp)
/-- THE ONE PURE STATEMENT of tmesislaw06_TokenRuns: yours. -/
def tmesislaw06_TokenRuns.Pure : Prop := ∀ (l0 : List Int) (a1 : Int), l0.length ≤ maxLen → l0.length * 1 ≤ 140737488351232 → (∀ x ∈ l0, (Lit.int .u8 x).wf = true) → (Lit.int .u8 a1).wf = true → ∃ k, tmesislaw06_TokenRuns.f k l0 a1 = some true
theorem tmesislaw06_TokenRuns.walk (P : tmesislaw06_TokenRuns.Pure) (a0 : Option Addr) (len0 cap0 : Nat) (z0 : List Int) (a1 : Int) (w : World) (hG : Gl w) (w0 : (a0 = none ∧ len0 = 0 ∧ cap0 = 0 ∧ z0 = []) ∨ ∃ x, a0 = some x ∧ len0 ≤ cap0 ∧ cap0 ≤ maxLen ∧ z0.length = cap0 ∧ (∀ i, i < z0.length → w.cell? (x.add i) = some (.int .u8 (z0.getD i 0))) ∧ ∀ n ∈ z0, (Lit.int .u8 n).wf = true) (y0 : len0 * 1 ≤ 140737488351232) (w1 : (Lit.int .u8 a1).wf = true) :
  Calls Tryd.prog 5 #[.slice a0 len0 cap0, .int .u8 a1] w fun e w' => e = .returned (.bool true) ∧ Below w.heap.size w w' := by
 obtain ⟨l0, rfl, hr0, hm0, hw0, hc0⟩ := ReadsInt.ofRowC w0
 obtain ⟨k, h⟩ := P l0 a1 hm0 y0 hw0 w1
 refine (tmesislaw06_TokenRuns.calls k _ _ l0 a1 true w hG (Kd.C_of_reads (d := (0 : Int)) (h1 := fun _ => rfl) hr0) hc0 h).mono ?_
 rintro e w' ⟨rfl, hd⟩
 exact ⟨rfl, hd⟩
end Go.Proofs.YtflekegjmjjdmaaDoor.P
