/- Part of the proof: what the theorem needs of this text. -/
import Derived.Test.YtflekegjmjjdmaaDoorKHG
import Derived.Test.YtflekegjmjjdmaaDoorKHTX
import Derived.Test.YtflekegjmjjdmaaDoorKPx0
import Derived.Test.YtflekegjmjjdmaaDoorKPx1
import Derived.Test.YtflekegjmjjdmaaDoorKPx8
namespace Go.Proofs.YtflekegjmjjdmaaDoor.P
open Go.RowKit Go.Proofs.YtflekegjmjjdmaaDoorW.PrintWords Go.Proofs.YtflekegjmjjdmaaDoorW.PrintLast Go.Proofs.YtflekegjmjjdmaaDoorW.PrintMore
attribute [local go_sem] max2_int min2_int max_two min_two max_three min_three max_four min_four   -- for this text's walks alone
set_option linter.unusedVariables false
set_option linter.unusedSimpArgs false
attribute [local go_sem high] eqA27
mutual
def tmesislaw06_TokenMoves.j0 : Nat → Bool → Bool → Bool → Int → Int → Int → ByteArray → Int → Int → Int → Int → ByteArray → Int → Option (Bool)
 | 0, _, _, _, _, _, _, _, _, _, _, _, _, _ => none
 | k + 1, x5, x9, x11, x381000, x381001, x381002, x381003, x381004, x397000, x397001, x397002, x397003, x397004 => if x5 = true then (if (x9 == x11) = true then (tmesislaw06_TokenMoves.j1 k (x381000 == x397000 && (x381001 == x397001 && (x381002 == x397002 && (x381003.toList == x397003.toList && (x381004 == x397004)))))) else (tmesislaw06_TokenMoves.j1 k false)) else (tmesislaw06_TokenMoves.j1 k false)
def tmesislaw06_TokenMoves.j1 : Nat → Bool → Option (Bool)
 | 0, _ => none
 | k + 1, x4 => some x4
end
def tmesislaw06_TokenMoves.f (k : Nat) (l0 : List Int) (l1 : List Int) : Option (Bool) := (tmesislaw06_shown.f k).bind fun t367 => ((tmesislaw06_few.f l0).bind fun t368 => ((tmesislaw06_few.f l1).bind fun t371 => ((token_Next.f k t371 0).bind fun bt374 => ((some (([] : List Int) : List Int)).bind fun y381 => (if y381.length + t368.length < 140737488355328 then ((some (y381 ++ t368 : List Int)).bind fun y384 => (if y384.length + t371.length < 140737488355328 then ((token_Next.f k (y384 ++ t371) (t368.length : Int)).bind fun bt390 => (if bt374.2.2.2.2.2 = true then (tmesislaw06_TokenMoves.j0 k t367 bt374.2.2.2.2.2 bt390.2.2.2.2.2 bt374.1 (wrap64 (bt374.2.1 + (t368.length : Int))) (wrap64 (bt374.2.2.1 + (t368.length : Int))) bt374.2.2.2.1 bt374.2.2.2.2.1 bt390.1 bt390.2.1 bt390.2.2.1 bt390.2.2.2.1 bt390.2.2.2.2.1) else (tmesislaw06_TokenMoves.j0 k t367 bt374.2.2.2.2.2 bt390.2.2.2.2.2 bt374.1 bt374.2.1 bt374.2.2.1 bt374.2.2.2.1 bt374.2.2.2.2.1 bt390.1 bt390.2.1 bt390.2.2.1 bt390.2.2.2.1 bt390.2.2.2.2.1))) else (none))) else (none))))))
theorem tmesislaw06_TokenMoves.mono_l : ∀ k, (∀ y0 y1 y2 y3 y4 y5 y6 y7 y8 y9 y10 y11 y12, LeO (tmesislaw06_TokenMoves.j0 k y0 y1 y2 y3 y4 y5 y6 y7 y8 y9 y10 y11 y12) (tmesislaw06_TokenMoves.j0 (k + 1) y0 y1 y2 y3 y4 y5 y6 y7 y8 y9 y10 y11 y12)) ∧ (∀ y0, LeO (tmesislaw06_TokenMoves.j1 k y0) (tmesislaw06_TokenMoves.j1 (k + 1) y0))
 | 0 => ⟨fun _ _ _ _ _ _ _ _ _ _ _ _ _ r h => by simp [tmesislaw06_TokenMoves.j0] at h, fun _ r h => by simp [tmesislaw06_TokenMoves.j1] at h⟩
 | k + 1 => by
  obtain ⟨ih0, ih1⟩ := tmesislaw06_TokenMoves.mono_l k
  refine ⟨?_, ?_⟩
  ·intro y0 y1 y2 y3 y4 y5 y6 y7 y8 y9 y10 y11 y12
   unfold tmesislaw06_TokenMoves.j0
   repeat' first
   | (with_reducible exact ih0 _ _ _ _ _ _ _ _ _ _ _ _ _)
   | (with_reducible exact ih1 _)
   | (with_reducible exact tmesislaw06_shown.mono _)
   | (with_reducible exact token_Next.mono _ _ _)
   | (with_reducible exact LeO.refl _)
   | (with_reducible exact LeO.none _)
   | (with_reducible refine LeO.ite ?_ ?_)
   | (with_reducible refine LeO.bind ?_ (fun _ => ?_))
   | exact ih0 _ _ _ _ _ _ _ _ _ _ _ _ _
   | exact ih1 _
   | exact tmesislaw06_shown.mono _
   | exact token_Next.mono _ _ _
   | exact LeO.none _
   | refine LeO.ite ?_ ?_
   | refine LeO.bind ?_ (fun _ => ?_)
  ·intro y0
   unfold tmesislaw06_TokenMoves.j1
   repeat' first
   | (with_reducible exact ih0 _ _ _ _ _ _ _ _ _ _ _ _ _)
   | (with_reducible exact ih1 _)
   | (with_reducible exact tmesislaw06_shown.mono _)
   | (with_reducible exact token_Next.mono _ _ _)
   | (with_reducible exact LeO.refl _)
   | (with_reducible exact LeO.none _)
   | (with_reducible refine LeO.ite ?_ ?_)
   | (with_reducible refine LeO.bind ?_ (fun _ => ?_))
   | exact ih0 _ _ _ _ _ _ _ _ _ _ _ _ _
   | exact ih1 _
   | exact tmesislaw06_shown.mono _
   | exact token_Next.mono _ _ _
   | exact LeO.none _
   | refine LeO.ite ?_ ?_
   | refine LeO.bind ?_ (fun _ => ?_)
theorem tmesislaw06_TokenMoves.mono : ∀ a0 a1 k, LeO (tmesislaw06_TokenMoves.f k a0 a1) (tmesislaw06_TokenMoves.f (k + 1) a0 a1) := by
 intro a0 a1 k
 obtain ⟨ih0, ih1⟩ := tmesislaw06_TokenMoves.mono_l k
 unfold tmesislaw06_TokenMoves.f
 repeat' first
   | (with_reducible exact ih0 _ _ _ _ _ _ _ _ _ _ _ _ _)
   | (with_reducible exact ih1 _)
   | (with_reducible exact tmesislaw06_shown.mono _)
   | (with_reducible exact token_Next.mono _ _ _)
   | (with_reducible exact LeO.refl _)
   | (with_reducible exact LeO.none _)
   | (with_reducible refine LeO.ite ?_ ?_)
   | (with_reducible refine LeO.bind ?_ (fun _ => ?_))
   | exact ih0 _ _ _ _ _ _ _ _ _ _ _ _ _
   | exact ih1 _
   | exact tmesislaw06_shown.mono _
   | exact token_Next.mono _ _ _
   | exact LeO.none _
   | refine LeO.ite ?_ ?_
   | refine LeO.bind ?_ (fun _ => ?_)
set_option maxHeartbeats 8000000 in
set_option maxRecDepth 100000 in
theorem tmesislaw06_TokenMoves.calls (k : Nat) (A0 : Option Addr) (c0 : Nat) (l0 : List Int) (A1 : Option Addr) (c1 : Nat) (l1 : List Int) (r : Bool) (w : World) (hG : Gl w) (hr0 : Kd.C (Kd.int .u8) w A0 l0.length l0) (hc0 : l0.length ≤ c0) (hr1 : Kd.C (Kd.int .u8) w A1 l1.length l1) (hc1 : l1.length ≤ c1) (h : tmesislaw06_TokenMoves.f k l0 l1 = some r) :
  Calls Tryd.prog 6 #[.slice A0 l0.length c0, .slice A1 l1.length c1] w fun e w' => e = .returned (.bool r) ∧ Below w.heap.size w w' := by
 have hu27 := Tryd.underlying27
 have HR0 := Aside0.mk hr0
 have HC0 := Aside0.mk hc0
 clear hr0 hc0
 have HR1 := Aside0.mk hr1
 have HC1 := Aside0.mk hc1
 clear hr1 hc1
 have HB := Aside0.mk (Below.refl w.heap.size w)
 have HG := Aside0.mk hG
 clear hG
 have H : ((tmesislaw06_shown.f k).bind fun t367 => ((tmesislaw06_few.f l0).bind fun t368 => ((tmesislaw06_few.f l1).bind fun t371 => ((token_Next.f k t371 0).bind fun bt374 => ((some (([] : List Int) : List Int)).bind fun y381 => (if y381.length + t368.length < 140737488355328 then ((some (y381 ++ t368 : List Int)).bind fun y384 => (if y384.length + t371.length < 140737488355328 then ((token_Next.f k (y384 ++ t371) (t368.length : Int)).bind fun bt390 => (if bt374.2.2.2.2.2 = true then (tmesislaw06_TokenMoves.j0 k t367 bt374.2.2.2.2.2 bt390.2.2.2.2.2 bt374.1 (wrap64 (bt374.2.1 + (t368.length : Int))) (wrap64 (bt374.2.2.1 + (t368.length : Int))) bt374.2.2.2.1 bt374.2.2.2.2.1 bt390.1 bt390.2.1 bt390.2.2.1 bt390.2.2.2.1 bt390.2.2.2.2.1) else (tmesislaw06_TokenMoves.j0 k t367 bt374.2.2.2.2.2 bt390.2.2.2.2.2 bt374.1 bt374.2.1 bt374.2.2.1 bt374.2.2.2.1 bt374.2.2.2.2.1 bt390.1 bt390.2.1 bt390.2.2.1 bt390.2.2.2.1 bt390.2.2.2.2.1))) else (none))) else (none))))))) = some r := h
 clear h
 replace H := Option.bind_eq_some_iff.mp H
 obtain ⟨t367, A30, H⟩ := H
 replace H : ((tmesislaw06_few.f l0).bind fun t368 => ((tmesislaw06_few.f l1).bind fun t371 => ((token_Next.f k t371 0).bind fun bt374 => ((some (([] : List Int) : List Int)).bind fun y381 => (if y381.length + t368.length < 140737488355328 then ((some (y381 ++ t368 : List Int)).bind fun y384 => (if y384.length + t371.length < 140737488355328 then ((token_Next.f k (y384 ++ t371) (t368.length : Int)).bind fun bt390 => (if bt374.2.2.2.2.2 = true then (tmesislaw06_TokenMoves.j0 k t367 bt374.2.2.2.2.2 bt390.2.2.2.2.2 bt374.1 (wrap64 (bt374.2.1 + (t368.length : Int))) (wrap64 (bt374.2.2.1 + (t368.length : Int))) bt374.2.2.2.1 bt374.2.2.2.2.1 bt390.1 bt390.2.1 bt390.2.2.1 bt390.2.2.2.1 bt390.2.2.2.2.1) else (tmesislaw06_TokenMoves.j0 k t367 bt374.2.2.2.2.2 bt390.2.2.2.2.2 bt374.1 bt374.2.1 bt374.2.2.1 bt374.2.2.2.1 bt374.2.2.2.2.1 bt390.1 bt390.2.1 bt390.2.2.1 bt390.2.2.2.1 bt390.2.2.2.2.1))) else (none))) else (none)))))) = some r := H
 have A3 := Aside0.mk A30
 clear A30
 replace H := Option.bind_eq_some_iff.mp H
 obtain ⟨t368, A40, H⟩ := H
 replace H : ((tmesislaw06_few.f l1).bind fun t371 => ((token_Next.f k t371 0).bind fun bt374 => ((some (([] : List Int) : List Int)).bind fun y381 => (if y381.length + t368.length < 140737488355328 then ((some (y381 ++ t368 : List Int)).bind fun y384 => (if y384.length + t371.length < 140737488355328 then ((token_Next.f k (y384 ++ t371) (t368.length : Int)).bind fun bt390 => (if bt374.2.2.2.2.2 = true then (tmesislaw06_TokenMoves.j0 k t367 bt374.2.2.2.2.2 bt390.2.2.2.2.2 bt374.1 (wrap64 (bt374.2.1 + (t368.length : Int))) (wrap64 (bt374.2.2.1 + (t368.length : Int))) bt374.2.2.2.1 bt374.2.2.2.2.1 bt390.1 bt390.2.1 bt390.2.2.1 bt390.2.2.2.1 bt390.2.2.2.2.1) else (tmesislaw06_TokenMoves.j0 k t367 bt374.2.2.2.2.2 bt390.2.2.2.2.2 bt374.1 bt374.2.1 bt374.2.2.1 bt374.2.2.2.1 bt374.2.2.2.2.1 bt390.1 bt390.2.1 bt390.2.2.1 bt390.2.2.2.1 bt390.2.2.2.2.1))) else (none))) else (none))))) = some r := H
 have A4 := Aside0.mk A40
 clear A40
 replace H := Option.bind_eq_some_iff.mp H
 obtain ⟨t371, A50, H⟩ := H
 replace H : ((token_Next.f k t371 0).bind fun bt374 => ((some (([] : List Int) : List Int)).bind fun y381 => (if y381.length + t368.length < 140737488355328 then ((some (y381 ++ t368 : List Int)).bind fun y384 => (if y384.length + t371.length < 140737488355328 then ((token_Next.f k (y384 ++ t371) (t368.length : Int)).bind fun bt390 => (if bt374.2.2.2.2.2 = true then (tmesislaw06_TokenMoves.j0 k t367 bt374.2.2.2.2.2 bt390.2.2.2.2.2 bt374.1 (wrap64 (bt374.2.1 + (t368.length : Int))) (wrap64 (bt374.2.2.1 + (t368.length : Int))) bt374.2.2.2.1 bt374.2.2.2.2.1 bt390.1 bt390.2.1 bt390.2.2.1 bt390.2.2.2.1 bt390.2.2.2.2.1) else (tmesislaw06_TokenMoves.j0 k t367 bt374.2.2.2.2.2 bt390.2.2.2.2.2 bt374.1 bt374.2.1 bt374.2.2.1 bt374.2.2.2.1 bt374.2.2.2.2.1 bt390.1 bt390.2.1 bt390.2.2.1 bt390.2.2.2.1 bt390.2.2.2.2.1))) else (none))) else (none)))) = some r := H
 have A5 := Aside0.mk A50
 clear A50
 replace H := Option.bind_eq_some_iff.mp H
 obtain ⟨⟨t374, t375, t376, t377, t378, t379⟩, A60, H⟩ := H
 replace H : ((some (([] : List Int) : List Int)).bind fun y381 => (if y381.length + t368.length < 140737488355328 then ((some (y381 ++ t368 : List Int)).bind fun y384 => (if y384.length + t371.length < 140737488355328 then ((token_Next.f k (y384 ++ t371) (t368.length : Int)).bind fun bt390 => (if t379 = true then (tmesislaw06_TokenMoves.j0 k t367 t379 bt390.2.2.2.2.2 t374 (wrap64 (t375 + (t368.length : Int))) (wrap64 (t376 + (t368.length : Int))) t377 t378 bt390.1 bt390.2.1 bt390.2.2.1 bt390.2.2.2.1 bt390.2.2.2.2.1) else (tmesislaw06_TokenMoves.j0 k t367 t379 bt390.2.2.2.2.2 t374 t375 t376 t377 t378 bt390.1 bt390.2.1 bt390.2.2.1 bt390.2.2.2.1 bt390.2.2.2.2.1))) else (none))) else (none))) = some r := H
 have A6 := Aside0.mk A60
 clear A60
 obtain ⟨y381, hy381⟩ : ∃ y_ : List Int, y_ = (([] : List Int)) := ⟨_, rfl⟩
 replace H : (if y381.length + t368.length < 140737488355328 then ((some (y381 ++ t368 : List Int)).bind fun y384 => (if y384.length + t371.length < 140737488355328 then ((token_Next.f k (y384 ++ t371) (t368.length : Int)).bind fun bt390 => (if t379 = true then (tmesislaw06_TokenMoves.j0 k t367 t379 bt390.2.2.2.2.2 t374 (wrap64 (t375 + (t368.length : Int))) (wrap64 (t376 + (t368.length : Int))) t377 t378 bt390.1 bt390.2.1 bt390.2.2.1 bt390.2.2.2.1 bt390.2.2.2.2.1) else (tmesislaw06_TokenMoves.j0 k t367 t379 bt390.2.2.2.2.2 t374 t375 t376 t377 t378 bt390.1 bt390.2.1 bt390.2.2.1 bt390.2.2.2.1 bt390.2.2.2.2.1))) else (none))) else (none)) = some r := by first | (rw [hy381]; with_reducible exact H) | (have H2_ := (Option.bind_some _ _).symm.trans H; rw [hy381]; with_reducible exact H2_) | (have H2_ := (Option.bind_some _ _).symm.trans H; with_reducible exact H2_) | with_reducible exact H | (rw [hy381]; exact H) | exact H
 have Ny381 := Aside0.mk hy381
 clear hy381
 by_cases c7 : y381.length + t368.length < 140737488355328
 ·rw [if_pos c7] at H
  have LMc7 := Aside0.mk c7
  clear c7
  obtain ⟨y384, hy384⟩ : ∃ y_ : List Int, y_ = (y381 ++ t368) := ⟨_, rfl⟩
  replace H : (if y384.length + t371.length < 140737488355328 then ((token_Next.f k (y384 ++ t371) (t368.length : Int)).bind fun bt390 => (if t379 = true then (tmesislaw06_TokenMoves.j0 k t367 t379 bt390.2.2.2.2.2 t374 (wrap64 (t375 + (t368.length : Int))) (wrap64 (t376 + (t368.length : Int))) t377 t378 bt390.1 bt390.2.1 bt390.2.2.1 bt390.2.2.2.1 bt390.2.2.2.2.1) else (tmesislaw06_TokenMoves.j0 k t367 t379 bt390.2.2.2.2.2 t374 t375 t376 t377 t378 bt390.1 bt390.2.1 bt390.2.2.1 bt390.2.2.2.1 bt390.2.2.2.2.1))) else (none)) = some r := by first | (rw [hy384]; with_reducible exact H) | (have H2_ := (Option.bind_some _ _).symm.trans H; rw [hy384]; with_reducible exact H2_) | (have H2_ := (Option.bind_some _ _).symm.trans H; with_reducible exact H2_) | with_reducible exact H | (rw [hy384]; exact H) | exact H
  have Ny384 := Aside0.mk hy384
  clear hy384
  by_cases c8 : y384.length + t371.length < 140737488355328
  ·rw [if_pos c8] at H
   have LMc8 := Aside0.mk c8
   clear c8
   obtain ⟨y387, hy387⟩ : ∃ y_ : List Int, y_ = (y384 ++ t371) := ⟨_, rfl⟩
   replace H : ((token_Next.f k y387 (t368.length : Int)).bind fun bt390 => (if t379 = true then (tmesislaw06_TokenMoves.j0 k t367 t379 bt390.2.2.2.2.2 t374 (wrap64 (t375 + (t368.length : Int))) (wrap64 (t376 + (t368.length : Int))) t377 t378 bt390.1 bt390.2.1 bt390.2.2.1 bt390.2.2.2.1 bt390.2.2.2.2.1) else (tmesislaw06_TokenMoves.j0 k t367 t379 bt390.2.2.2.2.2 t374 t375 t376 t377 t378 bt390.1 bt390.2.1 bt390.2.2.1 bt390.2.2.2.1 bt390.2.2.2.2.1))) = some r := by first | (rw [hy387]; with_reducible exact H) | (have H2_ := (Option.bind_some _ _).symm.trans H; rw [hy387]; with_reducible exact H2_) | (have H2_ := (Option.bind_some _ _).symm.trans H; with_reducible exact H2_) | with_reducible exact H | (rw [hy387]; exact H) | exact H
   have Ny387 := Aside0.mk hy387
   clear hy387
   replace H := Option.bind_eq_some_iff.mp H
   obtain ⟨⟨t390, t391, t392, t393, t394, t395⟩, A90, H⟩ := H
   replace H : (if t379 = true then (tmesislaw06_TokenMoves.j0 k t367 t379 t395 t374 (wrap64 (t375 + (t368.length : Int))) (wrap64 (t376 + (t368.length : Int))) t377 t378 t390 t391 t392 t393 t394) else (tmesislaw06_TokenMoves.j0 k t367 t379 t395 t374 t375 t376 t377 t378 t390 t391 t392 t393 t394)) = some r := H
   have A9 := Aside0.mk A90
   clear A90
   have HC10 := Aside0.mk H
   clear H
   go_enter Tryd.func6, Tryd.ntmps6
   go_upto_if 33 with (first | ((with_reducible refine gate_callee (f := 9) rfl ?_); refine goesL_ (some 12) rfl rfl Tryd.func9 (by kernel_rfl) rfl #[] rfl (by (try simp only [List.map_toArray, List.map_cons, List.map_nil]); first | done | rfl | (simp only [List.length_drop, List.length_take]; rfl)) ?_; (with_reducible refine (tmesislaw06_shown.calls k  t367 _ ?side1 A3.out).mono ?_); (case side1 => exact Gl.below HG.out (by repeat (first | (with_reducible first | exact HB.out | apply below_alloc | apply pw_below_drewN | apply below_drew1) | exact HB.out))); rintro e w11 ⟨rfl, hb⟩; refine ⟨_, rfl, ?_⟩; have n0_ := Aside0.mk (below_step (by repeat (first | (with_reducible first | exact HB.out | apply below_alloc | apply pw_below_drewN | apply below_drew1) | exact HB.out)) hb); clear HB; have HB := n0_; clear n0_; (try clear hb); (try clear hb2); (try clear hk); (try clear hi)) | ((with_reducible refine gate_callee (f := 10) rfl ?_); refine goesL_ (some 14) rfl rfl Tryd.func10 (by kernel_rfl) rfl #[.slice A0 l0.length c0] rfl (by (try simp only [List.map_toArray, List.map_cons, List.map_nil]); first | done | rfl | (simp only [List.length_drop, List.length_take]; rfl)) ?_; (with_reducible refine (tmesislaw06_few.calls (fun k_ => k_ < w.heap.size) _ _ l0 t368 _ ?side1 A4.out).mono ?_); (case side1 => exact Kd.V_mk HC0.out (Kd.F_below (Kd.C_F (Kd.heap_int .u8) HR0.out) (by repeat (first | (with_reducible first | exact HB.out | apply below_alloc | apply pw_below_drewN | apply below_drew1) | exact HB.out)))); rintro e w12 ⟨v369, rfl, ho0, hb⟩; refine ⟨_, rfl, ?_⟩; have n0_ := Aside0.mk (Kd.V_lower (Kd.V_mono (ok' := fun k_ => True) ho0 (fun k_ hk_ => trivial)) (below_size (by repeat (first | (with_reducible first | exact HB.out | apply below_alloc | apply pw_below_drewN | apply below_drew1) | exact HB.out)))); have n1_ := Aside0.mk (below_step (by repeat (first | (with_reducible first | exact HB.out | apply below_alloc | apply pw_below_drewN | apply below_drew1) | exact HB.out)) hb); clear HB; have HO370 := n0_; have HB := n1_; clear n0_ n1_; (try clear hb); (try clear hb2); (try clear hk); (try clear hi); (try clear ho0)) | ((with_reducible refine gate_callee (f := 10) rfl ?_); refine goesL_ (some 16) rfl rfl Tryd.func10 (by kernel_rfl) rfl #[.slice A1 l1.length c1] rfl (by (try simp only [List.map_toArray, List.map_cons, List.map_nil]); first | done | rfl | (simp only [List.length_drop, List.length_take]; rfl)) ?_; (with_reducible refine (tmesislaw06_few.calls (fun k_ => k_ < w.heap.size) _ _ l1 t371 _ ?side1 A5.out).mono ?_); (case side1 => exact Kd.V_mk HC1.out (Kd.F_below (Kd.C_F (Kd.heap_int .u8) HR1.out) (by repeat (first | (with_reducible first | exact HB.out | apply below_alloc | apply pw_below_drewN | apply below_drew1) | exact HB.out)))); rintro e w13 ⟨v372, rfl, ho0, hb⟩; refine ⟨_, rfl, ?_⟩; have n0_ := Aside0.mk (Kd.V_below (by (with_reducible repeat (first | apply Kd.V_alloc | apply Kd.V_drewN | apply Kd.V_drew)); exact HO370.out) hb); have n1_ := Aside0.mk (Kd.V_lower (Kd.V_mono (ok' := fun k_ => True) ho0 (fun k_ hk_ => trivial)) (below_size (by repeat (first | (with_reducible first | exact HB.out | apply below_alloc | apply pw_below_drewN | apply below_drew1) | exact HB.out)))); have n2_ := Aside0.mk (below_step (by repeat (first | (with_reducible first | exact HB.out | apply below_alloc | apply pw_below_drewN | apply below_drew1) | exact HB.out)) hb); clear HO370; clear HB; have HO370 := n0_; have HO373 := n1_; have HB := n2_; clear n0_ n1_ n2_; (try clear hb); (try clear hb2); (try clear hk); (try clear hi); (try clear ho0); obtain ⟨Ao14, co14, eo14⟩ := Kd.V_slice HO373.out; subst eo14) | ((with_reducible refine gate_callee (f := 11) rfl ?_); refine goesL_ (some 19) rfl rfl Tryd.func11 (by kernel_rfl) rfl #[.slice Ao14 t371.length co14, .int .i64 0] rfl (by (try simp only [List.map_toArray, List.map_cons, List.map_nil]); first | done | rfl | (simp only [List.length_drop, List.length_take]; rfl)) ?_; (with_reducible refine (token_Next.calls k _ _ t371 0 t374 t375 t376 t377 t378 t379 _ ?side1 ?side2 ?side3 A6.out).mono ?_); (case side1 => exact Gl.below HG.out (by repeat (first | (with_reducible first | exact HB.out | apply below_alloc | apply pw_below_drewN | apply below_drew1) | exact HB.out))); (case side2 => repeat (first | exact (Kd.V_reads' HO373.out).2.2 | (with_reducible refine Kd.C_alloc ?_ _) | (with_reducible refine Kd.C_drewN ?_ _) | (with_reducible refine Kd.C_drew ?_))); (case side3 => exact (Kd.V_reads' HO373.out).2.1); rintro e w15 ⟨rfl, hb⟩; refine ⟨_, rfl, ?_⟩; have n0_ := Aside0.mk (Kd.V_below (by (with_reducible repeat (first | apply Kd.V_alloc | apply Kd.V_drewN | apply Kd.V_drew)); exact HO370.out) hb); have n1_ := Aside0.mk (Kd.V_below (by (with_reducible repeat (first | apply Kd.V_alloc | apply Kd.V_drewN | apply Kd.V_drew)); exact HO373.out) hb); have n2_ := Aside0.mk (below_step (by repeat (first | (with_reducible first | exact HB.out | apply below_alloc | apply pw_below_drewN | apply below_drew1) | exact HB.out)) hb); clear HO370; clear HO373; clear HB; have HO370 := n0_; have HO373 := n1_; have HB := n2_; clear n0_ n1_ n2_; (try clear hb); (try clear hb2); (try clear hk); (try clear hi)) | ((with_reducible refine gate_dst (N := 8) rfl ?_); refine box_event ?hg (N := 8) ?hd (cs := #[.int .i64 0, .int .i64 0, .int .i64 0, .string (⟨#[]⟩ : ByteArray), .int .i64 0]) (t := 27) ?hr ?_; (case hd => rfl); (case hg => rfl); (case hr => first | (go_simp; done) | (go_simp; rfl)); intro gb380 hg w16 hbox hb; have n0_ := Aside0.mk (Kd.V_below (Kd.V_elderB (by (with_reducible repeat (first | apply Kd.V_alloc | apply Kd.V_drewN | apply Kd.V_drew)); exact HO370.out) gb380 (Nat.le_of_eq hg.symm)) hb); have n1_ := Aside0.mk (Kd.V_below (Kd.V_elderB (by (with_reducible repeat (first | apply Kd.V_alloc | apply Kd.V_drewN | apply Kd.V_drew)); exact HO373.out) gb380 (Nat.le_of_eq hg.symm)) hb); have n2_ := Aside0.mk (below_step (by repeat (first | (with_reducible first | exact HB.out | apply below_alloc | apply pw_below_drewN | apply below_drew1) | exact HB.out)) hb); have n3_ := Aside0.mk (hbox); have n4_ := Aside0.mk ((by rw [hg]; exact (below_size (by repeat (first | (with_reducible first | exact HB.out | apply below_alloc | apply pw_below_drewN | apply below_drew1) | exact HB.out))) : w.heap.size ≤ gb380)); have n5_ := Aside0.mk ((by rw [hg]; exact (below_size (by repeat (first | (with_reducible first | exact HB.out | apply below_alloc | apply pw_below_drewN | apply below_drew1) | exact HB.out))) : w.heap.size ≤ gb380)); clear HO370; clear HO373; clear HB; have HO370 := n0_; have HO373 := n1_; have HB := n2_; have BK380 := n3_; have GW380 := n4_; have GE380 := n5_; clear n0_ n1_ n2_ n3_ n4_ n5_; clear hb hbox hg; have hcz17_0 : w16.cell? ⟨gb380, 0, none⟩ = some (.int .i64 0) := (blk_cell BK380.out 0).trans rfl; have hcz17_1 : w16.cell? ⟨gb380, 1, none⟩ = some (.int .i64 0) := (blk_cell BK380.out 1).trans rfl; have hcz17_2 : w16.cell? ⟨gb380, 2, none⟩ = some (.int .i64 0) := (blk_cell BK380.out 2).trans rfl; have hcz17_3 : w16.cell? ⟨gb380, 3, none⟩ = some (.string (⟨#[]⟩ : ByteArray)) := (blk_cell BK380.out 3).trans rfl; have hcz17_4 : w16.cell? ⟨gb380, 4, none⟩ = some (.int .i64 0) := (blk_cell BK380.out 4).trans rfl; have hfz17_0 := blk_frozen BK380.out 0; have hfz17_1 := blk_frozen BK380.out 1; have hfz17_2 := blk_frozen BK380.out 2; have hfz17_3 := blk_frozen BK380.out 3; have hfz17_4 := blk_frozen BK380.out 4) | ((with_reducible refine gate_dst (N := 23) rfl ?_); refine Kd.R_lit (Kd.int .u8) _ 5 ?hg (N := 23) ?hd (xs := ([] : List Int)) (inner := []) (ok := fun _ => True) (okp := fun _ => True) ?hr ?hp (fun _ hk => hk) trivial (Below.refl _ _) (Nat.le_refl _) (by simp) ?_; (case hd => rfl); (case hg => rfl); (case hr => first | (go_simp; done) | (go_simp; rfl)); (case hp => exact (Reps.none _ _)); intro v382 w18 ho19 hb hg_ hnew_; clear hg_ hnew_; (first | rw [← Ny381.out] at ho19 | (simp only [Int.reduceToNat] at ho19; rw [← Ny381.out] at ho19)); have n0_ := Aside0.mk (Kd.V_elder' (by (with_reducible repeat (first | apply Kd.V_alloc | apply Kd.V_drewN | apply Kd.V_drew)); exact (Kd.V_mono (Kd.V_far (p := ⟨gb380, 4, none⟩) (Kd.V_far (p := ⟨gb380, 3, none⟩) (Kd.V_far (p := ⟨gb380, 2, none⟩) (Kd.V_far (p := ⟨gb380, 1, none⟩) (Kd.V_far (p := ⟨gb380, 0, none⟩) (Kd.V_mono HO370.out (fun k_ hk => (⟨hk, hk.2⟩ : _ ∧ k_ ≠ gb380))) (fun _ hk => hk.2) (.int .i64 t374)) (fun _ hk => hk.2) (.int .i64 t375)) (fun _ hk => hk.2) (.int .i64 t376)) (fun _ hk => hk.2) (.string t377)) (fun _ hk => hk.2) (.int .i64 t378)) (fun _ h_ => h_.1))) (Kd.R_base ho19) hb); have n1_ := Aside0.mk (Kd.V_elder' (by (with_reducible repeat (first | apply Kd.V_alloc | apply Kd.V_drewN | apply Kd.V_drew)); exact (Kd.V_mono (Kd.V_far (p := ⟨gb380, 4, none⟩) (Kd.V_far (p := ⟨gb380, 3, none⟩) (Kd.V_far (p := ⟨gb380, 2, none⟩) (Kd.V_far (p := ⟨gb380, 1, none⟩) (Kd.V_far (p := ⟨gb380, 0, none⟩) (Kd.V_mono HO373.out (fun k_ hk => (⟨hk, hk.2⟩ : _ ∧ k_ ≠ gb380))) (fun _ hk => hk.2) (.int .i64 t374)) (fun _ hk => hk.2) (.int .i64 t375)) (fun _ hk => hk.2) (.int .i64 t376)) (fun _ hk => hk.2) (.string t377)) (fun _ hk => hk.2) (.int .i64 t378)) (fun _ h_ => h_.1))) (Kd.R_base ho19) hb); have n2_ := Aside0.mk (Kd.R_lower ho19 (below_size (by repeat (first | (with_reducible first | exact HB.out | apply below_alloc | apply pw_below_drewN | apply below_drew1 | refine below_set ?_ GE380.out) | exact HB.out)))); have n3_ := Aside0.mk (blk_below (g := gb380) (o := .cells #[.int .i64 t374, .int .i64 t375, .int .i64 t376, .string t377, .int .i64 t378] 27 (0, 0)) (by (with_reducible repeat (first | refine blk_drewN ?_ _ | refine blk_drew ?_ | refine blk_alloc ?_ _)); refine blk_put (cs := #[.int .i64 t374, .int .i64 t375, .int .i64 t376, .string t377, .int .i64 0]) ?_ 4 _ rfl; (with_reducible repeat (first | refine blk_drewN ?_ _ | refine blk_drew ?_ | refine blk_alloc ?_ _)); refine blk_put (cs := #[.int .i64 t374, .int .i64 t375, .int .i64 t376, .string (⟨#[]⟩ : ByteArray), .int .i64 0]) ?_ 3 _ rfl; (with_reducible repeat (first | refine blk_drewN ?_ _ | refine blk_drew ?_ | refine blk_alloc ?_ _)); refine blk_put (cs := #[.int .i64 t374, .int .i64 t375, .int .i64 0, .string (⟨#[]⟩ : ByteArray), .int .i64 0]) ?_ 2 _ rfl; (with_reducible repeat (first | refine blk_drewN ?_ _ | refine blk_drew ?_ | refine blk_alloc ?_ _)); refine blk_put (cs := #[.int .i64 t374, .int .i64 0, .int .i64 0, .string (⟨#[]⟩ : ByteArray), .int .i64 0]) ?_ 1 _ rfl; (with_reducible repeat (first | refine blk_drewN ?_ _ | refine blk_drew ?_ | refine blk_alloc ?_ _)); refine blk_put (cs := #[.int .i64 0, .int .i64 0, .int .i64 0, .string (⟨#[]⟩ : ByteArray), .int .i64 0]) ?_ 0 _ rfl; (with_reducible repeat (first | refine blk_drewN ?_ _ | refine blk_drew ?_ | refine blk_alloc ?_ _)); exact BK380.out) hb); have n4_ := Aside0.mk (below_step (by repeat (first | (with_reducible first | exact HB.out | apply below_alloc | apply pw_below_drewN | apply below_drew1 | refine below_set ?_ GE380.out) | exact HB.out)) hb); clear HO370; clear HO373; clear BK380; clear HB; have HO370 := n0_; have HO373 := n1_; have HO383 := n2_; have BK380 := n3_; have HB := n4_; clear n0_ n1_ n2_ n3_ n4_; clear hb ho19; obtain ⟨Ao21, co21, eo21⟩ := Kd.V_slice HO370.out; subst eo21) | ((with_reducible refine gate_builtin (b := .append) (xs := #[.tmp 23, .tmp 24]) rfl ?_); at_builtin; refine Kd.R_append_rows (Kd.int .u8) (w0 := w) w.heap.size rfl (.tmp 23) (.tmp 24) 22 5 (.int .u8 0) 1 rfl Tryd.underlying22 info5 rfl (by decide) (by omega) v382 y381 t368 _ _ _ (fun _ => True) (fun _ => False) rfl rfl ?aO ?aR (fun _ _ h => h) (fun _ h => h.elim) ?aF ?aB ?aS ?aL ?_; (case aR => repeat (first | exact (Kd.V_reads' HO370.out).2.2 | (with_reducible refine Kd.C_alloc ?_ _) | (with_reducible refine Kd.C_drewN ?_ _) | (with_reducible refine Kd.C_drew ?_))); (case aB => exact (by repeat (first | (with_reducible first | exact HB.out | apply below_alloc | apply pw_below_drewN | apply below_drew1 | refine below_set ?_ GE380.out) | exact HB.out))); (case aF => exact (fun _ _ => trivial)); (case aO => exact (by (with_reducible repeat (first | apply Kd.R_alloc | apply Kd.R_drewN | apply Kd.R_drew)); exact HO383.out)); (case aS => exact (below_size (by repeat (first | (with_reducible first | exact HB.out | apply below_alloc | apply pw_below_drewN | apply below_drew1 | refine below_set ?_ GE380.out) | exact HB.out)))); (case aL => have := LMc7.out; omega); intro v385 w20 ho hb hg hat; rw [← Ny384.out] at ho; have n0_ := Aside0.mk (Kd.V_afterv (ok := (fun k_ => k_ ≠ gb380)) (by (with_reducible repeat (first | apply Kd.V_alloc | apply Kd.V_drewN | apply Kd.V_drew)); exact Kd.V_mono HO370.out (fun _ hk => ⟨hk.1.2, hk.2⟩)) hg hat); have n1_ := Aside0.mk (Kd.V_afterv (ok := (fun k_ => k_ ≠ gb380)) (by (with_reducible repeat (first | apply Kd.V_alloc | apply Kd.V_drewN | apply Kd.V_drew)); exact Kd.V_mono HO373.out (fun _ hk => ⟨hk.1.2, hk.2⟩)) hg hat); have n2_ := Aside0.mk (blk_grown (g := gb380) (o := .cells #[.int .i64 t374, .int .i64 t375, .int .i64 t376, .string t377, .int .i64 t378] 27 (0, 0)) (by (with_reducible repeat (first | refine blk_drewN ?_ _ | refine blk_drew ?_ | refine blk_alloc ?_ _)); exact BK380.out) hg (Kd.R_ne HO383.out BK380.out (by decide))); have n3_ := Aside0.mk (hb); have n4_ := Aside0.mk (ho); clear HO370; clear HO373; clear BK380; clear HB; clear HO383; have HO370 := n0_; have HO373 := n1_; have BK380 := n2_; have HB := n3_; have HO386 := n4_; clear n0_ n1_ n2_ n3_ n4_; clear ho hb hg hat) | ((with_reducible refine gate_builtin (b := .append) (xs := #[.tmp 25, .tmp 26]) rfl ?_); at_builtin; refine Kd.R_append_rows (Kd.int .u8) (w0 := w) w.heap.size rfl (.tmp 25) (.tmp 26) 22 5 (.int .u8 0) 1 rfl Tryd.underlying22 info5 rfl (by decide) (by omega) v385 y384 t371 _ _ _ (fun _ => True) (fun _ => False) rfl rfl ?aO ?aR (fun _ _ h => h) (fun _ h => h.elim) ?aF ?aB ?aS ?aL ?_; (case aR => repeat (first | exact (Kd.V_reads' HO373.out).2.2 | (with_reducible refine Kd.C_alloc ?_ _) | (with_reducible refine Kd.C_drewN ?_ _) | (with_reducible refine Kd.C_drew ?_))); (case aB => exact (by repeat (first | (with_reducible first | exact HB.out | apply below_alloc | apply pw_below_drewN | apply below_drew1 | refine below_set ?_ GE380.out) | exact HB.out))); (case aF => exact (fun _ _ => trivial)); (case aO => exact (by (with_reducible repeat (first | apply Kd.R_alloc | apply Kd.R_drewN | apply Kd.R_drew)); exact HO386.out)); (case aS => exact (below_size (by repeat (first | (with_reducible first | exact HB.out | apply below_alloc | apply pw_below_drewN | apply below_drew1 | refine below_set ?_ GE380.out) | exact HB.out)))); (case aL => have := LMc8.out; omega); intro v388 w22 ho hb hg hat; rw [← Ny387.out] at ho; have n0_ := Aside0.mk (Kd.V_afterv (ok := (fun k_ => k_ ≠ gb380)) (by (with_reducible repeat (first | apply Kd.V_alloc | apply Kd.V_drewN | apply Kd.V_drew)); exact HO370.out) hg hat); have n1_ := Aside0.mk (Kd.V_afterv (ok := (fun k_ => k_ ≠ gb380)) (by (with_reducible repeat (first | apply Kd.V_alloc | apply Kd.V_drewN | apply Kd.V_drew)); exact HO373.out) hg hat); have n2_ := Aside0.mk (blk_grown (g := gb380) (o := .cells #[.int .i64 t374, .int .i64 t375, .int .i64 t376, .string t377, .int .i64 t378] 27 (0, 0)) (by (with_reducible repeat (first | refine blk_drewN ?_ _ | refine blk_drew ?_ | refine blk_alloc ?_ _)); exact BK380.out) hg (Kd.R_ne HO386.out BK380.out (by decide))); have n3_ := Aside0.mk (hb); have n4_ := Aside0.mk (ho); clear HO370; clear HO373; clear BK380; clear HB; clear HO386; have HO370 := n0_; have HO373 := n1_; have BK380 := n2_; have HB := n3_; have HO389 := n4_; clear n0_ n1_ n2_ n3_ n4_; clear ho hb hg hat; obtain ⟨Ao23, co23, eo23⟩ := Kd.R_slice HO389.out; subst eo23) | ((with_reducible refine gate_callee (f := 11) rfl ?_); refine goesL_ (some 30) rfl rfl Tryd.func11 (by kernel_rfl) rfl #[.slice Ao23 y387.length co23, .int .i64 (t368.length : Int)] rfl (by (try simp only [List.map_toArray, List.map_cons, List.map_nil]); first | done | rfl | (simp only [List.length_drop, List.length_take]; rfl)) ?_; (with_reducible refine (token_Next.calls k _ _ y387 (t368.length : Int) t390 t391 t392 t393 t394 t395 _ ?side1 ?side2 ?side3 A9.out).mono ?_); (case side1 => exact Gl.below HG.out (by repeat (first | (with_reducible first | exact HB.out | apply below_alloc | apply pw_below_drewN | apply below_drew1 | refine below_set ?_ GE380.out) | exact HB.out))); (case side2 => repeat (first | exact (Kd.R_reads' HO389.out).2.2 | (with_reducible refine Kd.C_alloc ?_ _) | (with_reducible refine Kd.C_drewN ?_ _) | (with_reducible refine Kd.C_drew ?_))); (case side3 => exact (Kd.R_reads' HO389.out).2.1); rintro e w24 ⟨rfl, hb⟩; refine ⟨_, rfl, ?_⟩; have n0_ := Aside0.mk (Kd.V_below (by (with_reducible repeat (first | apply Kd.V_alloc | apply Kd.V_drewN | apply Kd.V_drew)); exact HO370.out) hb); have n1_ := Aside0.mk (Kd.V_below (by (with_reducible repeat (first | apply Kd.V_alloc | apply Kd.V_drewN | apply Kd.V_drew)); exact HO373.out) hb); have n2_ := Aside0.mk (Kd.R_below (by (with_reducible repeat (first | apply Kd.R_alloc | apply Kd.R_drewN | apply Kd.R_drew)); exact HO389.out) hb); have n3_ := Aside0.mk (blk_below (g := gb380) (o := .cells #[.int .i64 t374, .int .i64 t375, .int .i64 t376, .string t377, .int .i64 t378] 27 (0, 0)) (by (with_reducible repeat (first | refine blk_drewN ?_ _ | refine blk_drew ?_ | refine blk_alloc ?_ _)); exact BK380.out) hb); have n4_ := Aside0.mk (below_step (by repeat (first | (with_reducible first | exact HB.out | apply below_alloc | apply pw_below_drewN | apply below_drew1 | refine below_set ?_ GE380.out) | exact HB.out)) hb); clear HO370; clear HO373; clear HO389; clear BK380; clear HB; have HO370 := n0_; have HO373 := n1_; have HO389 := n2_; have BK380 := n3_; have HB := n4_; clear n0_ n1_ n2_ n3_ n4_; (try clear hb); (try clear hb2); (try clear hk); (try clear hi)) | ((with_reducible refine gate_dst (N := 10) rfl ?_); refine box_event ?hg (N := 10) ?hd (cs := #[.int .i64 0, .int .i64 0, .int .i64 0, .string (⟨#[]⟩ : ByteArray), .int .i64 0]) (t := 27) ?hr ?_; (case hd => rfl); (case hg => rfl); (case hr => first | (go_simp; done) | (go_simp; rfl)); intro gb396 hg w25 hbox hb; have n0_ := Aside0.mk (Kd.V_below (Kd.V_elderB (by (with_reducible repeat (first | apply Kd.V_alloc | apply Kd.V_drewN | apply Kd.V_drew)); exact HO370.out) gb396 (Nat.le_of_eq hg.symm)) hb); have n1_ := Aside0.mk (Kd.V_below (Kd.V_elderB (by (with_reducible repeat (first | apply Kd.V_alloc | apply Kd.V_drewN | apply Kd.V_drew)); exact HO373.out) gb396 (Nat.le_of_eq hg.symm)) hb); have n2_ := Aside0.mk (Kd.R_below (by (with_reducible repeat (first | apply Kd.R_alloc | apply Kd.R_drewN | apply Kd.R_drew)); exact HO389.out) hb); have n3_ := Aside0.mk (blk_below (g := gb380) (o := .cells #[.int .i64 t374, .int .i64 t375, .int .i64 t376, .string t377, .int .i64 t378] 27 (0, 0)) (by (with_reducible repeat (first | refine blk_drewN ?_ _ | refine blk_drew ?_ | refine blk_alloc ?_ _)); exact BK380.out) hb); have n4_ := Aside0.mk (below_step (by repeat (first | (with_reducible first | exact HB.out | apply below_alloc | apply pw_below_drewN | apply below_drew1 | refine below_set ?_ GE380.out) | exact HB.out)) hb); have n5_ := Aside0.mk (hbox); have n6_ := Aside0.mk ((by rw [hg]; exact (below_size (by repeat (first | (with_reducible first | exact HB.out | apply below_alloc | apply pw_below_drewN | apply below_drew1 | refine below_set ?_ GE380.out) | exact HB.out))) : w.heap.size ≤ gb396)); have n7_ := Aside0.mk ((by rw [hg]; exact (below_size (by repeat (first | (with_reducible first | exact HB.out | apply below_alloc | apply pw_below_drewN | apply below_drew1 | refine below_set ?_ GE380.out) | exact HB.out))) : w.heap.size ≤ gb396)); have n8_ := Aside0.mk ((by rw [hg]; exact Nat.ne_of_lt (blk_lt (g := gb380) (o := .cells #[.int .i64 t374, .int .i64 t375, .int .i64 t376, .string t377, .int .i64 t378] 27 (0, 0)) (by (with_reducible repeat (first | refine blk_drewN ?_ _ | refine blk_drew ?_ | refine blk_alloc ?_ _)); exact BK380.out)) : gb380 ≠ gb396)); have n9_ := Aside0.mk ((by rw [hg]; exact Nat.ne_of_gt (blk_lt (g := gb380) (o := .cells #[.int .i64 t374, .int .i64 t375, .int .i64 t376, .string t377, .int .i64 t378] 27 (0, 0)) (by (with_reducible repeat (first | refine blk_drewN ?_ _ | refine blk_drew ?_ | refine blk_alloc ?_ _)); exact BK380.out)) : gb396 ≠ gb380)); clear HO370; clear HO373; clear HO389; clear BK380; clear HB; have HO370 := n0_; have HO373 := n1_; have HO389 := n2_; have BK380 := n3_; have HB := n4_; have BK396 := n5_; have GW396 := n6_; have GE396 := n7_; have NB380_396 := n8_; have NB396_380 := n9_; clear n0_ n1_ n2_ n3_ n4_ n5_ n6_ n7_ n8_ n9_; clear hb hbox hg; have hnb26 := NB396_380.out; have hnc26 := NB380_396.out; have hcz27_0 : w25.cell? ⟨gb396, 0, none⟩ = some (.int .i64 0) := (blk_cell BK396.out 0).trans rfl; have hcz27_1 : w25.cell? ⟨gb396, 1, none⟩ = some (.int .i64 0) := (blk_cell BK396.out 1).trans rfl; have hcz27_2 : w25.cell? ⟨gb396, 2, none⟩ = some (.int .i64 0) := (blk_cell BK396.out 2).trans rfl; have hcz27_3 : w25.cell? ⟨gb396, 3, none⟩ = some (.string (⟨#[]⟩ : ByteArray)) := (blk_cell BK396.out 3).trans rfl; have hcz27_4 : w25.cell? ⟨gb396, 4, none⟩ = some (.int .i64 0) := (blk_cell BK396.out 4).trans rfl; have hfz27_0 := blk_frozen BK396.out 0; have hfz27_1 := blk_frozen BK396.out 1; have hfz27_2 := blk_frozen BK396.out 2; have hfz27_3 := blk_frozen BK396.out 3; have hfz27_4 := blk_frozen BK396.out 4))
   (try simp only [Act.put, List.setIfInBounds_toArray, List.set_cons_zero, List.set_cons_succ])
   go_cut [] (fun wc => ∃ (kq : Nat) (x381001_9 : Int) (x381002_9 : Int), Aside0 (tmesislaw06_TokenMoves.j0 kq t367 t379 t395 t374 x381001_9 x381002_9 t377 t378 t390 t391 t392 t393 t394 = some r) ∧ Aside0 (kq ≤ k) ∧ Aside0 (wc.heap[gb380]? = some (.cells #[.int .i64 t374, .int .i64 x381001_9, .int .i64 x381002_9, .string t377, .int .i64 t378] 27 (0, 0))) ∧ Aside0 (wc.heap[gb396]? = some (.cells #[.int .i64 t390, .int .i64 t391, .int .i64 t392, .string t393, .int .i64 t394] 27 (0, 0))) ∧ Aside0 (Below w.heap.size w wc))
   case first =>
    have H := HC10.out
    clear HC10
    by_cases c28 : t379 = true
    ·subst c28
     have H1 : (tmesislaw06_TokenMoves.j0 k t367 true t395 t374 (wrap64 (t375 + (t368.length : Int))) (wrap64 (t376 + (t368.length : Int))) t377 t378 t390 t391 t392 t393 t394) = some r := by rw [if_pos rfl] at H; exact H
     clear H
     have H := H1
     clear H1
     have H' := Aside0.mk H
     clear H
     have hnb29 := NB380_396.out
     have hnc29 := NB396_380.out
     have hcz30_0 : w25.cell? ⟨gb380, 0, none⟩ = some (.int .i64 t374) := (blk_cell BK380.out 0).trans rfl
     have hcz30_1 : w25.cell? ⟨gb380, 1, none⟩ = some (.int .i64 t375) := (blk_cell BK380.out 1).trans rfl
     have hcz30_2 : w25.cell? ⟨gb380, 2, none⟩ = some (.int .i64 t376) := (blk_cell BK380.out 2).trans rfl
     have hcz30_3 : w25.cell? ⟨gb380, 3, none⟩ = some (.string t377) := (blk_cell BK380.out 3).trans rfl
     have hcz30_4 : w25.cell? ⟨gb380, 4, none⟩ = some (.int .i64 t378) := (blk_cell BK380.out 4).trans rfl
     have hfz30_0 := blk_frozen BK380.out 0
     have hfz30_1 := blk_frozen BK380.out 1
     have hfz30_2 := blk_frozen BK380.out 2
     have hfz30_3 := blk_frozen BK380.out 3
     have hfz30_4 := blk_frozen BK380.out 4
     go_wp2
     go_meet
     case rel => exact ⟨_, (wrap64 (t375 + (t368.length : Int))), (wrap64 (t376 + (t368.length : Int))), H', ⟨by first | omega | exact Nat.le_refl _⟩, ⟨by (with_reducible repeat (first | refine blk_drewN ?_ _ | refine blk_drew ?_ | refine blk_alloc ?_ _)); refine blk_put (cs := #[.int .i64 t374, .int .i64 (wrap64 (t375 + (t368.length : Int))), .int .i64 t376, .string t377, .int .i64 t378]) ?_ 2 _ rfl; (with_reducible repeat (first | refine blk_drewN ?_ _ | refine blk_drew ?_ | refine blk_alloc ?_ _)); refine blk_put (cs := #[.int .i64 t374, .int .i64 t375, .int .i64 t376, .string t377, .int .i64 t378]) ?_ 1 _ rfl; (with_reducible repeat (first | refine blk_drewN ?_ _ | refine blk_drew ?_ | refine blk_alloc ?_ _)); refine blk_far ?_ NB380_396.out _; (with_reducible repeat (first | refine blk_drewN ?_ _ | refine blk_drew ?_ | refine blk_alloc ?_ _)); refine blk_far ?_ NB380_396.out _; (with_reducible repeat (first | refine blk_drewN ?_ _ | refine blk_drew ?_ | refine blk_alloc ?_ _)); refine blk_far ?_ NB380_396.out _; (with_reducible repeat (first | refine blk_drewN ?_ _ | refine blk_drew ?_ | refine blk_alloc ?_ _)); refine blk_far ?_ NB380_396.out _; (with_reducible repeat (first | refine blk_drewN ?_ _ | refine blk_drew ?_ | refine blk_alloc ?_ _)); refine blk_far ?_ NB380_396.out _; (with_reducible repeat (first | refine blk_drewN ?_ _ | refine blk_drew ?_ | refine blk_alloc ?_ _)); exact BK380.out⟩, ⟨by (with_reducible repeat (first | refine blk_drewN ?_ _ | refine blk_drew ?_ | refine blk_alloc ?_ _)); refine blk_far ?_ NB396_380.out _; (with_reducible repeat (first | refine blk_drewN ?_ _ | refine blk_drew ?_ | refine blk_alloc ?_ _)); refine blk_far ?_ NB396_380.out _; (with_reducible repeat (first | refine blk_drewN ?_ _ | refine blk_drew ?_ | refine blk_alloc ?_ _)); refine blk_put (cs := #[.int .i64 t390, .int .i64 t391, .int .i64 t392, .string t393, .int .i64 0]) ?_ 4 _ rfl; (with_reducible repeat (first | refine blk_drewN ?_ _ | refine blk_drew ?_ | refine blk_alloc ?_ _)); refine blk_put (cs := #[.int .i64 t390, .int .i64 t391, .int .i64 t392, .string (⟨#[]⟩ : ByteArray), .int .i64 0]) ?_ 3 _ rfl; (with_reducible repeat (first | refine blk_drewN ?_ _ | refine blk_drew ?_ | refine blk_alloc ?_ _)); refine blk_put (cs := #[.int .i64 t390, .int .i64 t391, .int .i64 0, .string (⟨#[]⟩ : ByteArray), .int .i64 0]) ?_ 2 _ rfl; (with_reducible repeat (first | refine blk_drewN ?_ _ | refine blk_drew ?_ | refine blk_alloc ?_ _)); refine blk_put (cs := #[.int .i64 t390, .int .i64 0, .int .i64 0, .string (⟨#[]⟩ : ByteArray), .int .i64 0]) ?_ 1 _ rfl; (with_reducible repeat (first | refine blk_drewN ?_ _ | refine blk_drew ?_ | refine blk_alloc ?_ _)); refine blk_put (cs := #[.int .i64 0, .int .i64 0, .int .i64 0, .string (⟨#[]⟩ : ByteArray), .int .i64 0]) ?_ 0 _ rfl; (with_reducible repeat (first | refine blk_drewN ?_ _ | refine blk_drew ?_ | refine blk_alloc ?_ _)); exact BK396.out⟩, ⟨by repeat (first | (with_reducible first | exact HB.out | apply below_alloc | apply pw_below_drewN | apply below_drew1 | refine below_set ?_ GE380.out | refine below_set ?_ GE396.out) | exact HB.out)⟩⟩
    ·replace c28 := Bool.eq_false_iff.mpr c28
     subst c28
     have H1 : (tmesislaw06_TokenMoves.j0 k t367 false t395 t374 t375 t376 t377 t378 t390 t391 t392 t393 t394) = some r := by rw [if_neg (show ¬ (false = true) by decide)] at H; exact H
     clear H
     have H := H1
     clear H1
     have H' := Aside0.mk H
     clear H
     go_wp2
     go_meet
     case rel => exact ⟨_, (t375), (t376), H', ⟨by first | omega | exact Nat.le_refl _⟩, ⟨by (with_reducible repeat (first | refine blk_drewN ?_ _ | refine blk_drew ?_ | refine blk_alloc ?_ _)); refine blk_far ?_ NB380_396.out _; (with_reducible repeat (first | refine blk_drewN ?_ _ | refine blk_drew ?_ | refine blk_alloc ?_ _)); refine blk_far ?_ NB380_396.out _; (with_reducible repeat (first | refine blk_drewN ?_ _ | refine blk_drew ?_ | refine blk_alloc ?_ _)); refine blk_far ?_ NB380_396.out _; (with_reducible repeat (first | refine blk_drewN ?_ _ | refine blk_drew ?_ | refine blk_alloc ?_ _)); refine blk_far ?_ NB380_396.out _; (with_reducible repeat (first | refine blk_drewN ?_ _ | refine blk_drew ?_ | refine blk_alloc ?_ _)); refine blk_far ?_ NB380_396.out _; (with_reducible repeat (first | refine blk_drewN ?_ _ | refine blk_drew ?_ | refine blk_alloc ?_ _)); exact BK380.out⟩, ⟨by (with_reducible repeat (first | refine blk_drewN ?_ _ | refine blk_drew ?_ | refine blk_alloc ?_ _)); refine blk_put (cs := #[.int .i64 t390, .int .i64 t391, .int .i64 t392, .string t393, .int .i64 0]) ?_ 4 _ rfl; (with_reducible repeat (first | refine blk_drewN ?_ _ | refine blk_drew ?_ | refine blk_alloc ?_ _)); refine blk_put (cs := #[.int .i64 t390, .int .i64 t391, .int .i64 t392, .string (⟨#[]⟩ : ByteArray), .int .i64 0]) ?_ 3 _ rfl; (with_reducible repeat (first | refine blk_drewN ?_ _ | refine blk_drew ?_ | refine blk_alloc ?_ _)); refine blk_put (cs := #[.int .i64 t390, .int .i64 t391, .int .i64 0, .string (⟨#[]⟩ : ByteArray), .int .i64 0]) ?_ 2 _ rfl; (with_reducible repeat (first | refine blk_drewN ?_ _ | refine blk_drew ?_ | refine blk_alloc ?_ _)); refine blk_put (cs := #[.int .i64 t390, .int .i64 0, .int .i64 0, .string (⟨#[]⟩ : ByteArray), .int .i64 0]) ?_ 1 _ rfl; (with_reducible repeat (first | refine blk_drewN ?_ _ | refine blk_drew ?_ | refine blk_alloc ?_ _)); refine blk_put (cs := #[.int .i64 0, .int .i64 0, .int .i64 0, .string (⟨#[]⟩ : ByteArray), .int .i64 0]) ?_ 0 _ rfl; (with_reducible repeat (first | refine blk_drewN ?_ _ | refine blk_drew ?_ | refine blk_alloc ?_ _)); exact BK396.out⟩, ⟨by repeat (first | (with_reducible first | exact HB.out | apply below_alloc | apply pw_below_drewN | apply below_drew1 | refine below_set ?_ GE380.out | refine below_set ?_ GE396.out) | exact HB.out)⟩⟩
   case rest =>
    clear HC10
    try clear c1
    try clear c2
    try clear p2
    try clear c6
    try clear p6
    try clear c7
    try clear c8
    try clear c9
    try clear c10
    try clear c11
    try clear c26
    try clear c28
    try clear c29
    try clear hcz17_0
    try clear hcz17_1
    try clear hcz17_2
    try clear hcz17_3
    try clear hcz17_4
    try clear hcz27_0
    try clear hcz27_1
    try clear hcz27_2
    try clear hcz27_3
    try clear hcz27_4
    try clear hcz30_0
    try clear hcz30_1
    try clear hcz30_2
    try clear hcz30_3
    try clear hcz30_4
    try clear hfz17_0
    try clear hfz17_1
    try clear hfz17_2
    try clear hfz17_3
    try clear hfz17_4
    try clear hfz27_0
    try clear hfz27_1
    try clear hfz27_2
    try clear hfz27_3
    try clear hfz27_4
    try clear hfz30_0
    try clear hfz30_1
    try clear hfz30_2
    try clear hfz30_3
    try clear hfz30_4
    obtain ⟨kq, x381001_9, x381002_9, HA, HJ9, BK380, BK396, HB⟩ := hcut
    cases kq with
    | zero => exact absurd HA.out (by simp [tmesislaw06_TokenMoves.j0])
    | succ kj9 =>
     have H := HA.out
     clear HA
     simp only [tmesislaw06_TokenMoves.j0] at H
     have HC31 := Aside0.mk H
     clear H
     go_upto_region 9 with (fail)
     go_cut [4] (fun v4 wc => ∃ (kq : Nat) (x4_30 : Bool), v4 = .bool x4_30 ∧ Aside0 (tmesislaw06_TokenMoves.j1 kq x4_30 = some r) ∧ Aside0 (kq ≤ kj9) ∧ Aside0 (wc.heap[gb380]? = some (.cells #[.int .i64 t374, .int .i64 x381001_9, .int .i64 x381002_9, .string t377, .int .i64 t378] 27 (0, 0))) ∧ Aside0 (wc.heap[gb396]? = some (.cells #[.int .i64 t390, .int .i64 t391, .int .i64 t392, .string t393, .int .i64 t394] 27 (0, 0))) ∧ Aside0 (Below w.heap.size w wc))
     case first =>
      have H := HC31.out
      clear HC31
      by_cases c32 : t367 = true
      ·subst c32
       have H1 : (if (t379 == t395) = true then (tmesislaw06_TokenMoves.j1 kj9 (t374 == t390 && (x381001_9 == t391 && (x381002_9 == t392 && (t377.toList == t393.toList && (t378 == t394)))))) else (tmesislaw06_TokenMoves.j1 kj9 false)) = some r := by rw [if_pos rfl] at H; exact H
       clear H
       have H := H1
       clear H1
       by_cases c33 : (t379 == t395) = true
       ·rw [if_pos c33] at H
        have c33b0 : (t379 == t395) = true := c33
        (try (have c33b1 : decide (t379 = t395) = true := by simpa using c33))
        (try (have c33b2 : (t379 == t395) = true := by simpa using c33))
        clear c33
        (first | rw [c33b0] | (simp only [i64_w, i32_w]; rw [c33b0]) | skip)
        have H' := Aside0.mk H
        clear H
        have hnb34 := NB380_396.out
        have hnc34 := NB396_380.out
        have hcz35_0 : wc.cell? ⟨gb380, 0, none⟩ = some (.int .i64 t374) := (blk_cell BK380.out 0).trans rfl
        have hcz35_1 : wc.cell? ⟨gb380, 1, none⟩ = some (.int .i64 x381001_9) := (blk_cell BK380.out 1).trans rfl
        have hcz35_2 : wc.cell? ⟨gb380, 2, none⟩ = some (.int .i64 x381002_9) := (blk_cell BK380.out 2).trans rfl
        have hcz35_3 : wc.cell? ⟨gb380, 3, none⟩ = some (.string t377) := (blk_cell BK380.out 3).trans rfl
        have hcz35_4 : wc.cell? ⟨gb380, 4, none⟩ = some (.int .i64 t378) := (blk_cell BK380.out 4).trans rfl
        have hfz35_0 := blk_frozen BK380.out 0
        have hfz35_1 := blk_frozen BK380.out 1
        have hfz35_2 := blk_frozen BK380.out 2
        have hfz35_3 := blk_frozen BK380.out 3
        have hfz35_4 := blk_frozen BK380.out 4
        have hcz36_0 : wc.cell? ⟨gb396, 0, none⟩ = some (.int .i64 t390) := (blk_cell BK396.out 0).trans rfl
        have hcz36_1 : wc.cell? ⟨gb396, 1, none⟩ = some (.int .i64 t391) := (blk_cell BK396.out 1).trans rfl
        have hcz36_2 : wc.cell? ⟨gb396, 2, none⟩ = some (.int .i64 t392) := (blk_cell BK396.out 2).trans rfl
        have hcz36_3 : wc.cell? ⟨gb396, 3, none⟩ = some (.string t393) := (blk_cell BK396.out 3).trans rfl
        have hcz36_4 : wc.cell? ⟨gb396, 4, none⟩ = some (.int .i64 t394) := (blk_cell BK396.out 4).trans rfl
        have hfz36_0 := blk_frozen BK396.out 0
        have hfz36_1 := blk_frozen BK396.out 1
        have hfz36_2 := blk_frozen BK396.out 2
        have hfz36_3 := blk_frozen BK396.out 3
        have hfz36_4 := blk_frozen BK396.out 4
        go_wp2
        go_meet
        case rel => exact ⟨_, ((t374 == t390 && (x381001_9 == t391 && (x381002_9 == t392 && (t377.toList == t393.toList && (t378 == t394)))))), (by first | rfl | (simp; done) | (simp [*]; done)), H', ⟨by have := HJ9.out; first | omega | exact Nat.le_refl _⟩, ⟨by (with_reducible repeat (first | refine blk_drewN ?_ _ | refine blk_drew ?_ | refine blk_alloc ?_ _)); exact BK380.out⟩, ⟨by (with_reducible repeat (first | refine blk_drewN ?_ _ | refine blk_drew ?_ | refine blk_alloc ?_ _)); exact BK396.out⟩, ⟨by repeat (first | (with_reducible first | exact HB.out | apply below_alloc | apply pw_below_drewN | apply below_drew1 | refine below_set ?_ GE380.out | refine below_set ?_ GE396.out) | exact HB.out)⟩⟩
       ·rw [if_neg c33] at H
        have c33b0 : (t379 == t395) = false := by simpa using c33
        (try (have c33b1 : decide (t379 = t395) = false := by simpa using c33))
        (try (have c33b2 : (t379 == t395) = false := by simpa using c33))
        (try (have c33b3 : ¬ (t379 = t395) := by simpa using c33))
        clear c33
        (first | rw [c33b0] | (simp only [i64_w, i32_w]; rw [c33b0]) | skip)
        have H' := Aside0.mk H
        clear H
        go_wp2
        go_meet
        case rel => exact ⟨_, (false), (by first | rfl | (simp; done) | (simp [*]; done)), H', ⟨by have := HJ9.out; first | omega | exact Nat.le_refl _⟩, ⟨by (with_reducible repeat (first | refine blk_drewN ?_ _ | refine blk_drew ?_ | refine blk_alloc ?_ _)); exact BK380.out⟩, ⟨by (with_reducible repeat (first | refine blk_drewN ?_ _ | refine blk_drew ?_ | refine blk_alloc ?_ _)); exact BK396.out⟩, ⟨by repeat (first | (with_reducible first | exact HB.out | apply below_alloc | apply pw_below_drewN | apply below_drew1 | refine below_set ?_ GE380.out | refine below_set ?_ GE396.out) | exact HB.out)⟩⟩
      ·replace c32 := Bool.eq_false_iff.mpr c32
       subst c32
       have H1 : (tmesislaw06_TokenMoves.j1 kj9 false) = some r := by rw [if_neg (show ¬ (false = true) by decide)] at H; exact H
       clear H
       have H := H1
       clear H1
       have H' := Aside0.mk H
       clear H
       go_wp2
       go_meet
       case rel => exact ⟨_, (false), (by first | rfl | (simp; done) | (simp [*]; done)), H', ⟨by have := HJ9.out; first | omega | exact Nat.le_refl _⟩, ⟨by (with_reducible repeat (first | refine blk_drewN ?_ _ | refine blk_drew ?_ | refine blk_alloc ?_ _)); exact BK380.out⟩, ⟨by (with_reducible repeat (first | refine blk_drewN ?_ _ | refine blk_drew ?_ | refine blk_alloc ?_ _)); exact BK396.out⟩, ⟨by repeat (first | (with_reducible first | exact HB.out | apply below_alloc | apply pw_below_drewN | apply below_drew1 | refine below_set ?_ GE380.out | refine below_set ?_ GE396.out) | exact HB.out)⟩⟩
     case rest =>
      clear HC31
      try clear c1
      try clear c2
      try clear p2
      try clear c3
      try clear c6
      try clear p6
      try clear c7
      try clear c8
      try clear c9
      try clear c10
      try clear c11
      try clear c26
      try clear c28
      try clear c29
      try clear c32
      try clear c33
      try clear c33b0
      try clear c33b1
      try clear c33b2
      try clear c34
      try clear hcz17_0
      try clear hcz17_1
      try clear hcz17_2
      try clear hcz17_3
      try clear hcz17_4
      try clear hcz27_0
      try clear hcz27_1
      try clear hcz27_2
      try clear hcz27_3
      try clear hcz27_4
      try clear hcz30_0
      try clear hcz30_1
      try clear hcz30_2
      try clear hcz30_3
      try clear hcz30_4
      try clear hcz35_0
      try clear hcz35_1
      try clear hcz35_2
      try clear hcz35_3
      try clear hcz35_4
      try clear hcz36_0
      try clear hcz36_1
      try clear hcz36_2
      try clear hcz36_3
      try clear hcz36_4
      try clear hfz17_0
      try clear hfz17_1
      try clear hfz17_2
      try clear hfz17_3
      try clear hfz17_4
      try clear hfz27_0
      try clear hfz27_1
      try clear hfz27_2
      try clear hfz27_3
      try clear hfz27_4
      try clear hfz30_0
      try clear hfz30_1
      try clear hfz30_2
      try clear hfz30_3
      try clear hfz30_4
      try clear hfz35_0
      try clear hfz35_1
      try clear hfz35_2
      try clear hfz35_3
      try clear hfz35_4
      try clear hfz36_0
      try clear hfz36_1
      try clear hfz36_2
      try clear hfz36_3
      try clear hfz36_4
      try clear p2
      try clear p6
      obtain ⟨kq, x4_30, rfl, HA, HJ30, BK380, BK396, HB⟩ := hcut
      cases kq with
      | zero => exact absurd HA.out (by simp [tmesislaw06_TokenMoves.j1])
      | succ kj30 =>
       have H := HA.out
       clear HA
       simp only [tmesislaw06_TokenMoves.j1] at H
       obtain rfl := Option.some.inj H
       go_wp2
       go_ret
       exact ⟨by first | rfl | (simp [errW_none, errW_some] <;> rfl) | (simp [*, errW_none, errW_some] <;> rfl), by repeat (first | (with_reducible first | exact HB.out | apply below_alloc | apply pw_below_drewN | apply below_drew1 | refine below_set ?_ GE380.out | refine below_set ?_ GE396.out) | exact HB.out)⟩
  ·rw [if_neg c8] at H
   exact absurd H (by simp)
 ·rw [if_neg c7] at H
  exact absurd H (by simp)
/-- THE ONE PURE STATEMENT of tmesislaw06_TokenMoves: yours. -/
def tmesislaw06_TokenMoves.Pure : Prop := ∀ (l0 : List Int) (l1 : List Int), l0.length ≤ maxLen → l0.length * 1 ≤ 140737488351232 → (∀ x ∈ l0, (Lit.int .u8 x).wf = true) → l1.length ≤ maxLen → l1.length * 1 ≤ 140737488351232 → (∀ x ∈ l1, (Lit.int .u8 x).wf = true) → ∃ k, tmesislaw06_TokenMoves.f k l0 l1 = some true
theorem tmesislaw06_TokenMoves.walk (P : tmesislaw06_TokenMoves.Pure) (a0 : Option Addr) (len0 cap0 : Nat) (z0 : List Int) (a1 : Option Addr) (len1 cap1 : Nat) (z1 : List Int) (w : World) (hG : Gl w) (w0 : (a0 = none ∧ len0 = 0 ∧ cap0 = 0 ∧ z0 = []) ∨ ∃ x, a0 = some x ∧ len0 ≤ cap0 ∧ cap0 ≤ maxLen ∧ z0.length = cap0 ∧ (∀ i, i < z0.length → w.cell? (x.add i) = some (.int .u8 (z0.getD i 0))) ∧ ∀ n ∈ z0, (Lit.int .u8 n).wf = true) (y0 : len0 * 1 ≤ 140737488351232) (w1 : (a1 = none ∧ len1 = 0 ∧ cap1 = 0 ∧ z1 = []) ∨ ∃ x, a1 = some x ∧ len1 ≤ cap1 ∧ cap1 ≤ maxLen ∧ z1.length = cap1 ∧ (∀ i, i < z1.length → w.cell? (x.add i) = some (.int .u8 (z1.getD i 0))) ∧ ∀ n ∈ z1, (Lit.int .u8 n).wf = true) (y1 : len1 * 1 ≤ 140737488351232) :
  Calls Tryd.prog 6 #[.slice a0 len0 cap0, .slice a1 len1 cap1] w fun e w' => e = .returned (.bool true) ∧ Below w.heap.size w w' := by
 obtain ⟨l0, rfl, hr0, hm0, hw0, hc0⟩ := ReadsInt.ofRowC w0
 obtain ⟨l1, rfl, hr1, hm1, hw1, hc1⟩ := ReadsInt.ofRowC w1
 obtain ⟨k, h⟩ := P l0 l1 hm0 y0 hw0 hm1 y1 hw1
 refine (tmesislaw06_TokenMoves.calls k _ _ l0 _ _ l1 true w hG (Kd.C_of_reads (d := (0 : Int)) (h1 := fun _ => rfl) hr0) hc0 (Kd.C_of_reads (d := (0 : Int)) (h1 := fun _ => rfl) hr1) hc1 h).mono ?_
 rintro e w' ⟨rfl, hd⟩
 exact ⟨rfl, hd⟩
end Go.Proofs.YtflekegjmjjdmaaDoor.P
