/- Part of the proof: what the theorem needs of this text. -/
import Derived.Test.YtdejidhgeefmeaaDoorKHG
import Derived.Test.YtdejidhgeefmeaaDoorKPx0
import Derived.Test.YtdejidhgeefmeaaDoorKPx11
import Derived.Test.YtdejidhgeefmeaaDoorKPx8
namespace Go.Proofs.YtdejidhgeefmeaaDoor.P
open Go.RowKit Go.Proofs.YtdejidhgeefmeaaDoorW.PrintWords Go.Proofs.YtdejidhgeefmeaaDoorW.PrintLast Go.Proofs.YtdejidhgeefmeaaDoorW.PrintMore
attribute [local go_sem] max2_int min2_int max_two min_two max_three min_three max_four min_four   -- for this text's walks alone
set_option linter.unusedVariables false
set_option linter.unusedSimpArgs false
mutual
def tmesislaw07_LexJoins.j0 : Nat → Bool → List Int → Int → List Int → Int → List Int → Int → Bool → Option (Bool)
 | 0, _, _, _, _, _, _, _, _ => none
 | k + 1, x5, x8, x9, x10, x11, x12, x13, x45 => if x45 = true then (if x5 = true then (if x13 = 1 then (if (x12.length : Int) = 0 then (tmesislaw07_LexJoins.j1 k true) else (if x9 = 0 then (tmesislaw07_LexJoins.j1 k true) else (tmesislaw07_LexJoins.j1 k (x11 == 0)))) else (if x9 = 0 then (tmesislaw07_LexJoins.j1 k true) else (tmesislaw07_LexJoins.j1 k (x11 == 0)))) else (tmesislaw07_LexJoins.j1 k false)) else (if x5 = true then (if x13 = 0 then (if (strOfNums x8).size + (strOfNums x10).size ≤ 9223372036854775807 then (tmesislaw07_LexJoins.j2 k ((strOfNums x12).toList == ((strOfNums x8) ++ (strOfNums x10)).toList)) else (none)) else (tmesislaw07_LexJoins.j2 k false)) else (tmesislaw07_LexJoins.j2 k false))
def tmesislaw07_LexJoins.j1 : Nat → Bool → Option (Bool)
 | 0, _ => none
 | k + 1, x4 => some x4
def tmesislaw07_LexJoins.j2 : Nat → Bool → Option (Bool)
 | 0, _ => none
 | k + 1, x4 => some x4
end
def tmesislaw07_LexJoins.f (k : Nat) (l0 : List Int) (l1 : List Int) : Option (Bool) := (tmesislaw07_shown.f k).bind fun t401 => ((tmesislaw07_few.f l0).bind fun t402 => ((lex_All.f k t402).bind fun t405 => ((tmesislaw07_few.f l1).bind fun t408 => ((lex_All.f k t408).bind fun t411 => ((lex_Join.f k t405).bind fun bt414 => ((lex_Join.f k t411).bind fun bt418 => ((some (([] : List (S34)) : List (S34))).bind fun y422 => (if y422.length + t405.length < 2932031007402 then ((some (y422 ++ t405 : List (S34))).bind fun y425 => (if y425.length + t411.length < 2932031007402 then ((lex_Join.f k (y425 ++ t411)).bind fun bt431 => (if bt414.2 = 0 then (tmesislaw07_LexJoins.j0 k t401 bt414.1 bt414.2 bt418.1 bt418.2 bt431.1 bt431.2 (bt418.2 != 0)) else (tmesislaw07_LexJoins.j0 k t401 bt414.1 bt414.2 bt418.1 bt418.2 bt431.1 bt431.2 true))) else (none))) else (none)))))))))
theorem tmesislaw07_LexJoins.mono_l : ∀ k, (∀ y0 y1 y2 y3 y4 y5 y6 y7, LeO (tmesislaw07_LexJoins.j0 k y0 y1 y2 y3 y4 y5 y6 y7) (tmesislaw07_LexJoins.j0 (k + 1) y0 y1 y2 y3 y4 y5 y6 y7)) ∧ (∀ y0, LeO (tmesislaw07_LexJoins.j1 k y0) (tmesislaw07_LexJoins.j1 (k + 1) y0)) ∧ (∀ y0, LeO (tmesislaw07_LexJoins.j2 k y0) (tmesislaw07_LexJoins.j2 (k + 1) y0))
 | 0 => ⟨fun _ _ _ _ _ _ _ _ r h => by simp [tmesislaw07_LexJoins.j0] at h, fun _ r h => by simp [tmesislaw07_LexJoins.j1] at h, fun _ r h => by simp [tmesislaw07_LexJoins.j2] at h⟩
 | k + 1 => by
  obtain ⟨ih0, ih1, ih2⟩ := tmesislaw07_LexJoins.mono_l k
  refine ⟨?_, ?_, ?_⟩
  ·intro y0 y1 y2 y3 y4 y5 y6 y7
   unfold tmesislaw07_LexJoins.j0
   repeat' first
   | (with_reducible exact ih0 _ _ _ _ _ _ _ _)
   | (with_reducible exact ih1 _)
   | (with_reducible exact ih2 _)
   | (with_reducible exact lex_All.mono _ _)
   | (with_reducible exact lex_Join.mono _ _)
   | (with_reducible exact tmesislaw07_shown.mono _)
   | (with_reducible exact LeO.refl _)
   | (with_reducible exact LeO.none _)
   | (with_reducible refine LeO.ite ?_ ?_)
   | (with_reducible refine LeO.bind ?_ (fun _ => ?_))
   | exact ih0 _ _ _ _ _ _ _ _
   | exact ih1 _
   | exact ih2 _
   | exact lex_All.mono _ _
   | exact lex_Join.mono _ _
   | exact tmesislaw07_shown.mono _
   | exact LeO.none _
   | refine LeO.ite ?_ ?_
   | refine LeO.bind ?_ (fun _ => ?_)
  ·intro y0
   unfold tmesislaw07_LexJoins.j1
   repeat' first
   | (with_reducible exact ih0 _ _ _ _ _ _ _ _)
   | (with_reducible exact ih1 _)
   | (with_reducible exact ih2 _)
   | (with_reducible exact lex_All.mono _ _)
   | (with_reducible exact lex_Join.mono _ _)
   | (with_reducible exact tmesislaw07_shown.mono _)
   | (with_reducible exact LeO.refl _)
   | (with_reducible exact LeO.none _)
   | (with_reducible refine LeO.ite ?_ ?_)
   | (with_reducible refine LeO.bind ?_ (fun _ => ?_))
   | exact ih0 _ _ _ _ _ _ _ _
   | exact ih1 _
   | exact ih2 _
   | exact lex_All.mono _ _
   | exact lex_Join.mono _ _
   | exact tmesislaw07_shown.mono _
   | exact LeO.none _
   | refine LeO.ite ?_ ?_
   | refine LeO.bind ?_ (fun _ => ?_)
  ·intro y0
   unfold tmesislaw07_LexJoins.j2
   repeat' first
   | (with_reducible exact ih0 _ _ _ _ _ _ _ _)
   | (with_reducible exact ih1 _)
   | (with_reducible exact ih2 _)
   | (with_reducible exact lex_All.mono _ _)
   | (with_reducible exact lex_Join.mono _ _)
   | (with_reducible exact tmesislaw07_shown.mono _)
   | (with_reducible exact LeO.refl _)
   | (with_reducible exact LeO.none _)
   | (with_reducible refine LeO.ite ?_ ?_)
   | (with_reducible refine LeO.bind ?_ (fun _ => ?_))
   | exact ih0 _ _ _ _ _ _ _ _
   | exact ih1 _
   | exact ih2 _
   | exact lex_All.mono _ _
   | exact lex_Join.mono _ _
   | exact tmesislaw07_shown.mono _
   | exact LeO.none _
   | refine LeO.ite ?_ ?_
   | refine LeO.bind ?_ (fun _ => ?_)
theorem tmesislaw07_LexJoins.mono : ∀ a0 a1 k, LeO (tmesislaw07_LexJoins.f k a0 a1) (tmesislaw07_LexJoins.f (k + 1) a0 a1) := by
 intro a0 a1 k
 obtain ⟨ih0, ih1, ih2⟩ := tmesislaw07_LexJoins.mono_l k
 unfold tmesislaw07_LexJoins.f
 repeat' first
   | (with_reducible exact ih0 _ _ _ _ _ _ _ _)
   | (with_reducible exact ih1 _)
   | (with_reducible exact ih2 _)
   | (with_reducible exact lex_All.mono _ _)
   | (with_reducible exact lex_Join.mono _ _)
   | (with_reducible exact tmesislaw07_shown.mono _)
   | (with_reducible exact LeO.refl _)
   | (with_reducible exact LeO.none _)
   | (with_reducible refine LeO.ite ?_ ?_)
   | (with_reducible refine LeO.bind ?_ (fun _ => ?_))
   | exact ih0 _ _ _ _ _ _ _ _
   | exact ih1 _
   | exact ih2 _
   | exact lex_All.mono _ _
   | exact lex_Join.mono _ _
   | exact tmesislaw07_shown.mono _
   | exact LeO.none _
   | refine LeO.ite ?_ ?_
   | refine LeO.bind ?_ (fun _ => ?_)
set_option maxHeartbeats 8000000 in
set_option maxRecDepth 100000 in
theorem tmesislaw07_LexJoins.calls (k : Nat) (A0 : Option Addr) (c0 : Nat) (l0 : List Int) (A1 : Option Addr) (c1 : Nat) (l1 : List Int) (r : Bool) (w : World) (hG : Gl w) (hr0 : Kd.C (Kd.int .u8) w A0 l0.length l0) (hc0 : l0.length ≤ c0) (hr1 : Kd.C (Kd.int .u8) w A1 l1.length l1) (hc1 : l1.length ≤ c1) (h : tmesislaw07_LexJoins.f k l0 l1 = some r) :
  Calls Tryd.prog 8 #[.slice A0 l0.length c0, .slice A1 l1.length c1] w fun e w' => e = .returned (.bool r) ∧ Below w.heap.size w w' := by
 have HR0 := Aside0.mk hr0
 have HC0 := Aside0.mk hc0
 clear hr0 hc0
 have HR1 := Aside0.mk hr1
 have HC1 := Aside0.mk hc1
 clear hr1 hc1
 have HB := Aside0.mk (Below.refl w.heap.size w)
 have HG := Aside0.mk hG
 clear hG
 have H : ((tmesislaw07_shown.f k).bind fun t401 => ((tmesislaw07_few.f l0).bind fun t402 => ((lex_All.f k t402).bind fun t405 => ((tmesislaw07_few.f l1).bind fun t408 => ((lex_All.f k t408).bind fun t411 => ((lex_Join.f k t405).bind fun bt414 => ((lex_Join.f k t411).bind fun bt418 => ((some (([] : List (S34)) : List (S34))).bind fun y422 => (if y422.length + t405.length < 2932031007402 then ((some (y422 ++ t405 : List (S34))).bind fun y425 => (if y425.length + t411.length < 2932031007402 then ((lex_Join.f k (y425 ++ t411)).bind fun bt431 => (if bt414.2 = 0 then (tmesislaw07_LexJoins.j0 k t401 bt414.1 bt414.2 bt418.1 bt418.2 bt431.1 bt431.2 (bt418.2 != 0)) else (tmesislaw07_LexJoins.j0 k t401 bt414.1 bt414.2 bt418.1 bt418.2 bt431.1 bt431.2 true))) else (none))) else (none)))))))))) = some r := h
 clear h
 replace H := Option.bind_eq_some_iff.mp H
 obtain ⟨t401, A30, H⟩ := H
 replace H : ((tmesislaw07_few.f l0).bind fun t402 => ((lex_All.f k t402).bind fun t405 => ((tmesislaw07_few.f l1).bind fun t408 => ((lex_All.f k t408).bind fun t411 => ((lex_Join.f k t405).bind fun bt414 => ((lex_Join.f k t411).bind fun bt418 => ((some (([] : List (S34)) : List (S34))).bind fun y422 => (if y422.length + t405.length < 2932031007402 then ((some (y422 ++ t405 : List (S34))).bind fun y425 => (if y425.length + t411.length < 2932031007402 then ((lex_Join.f k (y425 ++ t411)).bind fun bt431 => (if bt414.2 = 0 then (tmesislaw07_LexJoins.j0 k t401 bt414.1 bt414.2 bt418.1 bt418.2 bt431.1 bt431.2 (bt418.2 != 0)) else (tmesislaw07_LexJoins.j0 k t401 bt414.1 bt414.2 bt418.1 bt418.2 bt431.1 bt431.2 true))) else (none))) else (none))))))))) = some r := H
 have A3 := Aside0.mk A30
 clear A30
 replace H := Option.bind_eq_some_iff.mp H
 obtain ⟨t402, A40, H⟩ := H
 replace H : ((lex_All.f k t402).bind fun t405 => ((tmesislaw07_few.f l1).bind fun t408 => ((lex_All.f k t408).bind fun t411 => ((lex_Join.f k t405).bind fun bt414 => ((lex_Join.f k t411).bind fun bt418 => ((some (([] : List (S34)) : List (S34))).bind fun y422 => (if y422.length + t405.length < 2932031007402 then ((some (y422 ++ t405 : List (S34))).bind fun y425 => (if y425.length + t411.length < 2932031007402 then ((lex_Join.f k (y425 ++ t411)).bind fun bt431 => (if bt414.2 = 0 then (tmesislaw07_LexJoins.j0 k t401 bt414.1 bt414.2 bt418.1 bt418.2 bt431.1 bt431.2 (bt418.2 != 0)) else (tmesislaw07_LexJoins.j0 k t401 bt414.1 bt414.2 bt418.1 bt418.2 bt431.1 bt431.2 true))) else (none))) else (none)))))))) = some r := H
 have A4 := Aside0.mk A40
 clear A40
 replace H := Option.bind_eq_some_iff.mp H
 obtain ⟨t405, A50, H⟩ := H
 replace H : ((tmesislaw07_few.f l1).bind fun t408 => ((lex_All.f k t408).bind fun t411 => ((lex_Join.f k t405).bind fun bt414 => ((lex_Join.f k t411).bind fun bt418 => ((some (([] : List (S34)) : List (S34))).bind fun y422 => (if y422.length + t405.length < 2932031007402 then ((some (y422 ++ t405 : List (S34))).bind fun y425 => (if y425.length + t411.length < 2932031007402 then ((lex_Join.f k (y425 ++ t411)).bind fun bt431 => (if bt414.2 = 0 then (tmesislaw07_LexJoins.j0 k t401 bt414.1 bt414.2 bt418.1 bt418.2 bt431.1 bt431.2 (bt418.2 != 0)) else (tmesislaw07_LexJoins.j0 k t401 bt414.1 bt414.2 bt418.1 bt418.2 bt431.1 bt431.2 true))) else (none))) else (none))))))) = some r := H
 have A5 := Aside0.mk A50
 clear A50
 replace H := Option.bind_eq_some_iff.mp H
 obtain ⟨t408, A60, H⟩ := H
 replace H : ((lex_All.f k t408).bind fun t411 => ((lex_Join.f k t405).bind fun bt414 => ((lex_Join.f k t411).bind fun bt418 => ((some (([] : List (S34)) : List (S34))).bind fun y422 => (if y422.length + t405.length < 2932031007402 then ((some (y422 ++ t405 : List (S34))).bind fun y425 => (if y425.length + t411.length < 2932031007402 then ((lex_Join.f k (y425 ++ t411)).bind fun bt431 => (if bt414.2 = 0 then (tmesislaw07_LexJoins.j0 k t401 bt414.1 bt414.2 bt418.1 bt418.2 bt431.1 bt431.2 (bt418.2 != 0)) else (tmesislaw07_LexJoins.j0 k t401 bt414.1 bt414.2 bt418.1 bt418.2 bt431.1 bt431.2 true))) else (none))) else (none)))))) = some r := H
 have A6 := Aside0.mk A60
 clear A60
 replace H := Option.bind_eq_some_iff.mp H
 obtain ⟨t411, A70, H⟩ := H
 replace H : ((lex_Join.f k t405).bind fun bt414 => ((lex_Join.f k t411).bind fun bt418 => ((some (([] : List (S34)) : List (S34))).bind fun y422 => (if y422.length + t405.length < 2932031007402 then ((some (y422 ++ t405 : List (S34))).bind fun y425 => (if y425.length + t411.length < 2932031007402 then ((lex_Join.f k (y425 ++ t411)).bind fun bt431 => (if bt414.2 = 0 then (tmesislaw07_LexJoins.j0 k t401 bt414.1 bt414.2 bt418.1 bt418.2 bt431.1 bt431.2 (bt418.2 != 0)) else (tmesislaw07_LexJoins.j0 k t401 bt414.1 bt414.2 bt418.1 bt418.2 bt431.1 bt431.2 true))) else (none))) else (none))))) = some r := H
 have A7 := Aside0.mk A70
 clear A70
 replace H := Option.bind_eq_some_iff.mp H
 obtain ⟨⟨t414, t415⟩, A80, H⟩ := H
 replace H : ((lex_Join.f k t411).bind fun bt418 => ((some (([] : List (S34)) : List (S34))).bind fun y422 => (if y422.length + t405.length < 2932031007402 then ((some (y422 ++ t405 : List (S34))).bind fun y425 => (if y425.length + t411.length < 2932031007402 then ((lex_Join.f k (y425 ++ t411)).bind fun bt431 => (if t415 = 0 then (tmesislaw07_LexJoins.j0 k t401 t414 t415 bt418.1 bt418.2 bt431.1 bt431.2 (bt418.2 != 0)) else (tmesislaw07_LexJoins.j0 k t401 t414 t415 bt418.1 bt418.2 bt431.1 bt431.2 true))) else (none))) else (none)))) = some r := H
 have A8 := Aside0.mk A80
 clear A80
 replace H := Option.bind_eq_some_iff.mp H
 obtain ⟨⟨t418, t419⟩, A90, H⟩ := H
 replace H : ((some (([] : List (S34)) : List (S34))).bind fun y422 => (if y422.length + t405.length < 2932031007402 then ((some (y422 ++ t405 : List (S34))).bind fun y425 => (if y425.length + t411.length < 2932031007402 then ((lex_Join.f k (y425 ++ t411)).bind fun bt431 => (if t415 = 0 then (tmesislaw07_LexJoins.j0 k t401 t414 t415 t418 t419 bt431.1 bt431.2 (t419 != 0)) else (tmesislaw07_LexJoins.j0 k t401 t414 t415 t418 t419 bt431.1 bt431.2 true))) else (none))) else (none))) = some r := H
 have A9 := Aside0.mk A90
 clear A90
 obtain ⟨y422, hy422⟩ : ∃ y_ : List (S34), y_ = (([] : List (S34))) := ⟨_, rfl⟩
 replace H : (if y422.length + t405.length < 2932031007402 then ((some (y422 ++ t405 : List (S34))).bind fun y425 => (if y425.length + t411.length < 2932031007402 then ((lex_Join.f k (y425 ++ t411)).bind fun bt431 => (if t415 = 0 then (tmesislaw07_LexJoins.j0 k t401 t414 t415 t418 t419 bt431.1 bt431.2 (t419 != 0)) else (tmesislaw07_LexJoins.j0 k t401 t414 t415 t418 t419 bt431.1 bt431.2 true))) else (none))) else (none)) = some r := by first | (rw [hy422]; with_reducible exact H) | (have H2_ := (Option.bind_some _ _).symm.trans H; rw [hy422]; with_reducible exact H2_) | (have H2_ := (Option.bind_some _ _).symm.trans H; with_reducible exact H2_) | with_reducible exact H | (rw [hy422]; exact H) | exact H
 have Ny422 := Aside0.mk hy422
 clear hy422
 by_cases c10 : y422.length + t405.length < 2932031007402
 ·rw [if_pos c10] at H
  have LMc10 := Aside0.mk c10
  clear c10
  obtain ⟨y425, hy425⟩ : ∃ y_ : List (S34), y_ = (y422 ++ t405) := ⟨_, rfl⟩
  replace H : (if y425.length + t411.length < 2932031007402 then ((lex_Join.f k (y425 ++ t411)).bind fun bt431 => (if t415 = 0 then (tmesislaw07_LexJoins.j0 k t401 t414 t415 t418 t419 bt431.1 bt431.2 (t419 != 0)) else (tmesislaw07_LexJoins.j0 k t401 t414 t415 t418 t419 bt431.1 bt431.2 true))) else (none)) = some r := by first | (rw [hy425]; with_reducible exact H) | (have H2_ := (Option.bind_some _ _).symm.trans H; rw [hy425]; with_reducible exact H2_) | (have H2_ := (Option.bind_some _ _).symm.trans H; with_reducible exact H2_) | with_reducible exact H | (rw [hy425]; exact H) | exact H
  have Ny425 := Aside0.mk hy425
  clear hy425
  by_cases c11 : y425.length + t411.length < 2932031007402
  ·rw [if_pos c11] at H
   have LMc11 := Aside0.mk c11
   clear c11
   obtain ⟨y428, hy428⟩ : ∃ y_ : List (S34), y_ = (y425 ++ t411) := ⟨_, rfl⟩
   replace H : ((lex_Join.f k y428).bind fun bt431 => (if t415 = 0 then (tmesislaw07_LexJoins.j0 k t401 t414 t415 t418 t419 bt431.1 bt431.2 (t419 != 0)) else (tmesislaw07_LexJoins.j0 k t401 t414 t415 t418 t419 bt431.1 bt431.2 true))) = some r := by first | (rw [hy428]; with_reducible exact H) | (have H2_ := (Option.bind_some _ _).symm.trans H; rw [hy428]; with_reducible exact H2_) | (have H2_ := (Option.bind_some _ _).symm.trans H; with_reducible exact H2_) | with_reducible exact H | (rw [hy428]; exact H) | exact H
   have Ny428 := Aside0.mk hy428
   clear hy428
   replace H := Option.bind_eq_some_iff.mp H
   obtain ⟨⟨t431, t432⟩, A120, H⟩ := H
   replace H : (if t415 = 0 then (tmesislaw07_LexJoins.j0 k t401 t414 t415 t418 t419 t431 t432 (t419 != 0)) else (tmesislaw07_LexJoins.j0 k t401 t414 t415 t418 t419 t431 t432 true)) = some r := H
   have A12 := Aside0.mk A120
   clear A120
   have HC13 := Aside0.mk H
   clear H
   go_enter Tryd.func8, Tryd.ntmps8
   go_upto_region 7 with (first | ((with_reducible refine gate_callee (f := 9) rfl ?_); refine goesL_ (some 14) rfl rfl Tryd.func9 (by kernel_rfl) rfl #[] rfl (by (try simp only [List.map_toArray, List.map_cons, List.map_nil]); first | done | rfl | (simp only [List.length_drop, List.length_take]; rfl)) ?_; (with_reducible refine (tmesislaw07_shown.calls k  t401 _ ?side1 A3.out).mono ?_); (case side1 => exact Gl.below HG.out (by repeat (first | (with_reducible first | exact HB.out | apply below_alloc | apply pw_below_drewN | apply below_drew1) | exact HB.out))); rintro e w14 ⟨rfl, hb⟩; refine ⟨_, rfl, ?_⟩; have n0_ := Aside0.mk (below_step (by repeat (first | (with_reducible first | exact HB.out | apply below_alloc | apply pw_below_drewN | apply below_drew1) | exact HB.out)) hb); clear HB; have HB := n0_; clear n0_; (try clear hb); (try clear hb2); (try clear hk); (try clear hi)) | ((with_reducible refine gate_callee (f := 15) rfl ?_); refine goesL_ (some 16) rfl rfl Tryd.func15 (by kernel_rfl) rfl #[.slice A0 l0.length c0] rfl (by (try simp only [List.map_toArray, List.map_cons, List.map_nil]); first | done | rfl | (simp only [List.length_drop, List.length_take]; rfl)) ?_; (with_reducible refine (tmesislaw07_few.calls (fun k_ => k_ < w.heap.size) _ _ l0 t402 _ ?side1 A4.out).mono ?_); (case side1 => exact Kd.V_mk HC0.out (Kd.F_below (Kd.C_F (Kd.heap_int .u8) HR0.out) (by repeat (first | (with_reducible first | exact HB.out | apply below_alloc | apply pw_below_drewN | apply below_drew1) | exact HB.out)))); rintro e w15 ⟨v403, rfl, ho0, hb⟩; refine ⟨_, rfl, ?_⟩; have n0_ := Aside0.mk (Kd.V_lower (Kd.V_mono (ok' := fun k_ => True) ho0 (fun k_ hk_ => trivial)) (below_size (by repeat (first | (with_reducible first | exact HB.out | apply below_alloc | apply pw_below_drewN | apply below_drew1) | exact HB.out)))); have n1_ := Aside0.mk (below_step (by repeat (first | (with_reducible first | exact HB.out | apply below_alloc | apply pw_below_drewN | apply below_drew1) | exact HB.out)) hb); clear HB; have HO404 := n0_; have HB := n1_; clear n0_ n1_; (try clear hb); (try clear hb2); (try clear hk); (try clear hi); (try clear ho0); obtain ⟨Ao16, co16, eo16⟩ := Kd.V_slice HO404.out; subst eo16) | ((with_reducible refine gate_callee (f := 14) rfl ?_); refine goesL_ (some 17) rfl rfl Tryd.func14 (by kernel_rfl) rfl #[.slice Ao16 t402.length co16] rfl (by (try simp only [List.map_toArray, List.map_cons, List.map_nil]); first | done | rfl | (simp only [List.length_drop, List.length_take]; rfl)) ?_; (with_reducible refine (lex_All.calls k _ _ t402 t405 _ ?side1 ?side2 ?side3 A5.out).mono ?_); (case side1 => exact Gl.below HG.out (by repeat (first | (with_reducible first | exact HB.out | apply below_alloc | apply pw_below_drewN | apply below_drew1) | exact HB.out))); (case side2 => repeat (first | exact (Kd.V_reads' HO404.out).2.2 | (with_reducible refine Kd.C_alloc ?_ _) | (with_reducible refine Kd.C_drewN ?_ _) | (with_reducible refine Kd.C_drew ?_))); (case side3 => exact (Kd.V_reads' HO404.out).2.1); rintro e w17 ⟨v406, rfl, ho0, hb⟩; refine ⟨_, rfl, ?_⟩; have n0_ := Aside0.mk (Kd.V_elder' (by (with_reducible repeat (first | apply Kd.V_alloc | apply Kd.V_drewN | apply Kd.V_drew)); exact HO404.out) (Kd.Q_base ho0) hb); have n1_ := Aside0.mk (Kd.Q_lower ho0 (below_size (by repeat (first | (with_reducible first | exact HB.out | apply below_alloc | apply pw_below_drewN | apply below_drew1) | exact HB.out)))); have n2_ := Aside0.mk (below_step (by repeat (first | (with_reducible first | exact HB.out | apply below_alloc | apply pw_below_drewN | apply below_drew1) | exact HB.out)) hb); clear HO404; clear HB; have HO404 := n0_; have HO407 := n1_; have HB := n2_; clear n0_ n1_ n2_; (try clear hb); (try clear hb2); (try clear hk); (try clear hi); (try clear ho0)) | ((with_reducible refine gate_callee (f := 15) rfl ?_); refine goesL_ (some 19) rfl rfl Tryd.func15 (by kernel_rfl) rfl #[.slice A1 l1.length c1] rfl (by (try simp only [List.map_toArray, List.map_cons, List.map_nil]); first | done | rfl | (simp only [List.length_drop, List.length_take]; rfl)) ?_; (with_reducible refine (tmesislaw07_few.calls (fun k_ => k_ < w.heap.size) _ _ l1 t408 _ ?side1 A6.out).mono ?_); (case side1 => exact Kd.V_mk HC1.out (Kd.F_below (Kd.C_F (Kd.heap_int .u8) HR1.out) (by repeat (first | (with_reducible first | exact HB.out | apply below_alloc | apply pw_below_drewN | apply below_drew1) | exact HB.out)))); rintro e w18 ⟨v409, rfl, ho0, hb⟩; refine ⟨_, rfl, ?_⟩; have n0_ := Aside0.mk (Kd.V_below (by (with_reducible repeat (first | apply Kd.V_alloc | apply Kd.V_drewN | apply Kd.V_drew)); exact HO404.out) hb); have n1_ := Aside0.mk (Kd.Q_below (by (with_reducible repeat (first | apply Kd.Q_alloc | apply Kd.Q_drewN | apply Kd.Q_drew)); exact HO407.out) hb); have n2_ := Aside0.mk (Kd.V_lower (Kd.V_mono (ok' := fun k_ => some k_ ≠ (v406 : Value).ownBlock) ho0 (fun k_ hk_ => Or.elim hk_ (fun hs_ => fun e_ => Nat.not_le.2 hs_ (Kd.Q_base HO407.out k_ e_.symm)) (fun hn_ => (Kd.fresh' (Kd.Q_lt (by (with_reducible repeat (first | apply Kd.Q_alloc | apply Kd.Q_drewN | apply Kd.Q_drew)); exact HO407.out)) k_ hn_)))) (below_size (by repeat (first | (with_reducible first | exact HB.out | apply below_alloc | apply pw_below_drewN | apply below_drew1) | exact HB.out)))); have n3_ := Aside0.mk (below_step (by repeat (first | (with_reducible first | exact HB.out | apply below_alloc | apply pw_below_drewN | apply below_drew1) | exact HB.out)) hb); clear HO404; clear HO407; clear HB; have HO404 := n0_; have HO407 := n1_; have HO410 := n2_; have HB := n3_; clear n0_ n1_ n2_ n3_; (try clear hb); (try clear hb2); (try clear hk); (try clear hi); (try clear ho0); obtain ⟨Ao19, co19, eo19⟩ := Kd.V_slice HO410.out; subst eo19) | ((with_reducible refine gate_callee (f := 14) rfl ?_); refine goesL_ (some 20) rfl rfl Tryd.func14 (by kernel_rfl) rfl #[.slice Ao19 t408.length co19] rfl (by (try simp only [List.map_toArray, List.map_cons, List.map_nil]); first | done | rfl | (simp only [List.length_drop, List.length_take]; rfl)) ?_; (with_reducible refine (lex_All.calls k _ _ t408 t411 _ ?side1 ?side2 ?side3 A7.out).mono ?_); (case side1 => exact Gl.below HG.out (by repeat (first | (with_reducible first | exact HB.out | apply below_alloc | apply pw_below_drewN | apply below_drew1) | exact HB.out))); (case side2 => repeat (first | exact (Kd.V_reads' HO410.out).2.2 | (with_reducible refine Kd.C_alloc ?_ _) | (with_reducible refine Kd.C_drewN ?_ _) | (with_reducible refine Kd.C_drew ?_))); (case side3 => exact (Kd.V_reads' HO410.out).2.1); rintro e w20 ⟨v412, rfl, ho0, hb⟩; refine ⟨_, rfl, ?_⟩; have n0_ := Aside0.mk (Kd.V_elder' (by (with_reducible repeat (first | apply Kd.V_alloc | apply Kd.V_drewN | apply Kd.V_drew)); exact HO404.out) (Kd.Q_base ho0) hb); have n1_ := Aside0.mk (Kd.Q_elder' (by (with_reducible repeat (first | apply Kd.Q_alloc | apply Kd.Q_drewN | apply Kd.Q_drew)); exact HO407.out) (Kd.Q_base ho0) hb); have n2_ := Aside0.mk (Kd.V_elder' (by (with_reducible repeat (first | apply Kd.V_alloc | apply Kd.V_drewN | apply Kd.V_drew)); exact HO410.out) (Kd.Q_base ho0) hb); have n3_ := Aside0.mk (Kd.Q_lower (Kd.Q_new' ho0 (Kd.Q_lt (by (with_reducible repeat (first | apply Kd.Q_alloc | apply Kd.Q_drewN | apply Kd.Q_drew)); exact HO407.out))) (below_size (by repeat (first | (with_reducible first | exact HB.out | apply below_alloc | apply pw_below_drewN | apply below_drew1) | exact HB.out)))); have n4_ := Aside0.mk (below_step (by repeat (first | (with_reducible first | exact HB.out | apply below_alloc | apply pw_below_drewN | apply below_drew1) | exact HB.out)) hb); clear HO404; clear HO407; clear HO410; clear HB; have HO404 := n0_; have HO407 := n1_; have HO410 := n2_; have HO413 := n3_; have HB := n4_; clear n0_ n1_ n2_ n3_ n4_; (try clear hb); (try clear hb2); (try clear hk); (try clear hi); (try clear ho0); obtain ⟨Ao21, co21, eo21, _⟩ := Kd.Q_slice HO407.out; subst eo21) | ((with_reducible refine gate_callee (f := 10) rfl ?_); refine goesL_ (some 23) rfl rfl Tryd.func10 (by kernel_rfl) rfl #[.slice Ao21 t405.length co21] rfl (by (try simp only [List.map_toArray, List.map_cons, List.map_nil]); first | done | rfl | (simp only [List.length_drop, List.length_take]; rfl)) ?_; (with_reducible refine (lex_Join.calls k _ _ t405 t414 t415 _ ?side1 ?side2 ?side3 A8.out).mono ?_); (case side1 => exact Gl.below HG.out (by repeat (first | (with_reducible first | exact HB.out | apply below_alloc | apply pw_below_drewN | apply below_drew1) | exact HB.out))); (case side2 => repeat (first | exact (Kd.Q_reads' HO407.out).2.2 | (with_reducible refine Kd.C_alloc ?_ _) | (with_reducible refine Kd.C_drewN ?_ _) | (with_reducible refine Kd.C_drew ?_))); (case side3 => exact (Kd.Q_reads' HO407.out).2.1); rintro e w22 ⟨v416, rfl, ho0, hb⟩; refine ⟨_, rfl, ?_⟩; have n0_ := Aside0.mk (Kd.V_elder' (by (with_reducible repeat (first | apply Kd.V_alloc | apply Kd.V_drewN | apply Kd.V_drew)); exact HO404.out) (Kd.R_base ho0) hb); have n1_ := Aside0.mk (Kd.Q_below (by (with_reducible repeat (first | apply Kd.Q_alloc | apply Kd.Q_drewN | apply Kd.Q_drew)); exact HO407.out) hb); have n2_ := Aside0.mk (Kd.V_elder' (by (with_reducible repeat (first | apply Kd.V_alloc | apply Kd.V_drewN | apply Kd.V_drew)); exact HO410.out) (Kd.R_base ho0) hb); have n3_ := Aside0.mk (Kd.Q_below (by (with_reducible repeat (first | apply Kd.Q_alloc | apply Kd.Q_drewN | apply Kd.Q_drew)); exact HO413.out) hb); have n4_ := Aside0.mk (Kd.R_lower ho0 (below_size (by repeat (first | (with_reducible first | exact HB.out | apply below_alloc | apply pw_below_drewN | apply below_drew1) | exact HB.out)))); have n5_ := Aside0.mk (below_step (by repeat (first | (with_reducible first | exact HB.out | apply below_alloc | apply pw_below_drewN | apply below_drew1) | exact HB.out)) hb); clear HO404; clear HO407; clear HO410; clear HO413; clear HB; have HO404 := n0_; have HO407 := n1_; have HO410 := n2_; have HO413 := n3_; have HO417 := n4_; have HB := n5_; clear n0_ n1_ n2_ n3_ n4_ n5_; (try clear hb); (try clear hb2); (try clear hk); (try clear hi); (try clear ho0); obtain ⟨Ao23, co23, eo23, _⟩ := Kd.Q_slice HO413.out; subst eo23) | ((with_reducible refine gate_callee (f := 10) rfl ?_); refine goesL_ (some 28) rfl rfl Tryd.func10 (by kernel_rfl) rfl #[.slice Ao23 t411.length co23] rfl (by (try simp only [List.map_toArray, List.map_cons, List.map_nil]); first | done | rfl | (simp only [List.length_drop, List.length_take]; rfl)) ?_; (with_reducible refine (lex_Join.calls k _ _ t411 t418 t419 _ ?side1 ?side2 ?side3 A9.out).mono ?_); (case side1 => exact Gl.below HG.out (by repeat (first | (with_reducible first | exact HB.out | apply below_alloc | apply pw_below_drewN | apply below_drew1) | exact HB.out))); (case side2 => repeat (first | exact (Kd.Q_reads' HO413.out).2.2 | (with_reducible refine Kd.C_alloc ?_ _) | (with_reducible refine Kd.C_drewN ?_ _) | (with_reducible refine Kd.C_drew ?_))); (case side3 => exact (Kd.Q_reads' HO413.out).2.1); rintro e w24 ⟨v420, rfl, ho0, hb⟩; refine ⟨_, rfl, ?_⟩; have n0_ := Aside0.mk (Kd.V_elder' (by (with_reducible repeat (first | apply Kd.V_alloc | apply Kd.V_drewN | apply Kd.V_drew)); exact HO404.out) (Kd.R_base ho0) hb); have n1_ := Aside0.mk (Kd.Q_below (by (with_reducible repeat (first | apply Kd.Q_alloc | apply Kd.Q_drewN | apply Kd.Q_drew)); exact HO407.out) hb); have n2_ := Aside0.mk (Kd.V_elder' (by (with_reducible repeat (first | apply Kd.V_alloc | apply Kd.V_drewN | apply Kd.V_drew)); exact HO410.out) (Kd.R_base ho0) hb); have n3_ := Aside0.mk (Kd.Q_below (by (with_reducible repeat (first | apply Kd.Q_alloc | apply Kd.Q_drewN | apply Kd.Q_drew)); exact HO413.out) hb); have n4_ := Aside0.mk (Kd.R_elder' (by (with_reducible repeat (first | apply Kd.R_alloc | apply Kd.R_drewN | apply Kd.R_drew)); exact HO417.out) (Kd.R_base ho0) hb); have n5_ := Aside0.mk (Kd.R_lower (Kd.R_new' ho0 (Kd.R_lt (by (with_reducible repeat (first | apply Kd.R_alloc | apply Kd.R_drewN | apply Kd.R_drew)); exact HO417.out))) (below_size (by repeat (first | (with_reducible first | exact HB.out | apply below_alloc | apply pw_below_drewN | apply below_drew1) | exact HB.out)))); have n6_ := Aside0.mk (below_step (by repeat (first | (with_reducible first | exact HB.out | apply below_alloc | apply pw_below_drewN | apply below_drew1) | exact HB.out)) hb); clear HO404; clear HO407; clear HO410; clear HO413; clear HO417; clear HB; have HO404 := n0_; have HO407 := n1_; have HO410 := n2_; have HO413 := n3_; have HO417 := n4_; have HO421 := n5_; have HB := n6_; clear n0_ n1_ n2_ n3_ n4_ n5_ n6_; (try clear hb); (try clear hb2); (try clear hk); (try clear hi); (try clear ho0)) | ((with_reducible refine gate_dst (N := 32) rfl ?_); (try (refine gate_guard (by rfl) ?_; dsimp only)); refine Kd.R_lit k34 _ 34 ?hg (N := 32) ?hd (xs := ([] : List (S34))) (inner := []) (ok := fun _ => True) (okp := fun _ => True) ?hr ?hp (fun _ hk => hk) trivial (Below.refl _ _) (Nat.le_refl _) (by simp) ?_; (case hd => rfl); (case hg => rfl); (case hr => first | (go_simp; done) | (go_simp; rfl)); (case hp => exact (Reps.none _ _)); intro v423 w25 ho26 hb hg_ hnew_; clear hg_ hnew_; (first | rw [← Ny422.out] at ho26 | (simp only [Int.reduceToNat] at ho26; rw [← Ny422.out] at ho26)); have n0_ := Aside0.mk (Kd.V_elder' (by (with_reducible repeat (first | apply Kd.V_alloc | apply Kd.V_drewN | apply Kd.V_drew)); exact HO404.out) (Kd.R_base ho26) hb); have n1_ := Aside0.mk (Kd.Q_elder' (by (with_reducible repeat (first | apply Kd.Q_alloc | apply Kd.Q_drewN | apply Kd.Q_drew)); exact HO407.out) (Kd.R_base ho26) hb); have n2_ := Aside0.mk (Kd.V_elder' (by (with_reducible repeat (first | apply Kd.V_alloc | apply Kd.V_drewN | apply Kd.V_drew)); exact HO410.out) (Kd.R_base ho26) hb); have n3_ := Aside0.mk (Kd.Q_elder' (by (with_reducible repeat (first | apply Kd.Q_alloc | apply Kd.Q_drewN | apply Kd.Q_drew)); exact HO413.out) (Kd.R_base ho26) hb); have n4_ := Aside0.mk (Kd.R_below (by (with_reducible repeat (first | apply Kd.R_alloc | apply Kd.R_drewN | apply Kd.R_drew)); exact HO417.out) hb); have n5_ := Aside0.mk (Kd.R_below (by (with_reducible repeat (first | apply Kd.R_alloc | apply Kd.R_drewN | apply Kd.R_drew)); exact HO421.out) hb); have n6_ := Aside0.mk (Kd.R_lower (Kd.R_new' (Kd.R_new' ho26 (Kd.Q_lt (by (with_reducible repeat (first | apply Kd.Q_alloc | apply Kd.Q_drewN | apply Kd.Q_drew)); exact HO407.out))) (Kd.Q_lt (by (with_reducible repeat (first | apply Kd.Q_alloc | apply Kd.Q_drewN | apply Kd.Q_drew)); exact HO413.out))) (below_size (by repeat (first | (with_reducible first | exact HB.out | apply below_alloc | apply pw_below_drewN | apply below_drew1) | exact HB.out)))); have n7_ := Aside0.mk (below_step (by repeat (first | (with_reducible first | exact HB.out | apply below_alloc | apply pw_below_drewN | apply below_drew1) | exact HB.out)) hb); clear HO404; clear HO407; clear HO410; clear HO413; clear HO417; clear HO421; clear HB; have HO404 := n0_; have HO407 := n1_; have HO410 := n2_; have HO413 := n3_; have HO417 := n4_; have HO421 := n5_; have HO424 := n6_; have HB := n7_; clear n0_ n1_ n2_ n3_ n4_ n5_ n6_ n7_; clear hb ho26) | ((with_reducible refine gate_builtin (b := .append) (xs := #[.tmp 32, .tmp 33]) rfl ?_); (try (refine gate_guard (by rfl) ?_; dsimp only)); at_builtin; refine Kd.R_append_rows k34 (w0 := w) w.heap.size rfl (.tmp 32) (.tmp 33) 23 34 (.agg #[(.int .i64 0), (.int .i64 0), (.int .i64 0), (.string ⟨#[]⟩), (.int .i64 0)]) 48 rfl Tryd.underlying23 info34 rfl (by decide) (by omega) v423 y422 t405 _ _ _ (fun k_ => some k_ ≠ (.slice Ao21 t405.length co21 : Value).ownBlock ∧ some k_ ≠ (.slice Ao23 t411.length co23 : Value).ownBlock) (fun _ => False) rfl rfl ?aO ?aR (fun _ _ h => h) (fun _ h => h.elim) ?aF ?aB ?aS ?aL ?_; (case aR => repeat (first | exact (Kd.Q_reads' HO407.out).2.2 | (with_reducible refine Kd.C_alloc ?_ _) | (with_reducible refine Kd.C_drewN ?_ _) | (with_reducible refine Kd.C_drew ?_))); (case aB => exact (by repeat (first | (with_reducible first | exact HB.out | apply below_alloc | apply pw_below_drewN | apply below_drew1) | exact HB.out))); (case aF => exact (fun k_ hk => ⟨Kd.fresh' (Kd.Q_lt (by (with_reducible repeat (first | apply Kd.Q_alloc | apply Kd.Q_drewN | apply Kd.Q_drew)); exact HO407.out)) k_ hk, Kd.fresh' (Kd.Q_lt (by (with_reducible repeat (first | apply Kd.Q_alloc | apply Kd.Q_drewN | apply Kd.Q_drew)); exact HO413.out)) k_ hk⟩)); (case aO => exact (by (with_reducible repeat (first | apply Kd.R_alloc | apply Kd.R_drewN | apply Kd.R_drew)); exact Kd.R_mono HO424.out (fun _ hk => ⟨hk.1.2, hk.2⟩))); (case aS => exact (below_size (by repeat (first | (with_reducible first | exact HB.out | apply below_alloc | apply pw_below_drewN | apply below_drew1) | exact HB.out)))); (case aL => have := LMc10.out; omega); intro v426 w27 ho hb hg hat; rw [← Ny425.out] at ho; have n0_ := Aside0.mk (Kd.V_afterv (ok := (fun k_ => some k_ ≠ (.slice Ao21 t405.length co21 : Value).ownBlock ∧ some k_ ≠ (.slice Ao23 t411.length co23 : Value).ownBlock ∧ some k_ ≠ (v416 : Value).ownBlock ∧ some k_ ≠ (v420 : Value).ownBlock)) (by (with_reducible repeat (first | apply Kd.V_alloc | apply Kd.V_drewN | apply Kd.V_drew)); exact Kd.V_mono HO404.out (fun _ hk => ⟨⟨hk.1.1.1.1.2, ⟨hk.1.1.1.2, ⟨hk.1.1.2, hk.1.2⟩⟩⟩, hk.2⟩)) hg hat); have n1_ := Aside0.mk (Kd.Q_after (ok := (fun k_ => some k_ ≠ (.slice Ao23 t411.length co23 : Value).ownBlock)) (by (with_reducible repeat (first | apply Kd.Q_alloc | apply Kd.Q_drewN | apply Kd.Q_drew)); exact Kd.Q_mono HO407.out (fun _ hk => ⟨hk.1.2, hk.2⟩)) hg hat); have n2_ := Aside0.mk (Kd.V_afterv (ok := (fun k_ => some k_ ≠ (.slice Ao21 t405.length co21 : Value).ownBlock ∧ some k_ ≠ (.slice Ao23 t411.length co23 : Value).ownBlock ∧ some k_ ≠ (v416 : Value).ownBlock ∧ some k_ ≠ (v420 : Value).ownBlock)) (by (with_reducible repeat (first | apply Kd.V_alloc | apply Kd.V_drewN | apply Kd.V_drew)); exact Kd.V_mono HO410.out (fun _ hk => ⟨⟨hk.1.1.1.1, ⟨hk.1.1.1.2, ⟨hk.1.1.2, hk.1.2⟩⟩⟩, hk.2⟩)) hg hat); have n3_ := Aside0.mk (Kd.Q_after (ok := (fun k_ => some k_ ≠ (.slice Ao21 t405.length co21 : Value).ownBlock)) (by (with_reducible repeat (first | apply Kd.Q_alloc | apply Kd.Q_drewN | apply Kd.Q_drew)); exact Kd.Q_mono HO413.out (fun _ hk => ⟨hk.1.2, hk.2⟩)) hg hat); have n4_ := Aside0.mk (Kd.R_over' (by (with_reducible repeat (first | apply Kd.R_alloc | apply Kd.R_drewN | apply Kd.R_drew)); exact HO417.out) (Kd.R_typed (by (with_reducible repeat (first | apply Kd.R_alloc | apply Kd.R_drewN | apply Kd.R_drew)); exact HO424.out)) (by decide) hg); have n5_ := Aside0.mk (Kd.R_over' (by (with_reducible repeat (first | apply Kd.R_alloc | apply Kd.R_drewN | apply Kd.R_drew)); exact HO421.out) (Kd.R_typed (by (with_reducible repeat (first | apply Kd.R_alloc | apply Kd.R_drewN | apply Kd.R_drew)); exact HO424.out)) (by decide) hg); have n6_ := Aside0.mk (hb); have n7_ := Aside0.mk (ho); clear HO404; clear HO407; clear HO410; clear HO413; clear HO417; clear HO421; clear HB; clear HO424; have HO404 := n0_; have HO407 := n1_; have HO410 := n2_; have HO413 := n3_; have HO417 := n4_; have HO421 := n5_; have HB := n6_; have HO427 := n7_; clear n0_ n1_ n2_ n3_ n4_ n5_ n6_ n7_; clear ho hb hg hat) | ((with_reducible refine gate_builtin (b := .append) (xs := #[.tmp 34, .tmp 35]) rfl ?_); (try (refine gate_guard (by rfl) ?_; dsimp only)); at_builtin; refine Kd.R_append_rows k34 (w0 := w) w.heap.size rfl (.tmp 34) (.tmp 35) 23 34 (.agg #[(.int .i64 0), (.int .i64 0), (.int .i64 0), (.string ⟨#[]⟩), (.int .i64 0)]) 48 rfl Tryd.underlying23 info34 rfl (by decide) (by omega) v426 y425 t411 _ _ _ (fun k_ => some k_ ≠ (.slice Ao21 t405.length co21 : Value).ownBlock ∧ some k_ ≠ (.slice Ao23 t411.length co23 : Value).ownBlock) (fun _ => False) rfl rfl ?aO ?aR (fun _ _ h => h) (fun _ h => h.elim) ?aF ?aB ?aS ?aL ?_; (case aR => repeat (first | exact (Kd.Q_reads' HO413.out).2.2 | (with_reducible refine Kd.C_alloc ?_ _) | (with_reducible refine Kd.C_drewN ?_ _) | (with_reducible refine Kd.C_drew ?_))); (case aB => exact (by repeat (first | (with_reducible first | exact HB.out | apply below_alloc | apply pw_below_drewN | apply below_drew1) | exact HB.out))); (case aF => exact (fun k_ hk => ⟨Kd.fresh' (Kd.Q_lt (by (with_reducible repeat (first | apply Kd.Q_alloc | apply Kd.Q_drewN | apply Kd.Q_drew)); exact HO407.out)) k_ hk, Kd.fresh' (Kd.Q_lt (by (with_reducible repeat (first | apply Kd.Q_alloc | apply Kd.Q_drewN | apply Kd.Q_drew)); exact HO413.out)) k_ hk⟩)); (case aO => exact (by (with_reducible repeat (first | apply Kd.R_alloc | apply Kd.R_drewN | apply Kd.R_drew)); exact HO427.out)); (case aS => exact (below_size (by repeat (first | (with_reducible first | exact HB.out | apply below_alloc | apply pw_below_drewN | apply below_drew1) | exact HB.out)))); (case aL => have := LMc11.out; omega); intro v429 w28 ho hb hg hat; rw [← Ny428.out] at ho; have n0_ := Aside0.mk (Kd.V_afterv (ok := (fun k_ => some k_ ≠ (.slice Ao21 t405.length co21 : Value).ownBlock ∧ some k_ ≠ (.slice Ao23 t411.length co23 : Value).ownBlock ∧ some k_ ≠ (v416 : Value).ownBlock ∧ some k_ ≠ (v420 : Value).ownBlock)) (by (with_reducible repeat (first | apply Kd.V_alloc | apply Kd.V_drewN | apply Kd.V_drew)); exact HO404.out) hg hat); have n1_ := Aside0.mk (Kd.Q_after (ok := (fun k_ => some k_ ≠ (.slice Ao23 t411.length co23 : Value).ownBlock)) (by (with_reducible repeat (first | apply Kd.Q_alloc | apply Kd.Q_drewN | apply Kd.Q_drew)); exact HO407.out) hg hat); have n2_ := Aside0.mk (Kd.V_afterv (ok := (fun k_ => some k_ ≠ (.slice Ao21 t405.length co21 : Value).ownBlock ∧ some k_ ≠ (.slice Ao23 t411.length co23 : Value).ownBlock ∧ some k_ ≠ (v416 : Value).ownBlock ∧ some k_ ≠ (v420 : Value).ownBlock)) (by (with_reducible repeat (first | apply Kd.V_alloc | apply Kd.V_drewN | apply Kd.V_drew)); exact HO410.out) hg hat); have n3_ := Aside0.mk (Kd.Q_after (ok := (fun k_ => some k_ ≠ (.slice Ao21 t405.length co21 : Value).ownBlock)) (by (with_reducible repeat (first | apply Kd.Q_alloc | apply Kd.Q_drewN | apply Kd.Q_drew)); exact HO413.out) hg hat); have n4_ := Aside0.mk (Kd.R_over' (by (with_reducible repeat (first | apply Kd.R_alloc | apply Kd.R_drewN | apply Kd.R_drew)); exact HO417.out) (Kd.R_typed (by (with_reducible repeat (first | apply Kd.R_alloc | apply Kd.R_drewN | apply Kd.R_drew)); exact HO427.out)) (by decide) hg); have n5_ := Aside0.mk (Kd.R_over' (by (with_reducible repeat (first | apply Kd.R_alloc | apply Kd.R_drewN | apply Kd.R_drew)); exact HO421.out) (Kd.R_typed (by (with_reducible repeat (first | apply Kd.R_alloc | apply Kd.R_drewN | apply Kd.R_drew)); exact HO427.out)) (by decide) hg); have n6_ := Aside0.mk (hb); have n7_ := Aside0.mk (ho); clear HO404; clear HO407; clear HO410; clear HO413; clear HO417; clear HO421; clear HB; clear HO427; have HO404 := n0_; have HO407 := n1_; have HO410 := n2_; have HO413 := n3_; have HO417 := n4_; have HO421 := n5_; have HB := n6_; have HO430 := n7_; clear n0_ n1_ n2_ n3_ n4_ n5_ n6_ n7_; clear ho hb hg hat; obtain ⟨Ao29, co29, eo29⟩ := Kd.R_slice HO430.out; subst eo29) | ((with_reducible refine gate_callee (f := 10) rfl ?_); refine goesL_ (some 37) rfl rfl Tryd.func10 (by kernel_rfl) rfl #[.slice Ao29 y428.length co29] rfl (by (try simp only [List.map_toArray, List.map_cons, List.map_nil]); first | done | rfl | (simp only [List.length_drop, List.length_take]; rfl)) ?_; (with_reducible refine (lex_Join.calls k _ _ y428 t431 t432 _ ?side1 ?side2 ?side3 A12.out).mono ?_); (case side1 => exact Gl.below HG.out (by repeat (first | (with_reducible first | exact HB.out | apply below_alloc | apply pw_below_drewN | apply below_drew1) | exact HB.out))); (case side2 => repeat (first | exact (Kd.R_reads' HO430.out).2.2 | (with_reducible refine Kd.C_alloc ?_ _) | (with_reducible refine Kd.C_drewN ?_ _) | (with_reducible refine Kd.C_drew ?_))); (case side3 => exact (Kd.R_reads' HO430.out).2.1); rintro e w30 ⟨v433, rfl, ho0, hb⟩; refine ⟨_, rfl, ?_⟩; have n0_ := Aside0.mk (Kd.V_elder' (by (with_reducible repeat (first | apply Kd.V_alloc | apply Kd.V_drewN | apply Kd.V_drew)); exact HO404.out) (Kd.R_base ho0) hb); have n1_ := Aside0.mk (Kd.Q_below (by (with_reducible repeat (first | apply Kd.Q_alloc | apply Kd.Q_drewN | apply Kd.Q_drew)); exact HO407.out) hb); have n2_ := Aside0.mk (Kd.V_elder' (by (with_reducible repeat (first | apply Kd.V_alloc | apply Kd.V_drewN | apply Kd.V_drew)); exact HO410.out) (Kd.R_base ho0) hb); have n3_ := Aside0.mk (Kd.Q_below (by (with_reducible repeat (first | apply Kd.Q_alloc | apply Kd.Q_drewN | apply Kd.Q_drew)); exact HO413.out) hb); have n4_ := Aside0.mk (Kd.R_elder' (by (with_reducible repeat (first | apply Kd.R_alloc | apply Kd.R_drewN | apply Kd.R_drew)); exact HO417.out) (Kd.R_base ho0) hb); have n5_ := Aside0.mk (Kd.R_elder' (by (with_reducible repeat (first | apply Kd.R_alloc | apply Kd.R_drewN | apply Kd.R_drew)); exact HO421.out) (Kd.R_base ho0) hb); have n6_ := Aside0.mk (Kd.R_below (by (with_reducible repeat (first | apply Kd.R_alloc | apply Kd.R_drewN | apply Kd.R_drew)); exact HO430.out) hb); have n7_ := Aside0.mk (Kd.R_lower (Kd.R_new' (Kd.R_new' ho0 (Kd.R_lt (by (with_reducible repeat (first | apply Kd.R_alloc | apply Kd.R_drewN | apply Kd.R_drew)); exact HO417.out))) (Kd.R_lt (by (with_reducible repeat (first | apply Kd.R_alloc | apply Kd.R_drewN | apply Kd.R_drew)); exact HO421.out))) (below_size (by repeat (first | (with_reducible first | exact HB.out | apply below_alloc | apply pw_below_drewN | apply below_drew1) | exact HB.out)))); have n8_ := Aside0.mk (below_step (by repeat (first | (with_reducible first | exact HB.out | apply below_alloc | apply pw_below_drewN | apply below_drew1) | exact HB.out)) hb); clear HO404; clear HO407; clear HO410; clear HO413; clear HO417; clear HO421; clear HO430; clear HB; have HO404 := n0_; have HO407 := n1_; have HO410 := n2_; have HO413 := n3_; have HO417 := n4_; have HO421 := n5_; have HO430 := n6_; have HO434 := n7_; have HB := n8_; clear n0_ n1_ n2_ n3_ n4_ n5_ n6_ n7_ n8_; (try clear hb); (try clear hb2); (try clear hk); (try clear hi); (try clear ho0)))
   (try simp only [Act.put, List.setIfInBounds_toArray, List.set_cons_zero, List.set_cons_succ])
   go_cut [45] (fun v45 wc => ∃ (kq : Nat) (x45_12 : Bool), v45 = .bool x45_12 ∧ Aside0 (tmesislaw07_LexJoins.j0 kq t401 t414 t415 t418 t419 t431 t432 x45_12 = some r) ∧ Aside0 (kq ≤ k) ∧ Aside0 (Kd.R (Kd.int .u8) 5 wc w.heap.size (fun k_ => some k_ ≠ (v420 : Value).ownBlock ∧ some k_ ≠ (v433 : Value).ownBlock) v416 t414) ∧ Aside0 (Kd.R (Kd.int .u8) 5 wc w.heap.size (fun k_ => some k_ ≠ (v416 : Value).ownBlock ∧ some k_ ≠ (v433 : Value).ownBlock) v420 t418) ∧ Aside0 (Kd.R (Kd.int .u8) 5 wc w.heap.size (fun k_ => some k_ ≠ (v416 : Value).ownBlock ∧ some k_ ≠ (v420 : Value).ownBlock) v433 t431) ∧ Aside0 (Below w.heap.size w wc))
   case first =>
    have H := HC13.out
    clear HC13
    by_cases c31 : t415 = 0
    ·rw [if_pos c31] at H
     have c31b0 : (t415 == 0) = true := beq_iff_eq.mpr c31
     have c31b1 : (t415 != 0) = false := bne_eq_false_iff_eq.mpr c31
     clear c31
     (first | rw [c31b0] | (simp only [i64_w, i32_w]; rw [c31b0]) | skip)
     have H' := Aside0.mk H
     clear H
     go_wp2
     go_meet
     case rel => exact ⟨_, ((t419 != 0)), (by first | rfl | (simp; done) | (simp [*]; done)), H', ⟨by first | omega | exact Nat.le_refl _⟩, ⟨by (with_reducible repeat (first | apply Kd.R_alloc | apply Kd.R_drewN | apply Kd.R_drew)); exact Kd.R_mono HO417.out (fun _ hk => ⟨hk.1.2, hk.2⟩)⟩, ⟨by (with_reducible repeat (first | apply Kd.R_alloc | apply Kd.R_drewN | apply Kd.R_drew)); exact Kd.R_mono HO421.out (fun _ hk => ⟨hk.1.2, hk.2⟩)⟩, ⟨by (with_reducible repeat (first | apply Kd.R_alloc | apply Kd.R_drewN | apply Kd.R_drew)); exact Kd.R_mono HO434.out (fun _ hk => ⟨hk.1.2, hk.2⟩)⟩, ⟨by repeat (first | (with_reducible first | exact HB.out | apply below_alloc | apply pw_below_drewN | apply below_drew1) | exact HB.out)⟩⟩
    ·rw [if_neg c31] at H
     have c31b0 : (t415 == 0) = false := beq_eq_false_iff_ne.mpr c31
     have c31b1 : (t415 != 0) = true := bne_iff_ne.mpr c31
     (first | rw [c31b0] | (simp only [i64_w, i32_w]; rw [c31b0]) | skip)
     have H' := Aside0.mk H
     clear H
     go_wp2
     go_meet
     case rel => exact ⟨_, (true), (by first | rfl | (simp; done) | (simp [*]; done)), H', ⟨by first | omega | exact Nat.le_refl _⟩, ⟨by (with_reducible repeat (first | apply Kd.R_alloc | apply Kd.R_drewN | apply Kd.R_drew)); exact Kd.R_mono HO417.out (fun _ hk => ⟨hk.1.2, hk.2⟩)⟩, ⟨by (with_reducible repeat (first | apply Kd.R_alloc | apply Kd.R_drewN | apply Kd.R_drew)); exact Kd.R_mono HO421.out (fun _ hk => ⟨hk.1.2, hk.2⟩)⟩, ⟨by (with_reducible repeat (first | apply Kd.R_alloc | apply Kd.R_drewN | apply Kd.R_drew)); exact Kd.R_mono HO434.out (fun _ hk => ⟨hk.1.2, hk.2⟩)⟩, ⟨by repeat (first | (with_reducible first | exact HB.out | apply below_alloc | apply pw_below_drewN | apply below_drew1) | exact HB.out)⟩⟩
   case rest =>
    clear HC13
    try clear c1
    try clear p2
    try clear c3
    try clear c8
    try clear c9
    try clear c10
    try clear c11
    try clear c14
    try clear c15
    try clear c31
    try clear c31b0
    try clear c31b1
    obtain ⟨kq, x45_12, rfl, HA, HJ12, HO_8, HO_10, HO_12, HB⟩ := hcut
    cases kq with
    | zero => exact absurd HA.out (by simp [tmesislaw07_LexJoins.j0])
    | succ kj12 =>
     have H := HA.out
     clear HA
     simp only [tmesislaw07_LexJoins.j0] at H
     by_cases c32 : x45_12 = true
     ·subst c32
      have H1 : (if t401 = true then (if t432 = 1 then (if (t431.length : Int) = 0 then (tmesislaw07_LexJoins.j1 kj12 true) else (if t415 = 0 then (tmesislaw07_LexJoins.j1 kj12 true) else (tmesislaw07_LexJoins.j1 kj12 (t419 == 0)))) else (if t415 = 0 then (tmesislaw07_LexJoins.j1 kj12 true) else (tmesislaw07_LexJoins.j1 kj12 (t419 == 0)))) else (tmesislaw07_LexJoins.j1 kj12 false)) = some r := by rw [if_pos rfl] at H; exact H
      clear H
      have H := H1
      clear H1
      have HC33 := Aside0.mk H
      clear H
      go_upto_region 8 with (fail)
      go_cut [4] (fun v4 wc => ∃ (kq : Nat) (x4_32 : Bool), v4 = .bool x4_32 ∧ Aside0 (tmesislaw07_LexJoins.j1 kq x4_32 = some r) ∧ Aside0 (kq ≤ kj12) ∧ Aside0 (Below w.heap.size w wc))
      case first =>
       have H := HC33.out
       clear HC33
       by_cases c34 : t401 = true
       ·subst c34
        have H1 : (if t432 = 1 then (if (t431.length : Int) = 0 then (tmesislaw07_LexJoins.j1 kj12 true) else (if t415 = 0 then (tmesislaw07_LexJoins.j1 kj12 true) else (tmesislaw07_LexJoins.j1 kj12 (t419 == 0)))) else (if t415 = 0 then (tmesislaw07_LexJoins.j1 kj12 true) else (tmesislaw07_LexJoins.j1 kj12 (t419 == 0)))) = some r := by rw [if_pos rfl] at H; exact H
        clear H
        have H := H1
        clear H1
        by_cases c35 : t432 = 1
        ·rw [if_pos c35] at H
         have c35b0 : (t432 == 1) = true := beq_iff_eq.mpr c35
         have c35b1 : (t432 != 1) = false := bne_eq_false_iff_eq.mpr c35
         clear c35
         (first | rw [c35b0] | (simp only [i64_w, i32_w]; rw [c35b0]) | skip)
         by_cases c36 : (t431.length : Int) = 0
         ·rw [if_pos c36] at H
          have c36b0 : ((t431.length : Int) == 0) = true := beq_iff_eq.mpr c36
          have c36b1 : ((t431.length : Int) != 0) = false := bne_eq_false_iff_eq.mpr c36
          clear c36
          have H' := Aside0.mk H
          clear H
          obtain ⟨Ao37, co37, eo37⟩ := Kd.R_slice HO_12.out
          subst eo37
          go_wp2
          go_meet
          case rel => exact ⟨_, (true), (by first | rfl | (simp; done) | (simp [*]; done)), H', ⟨by have := HJ12.out; first | omega | exact Nat.le_refl _⟩, ⟨by repeat (first | (with_reducible first | exact HB.out | apply below_alloc | apply pw_below_drewN | apply below_drew1) | exact HB.out)⟩⟩
         ·rw [if_neg c36] at H
          have c36b0 : ((t431.length : Int) == 0) = false := beq_eq_false_iff_ne.mpr c36
          have c36b1 : ((t431.length : Int) != 0) = true := bne_iff_ne.mpr c36
          have c36b2 : ¬ (t431 = []) := fun h_ => c36 (by rw [h_]; rfl)
          by_cases c38 : t415 = 0
          ·rw [if_pos c38] at H
           have c38b0 : (t415 == 0) = true := beq_iff_eq.mpr c38
           have c38b1 : (t415 != 0) = false := bne_eq_false_iff_eq.mpr c38
           clear c38
           have H' := Aside0.mk H
           clear H
           obtain ⟨Ao39, co39, eo39⟩ := Kd.R_slice HO_12.out
           subst eo39
           go_wp2
           go_meet
           case rel => exact ⟨_, (true), (by first | rfl | (simp; done) | (simp [*]; done)), H', ⟨by have := HJ12.out; first | omega | exact Nat.le_refl _⟩, ⟨by repeat (first | (with_reducible first | exact HB.out | apply below_alloc | apply pw_below_drewN | apply below_drew1) | exact HB.out)⟩⟩
          ·rw [if_neg c38] at H
           have c38b0 : (t415 == 0) = false := beq_eq_false_iff_ne.mpr c38
           have c38b1 : (t415 != 0) = true := bne_iff_ne.mpr c38
           have H' := Aside0.mk H
           clear H
           obtain ⟨Ao40, co40, eo40⟩ := Kd.R_slice HO_12.out
           subst eo40
           go_wp2
           go_meet
           case rel => exact ⟨_, ((t419 == 0)), (by first | rfl | (simp; done) | (simp [*]; done)), H', ⟨by have := HJ12.out; first | omega | exact Nat.le_refl _⟩, ⟨by repeat (first | (with_reducible first | exact HB.out | apply below_alloc | apply pw_below_drewN | apply below_drew1) | exact HB.out)⟩⟩
        ·rw [if_neg c35] at H
         have c35b0 : (t432 == 1) = false := beq_eq_false_iff_ne.mpr c35
         have c35b1 : (t432 != 1) = true := bne_iff_ne.mpr c35
         (first | rw [c35b0] | (simp only [i64_w, i32_w]; rw [c35b0]) | skip)
         by_cases c41 : t415 = 0
         ·rw [if_pos c41] at H
          have c41b0 : (t415 == 0) = true := beq_iff_eq.mpr c41
          have c41b1 : (t415 != 0) = false := bne_eq_false_iff_eq.mpr c41
          clear c41
          have H' := Aside0.mk H
          clear H
          go_wp2
          go_meet
          case rel => exact ⟨_, (true), (by first | rfl | (simp; done) | (simp [*]; done)), H', ⟨by have := HJ12.out; first | omega | exact Nat.le_refl _⟩, ⟨by repeat (first | (with_reducible first | exact HB.out | apply below_alloc | apply pw_below_drewN | apply below_drew1) | exact HB.out)⟩⟩
         ·rw [if_neg c41] at H
          have c41b0 : (t415 == 0) = false := beq_eq_false_iff_ne.mpr c41
          have c41b1 : (t415 != 0) = true := bne_iff_ne.mpr c41
          have H' := Aside0.mk H
          clear H
          go_wp2
          go_meet
          case rel => exact ⟨_, ((t419 == 0)), (by first | rfl | (simp; done) | (simp [*]; done)), H', ⟨by have := HJ12.out; first | omega | exact Nat.le_refl _⟩, ⟨by repeat (first | (with_reducible first | exact HB.out | apply below_alloc | apply pw_below_drewN | apply below_drew1) | exact HB.out)⟩⟩
       ·replace c34 := Bool.eq_false_iff.mpr c34
        subst c34
        have H1 : (tmesislaw07_LexJoins.j1 kj12 false) = some r := by rw [if_neg (show ¬ (false = true) by decide)] at H; exact H
        clear H
        have H := H1
        clear H1
        have H' := Aside0.mk H
        clear H
        go_wp2
        go_meet
        case rel => exact ⟨_, (false), (by first | rfl | (simp; done) | (simp [*]; done)), H', ⟨by have := HJ12.out; first | omega | exact Nat.le_refl _⟩, ⟨by repeat (first | (with_reducible first | exact HB.out | apply below_alloc | apply pw_below_drewN | apply below_drew1) | exact HB.out)⟩⟩
      case rest =>
       clear HC33
       try clear c1
       try clear p2
       try clear c3
       try clear c4
       try clear c8
       try clear c9
       try clear c10
       try clear c11
       try clear c14
       try clear c15
       try clear c31
       try clear c31b0
       try clear c31b1
       try clear c32
       try clear c34
       try clear c35
       try clear c35b0
       try clear c35b1
       try clear c36
       try clear c36b0
       try clear c36b1
       try clear c36b2
       try clear c38
       try clear c38b0
       try clear c38b1
       try clear c41
       try clear c41b0
       try clear c41b1
       try clear p2
       obtain ⟨kq, x4_32, rfl, HA, HJ32, HB⟩ := hcut
       cases kq with
       | zero => exact absurd HA.out (by simp [tmesislaw07_LexJoins.j1])
       | succ kj32 =>
        have H := HA.out
        clear HA
        simp only [tmesislaw07_LexJoins.j1] at H
        obtain rfl := Option.some.inj H
        go_wp2
        go_ret
        exact ⟨by first | rfl | (simp [errW_none, errW_some] <;> rfl) | (simp [*, errW_none, errW_some] <;> rfl), by repeat (first | (with_reducible first | exact HB.out | apply below_alloc | apply pw_below_drewN | apply below_drew1) | exact HB.out)⟩
     ·replace c32 := Bool.eq_false_iff.mpr c32
      subst c32
      have H1 : (if t401 = true then (if t432 = 0 then (if (strOfNums t414).size + (strOfNums t418).size ≤ 9223372036854775807 then (tmesislaw07_LexJoins.j2 kj12 ((strOfNums t431).toList == ((strOfNums t414) ++ (strOfNums t418)).toList)) else (none)) else (tmesislaw07_LexJoins.j2 kj12 false)) else (tmesislaw07_LexJoins.j2 kj12 false)) = some r := by rw [if_neg (show ¬ (false = true) by decide)] at H; exact H
      clear H
      have H := H1
      clear H1
      have HC42 := Aside0.mk H
      clear H
      go_upto_region 9 with (fail)
      go_cut [4] (fun v4 wc => ∃ (kq : Nat) (x4_41 : Bool), v4 = .bool x4_41 ∧ Aside0 (tmesislaw07_LexJoins.j2 kq x4_41 = some r) ∧ Aside0 (kq ≤ kj12) ∧ Aside0 (Below w.heap.size w wc))
      case first =>
       have H := HC42.out
       clear HC42
       by_cases c43 : t401 = true
       ·subst c43
        have H1 : (if t432 = 0 then (if (strOfNums t414).size + (strOfNums t418).size ≤ 9223372036854775807 then (tmesislaw07_LexJoins.j2 kj12 ((strOfNums t431).toList == ((strOfNums t414) ++ (strOfNums t418)).toList)) else (none)) else (tmesislaw07_LexJoins.j2 kj12 false)) = some r := by rw [if_pos rfl] at H; exact H
        clear H
        have H := H1
        clear H1
        by_cases c44 : t432 = 0
        ·rw [if_pos c44] at H
         have c44b0 : (t432 == 0) = true := beq_iff_eq.mpr c44
         have c44b1 : (t432 != 0) = false := bne_eq_false_iff_eq.mpr c44
         clear c44
         (first | rw [c44b0] | (simp only [i64_w, i32_w]; rw [c44b0]) | skip)
         by_cases c45 : (strOfNums t414).size + (strOfNums t418).size ≤ 9223372036854775807
         ·rw [if_pos c45] at H
          have c45b0 := eq_true c45
          have c45b1 : decide ((strOfNums t414).size + (strOfNums t418).size ≤ 9223372036854775807) = true := decide_eq_true c45
          try have c45b2 : (9223372036854775807 < (strOfNums t414).size + (strOfNums t418).size) = False := eq_false (Nat.not_lt.2 c45)
          have H' := Aside0.mk H
          clear H
          (first | (have hcv46 := own_string (P := Tryd.prog) Tryd.underlying22 Tryd.underlying5 Tryd.underlying9 (Kd.own_of_R HO_12.out); have hcv46q := fun (q_ : Nat) => own_string (P := Tryd.prog) Tryd.underlying22 Tryd.underlying5 Tryd.underlying9 (pw_own_drewN (Kd.own_of_R HO_12.out) q_)) | (have hcv46 := V_string (P := Tryd.prog) Tryd.underlying22 Tryd.underlying5 Tryd.underlying9 HO_12.out; have hcv46q := fun (q_ : Nat) => V_string (P := Tryd.prog) Tryd.underlying22 Tryd.underlying5 Tryd.underlying9 (Kd.V_drewN HO_12.out q_)))
          (first | (have hcv47 := own_string (P := Tryd.prog) Tryd.underlying22 Tryd.underlying5 Tryd.underlying9 (Kd.own_of_R HO_8.out); have hcv47q := fun (q_ : Nat) => own_string (P := Tryd.prog) Tryd.underlying22 Tryd.underlying5 Tryd.underlying9 (pw_own_drewN (Kd.own_of_R HO_8.out) q_)) | (have hcv47 := V_string (P := Tryd.prog) Tryd.underlying22 Tryd.underlying5 Tryd.underlying9 HO_8.out; have hcv47q := fun (q_ : Nat) => V_string (P := Tryd.prog) Tryd.underlying22 Tryd.underlying5 Tryd.underlying9 (Kd.V_drewN HO_8.out q_)))
          (first | (have hcv48 := own_string (P := Tryd.prog) Tryd.underlying22 Tryd.underlying5 Tryd.underlying9 (Kd.own_of_R HO_10.out); have hcv48q := fun (q_ : Nat) => own_string (P := Tryd.prog) Tryd.underlying22 Tryd.underlying5 Tryd.underlying9 (pw_own_drewN (Kd.own_of_R HO_10.out) q_)) | (have hcv48 := V_string (P := Tryd.prog) Tryd.underlying22 Tryd.underlying5 Tryd.underlying9 HO_10.out; have hcv48q := fun (q_ : Nat) => V_string (P := Tryd.prog) Tryd.underlying22 Tryd.underlying5 Tryd.underlying9 (Kd.V_drewN HO_10.out q_)))
          go_wp2
          go_meet
          case rel => exact ⟨_, (((strOfNums t431).toList == ((strOfNums t414) ++ (strOfNums t418)).toList)), (by first | rfl | (simp; done) | (simp [*]; done)), H', ⟨by have := HJ12.out; first | omega | exact Nat.le_refl _⟩, ⟨by repeat (first | (with_reducible first | exact HB.out | apply below_alloc | apply pw_below_drewN | apply below_drew1) | exact HB.out)⟩⟩
         ·rw [if_neg c45] at H
          exact absurd H (by simp)
        ·rw [if_neg c44] at H
         have c44b0 : (t432 == 0) = false := beq_eq_false_iff_ne.mpr c44
         have c44b1 : (t432 != 0) = true := bne_iff_ne.mpr c44
         (first | rw [c44b0] | (simp only [i64_w, i32_w]; rw [c44b0]) | skip)
         have H' := Aside0.mk H
         clear H
         go_wp2
         go_meet
         case rel => exact ⟨_, (false), (by first | rfl | (simp; done) | (simp [*]; done)), H', ⟨by have := HJ12.out; first | omega | exact Nat.le_refl _⟩, ⟨by repeat (first | (with_reducible first | exact HB.out | apply below_alloc | apply pw_below_drewN | apply below_drew1) | exact HB.out)⟩⟩
       ·replace c43 := Bool.eq_false_iff.mpr c43
        subst c43
        have H1 : (tmesislaw07_LexJoins.j2 kj12 false) = some r := by rw [if_neg (show ¬ (false = true) by decide)] at H; exact H
        clear H
        have H := H1
        clear H1
        have H' := Aside0.mk H
        clear H
        go_wp2
        go_meet
        case rel => exact ⟨_, (false), (by first | rfl | (simp; done) | (simp [*]; done)), H', ⟨by have := HJ12.out; first | omega | exact Nat.le_refl _⟩, ⟨by repeat (first | (with_reducible first | exact HB.out | apply below_alloc | apply pw_below_drewN | apply below_drew1) | exact HB.out)⟩⟩
      case rest =>
       clear HC42
       try clear c1
       try clear p2
       try clear c3
       try clear c4
       try clear hcv4
       try clear c8
       try clear c9
       try clear c10
       try clear c11
       try clear c14
       try clear c15
       try clear c31
       try clear c31b0
       try clear c31b1
       try clear c32
       try clear c34
       try clear c35
       try clear c35b0
       try clear c35b1
       try clear c36
       try clear c36b0
       try clear c36b1
       try clear c36b2
       try clear c38
       try clear c38b0
       try clear c38b1
       try clear c41
       try clear c41b0
       try clear c41b1
       try clear c43
       try clear c44
       try clear c44b0
       try clear c44b1
       try clear c45
       try clear c45b0
       try clear c45b1
       try clear c45b2
       try clear hcv46
       try clear hcv47
       try clear hcv48
       try clear p2
       obtain ⟨kq, x4_41, rfl, HA, HJ41, HB⟩ := hcut
       cases kq with
       | zero => exact absurd HA.out (by simp [tmesislaw07_LexJoins.j2])
       | succ kj41 =>
        have H := HA.out
        clear HA
        simp only [tmesislaw07_LexJoins.j2] at H
        obtain rfl := Option.some.inj H
        go_wp2
        go_ret
        exact ⟨by first | rfl | (simp [errW_none, errW_some] <;> rfl) | (simp [*, errW_none, errW_some] <;> rfl), by repeat (first | (with_reducible first | exact HB.out | apply below_alloc | apply pw_below_drewN | apply below_drew1) | exact HB.out)⟩
  ·rw [if_neg c11] at H
   exact absurd H (by simp)
 ·rw [if_neg c10] at H
  exact absurd H (by simp)
/-- THE ONE PURE STATEMENT of tmesislaw07_LexJoins: yours. -/
def tmesislaw07_LexJoins.Pure : Prop := ∀ (l0 : List Int) (l1 : List Int), l0.length ≤ maxLen → l0.length * 1 ≤ 140737488351232 → (∀ x ∈ l0, (Lit.int .u8 x).wf = true) → l1.length ≤ maxLen → l1.length * 1 ≤ 140737488351232 → (∀ x ∈ l1, (Lit.int .u8 x).wf = true) → ∃ k, tmesislaw07_LexJoins.f k l0 l1 = some true
theorem tmesislaw07_LexJoins.walk (P : tmesislaw07_LexJoins.Pure) (a0 : Option Addr) (len0 cap0 : Nat) (z0 : List Int) (a1 : Option Addr) (len1 cap1 : Nat) (z1 : List Int) (w : World) (hG : Gl w) (w0 : (a0 = none ∧ len0 = 0 ∧ cap0 = 0 ∧ z0 = []) ∨ ∃ x, a0 = some x ∧ len0 ≤ cap0 ∧ cap0 ≤ maxLen ∧ z0.length = cap0 ∧ (∀ i, i < z0.length → w.cell? (x.add i) = some (.int .u8 (z0.getD i 0))) ∧ ∀ n ∈ z0, (Lit.int .u8 n).wf = true) (y0 : len0 * 1 ≤ 140737488351232) (w1 : (a1 = none ∧ len1 = 0 ∧ cap1 = 0 ∧ z1 = []) ∨ ∃ x, a1 = some x ∧ len1 ≤ cap1 ∧ cap1 ≤ maxLen ∧ z1.length = cap1 ∧ (∀ i, i < z1.length → w.cell? (x.add i) = some (.int .u8 (z1.getD i 0))) ∧ ∀ n ∈ z1, (Lit.int .u8 n).wf = true) (y1 : len1 * 1 ≤ 140737488351232) :
  Calls Tryd.prog 8 #[.slice a0 len0 cap0, .slice a1 len1 cap1] w fun e w' => e = .returned (.bool true) ∧ Below w.heap.size w w' := by
 obtain ⟨l0, rfl, hr0, hm0, hw0, hc0⟩ := ReadsInt.ofRowC w0
 obtain ⟨l1, rfl, hr1, hm1, hw1, hc1⟩ := ReadsInt.ofRowC w1
 obtain ⟨k, h⟩ := P l0 l1 hm0 y0 hw0 hm1 y1 hw1
 refine (tmesislaw07_LexJoins.calls k _ _ l0 _ _ l1 true w hG (Kd.C_of_reads (d := (0 : Int)) (h1 := fun _ => rfl) hr0) hc0 (Kd.C_of_reads (d := (0 : Int)) (h1 := fun _ => rfl) hr1) hc1 h).mono ?_
 rintro e w' ⟨rfl, hd⟩
 exact ⟨rfl, hd⟩
end Go.Proofs.YtdejidhgeefmeaaDoor.P
