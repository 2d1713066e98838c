/- Part of the proof: what the theorem needs of this text. -/
import Derived.Test.YtklpephnbkoinaaDoorKHG
import Derived.Test.YtklpephnbkoinaaDoorKPx0
import Derived.Test.YtklpephnbkoinaaDoorKPx2
import Derived.Test.YtklpephnbkoinaaDoorKPx9
namespace Go.Proofs.YtklpephnbkoinaaDoor.P
open Go.RowKit Go.Proofs.YtklpephnbkoinaaDoorW.PrintWords Go.Proofs.YtklpephnbkoinaaDoorW.PrintLast Go.Proofs.YtklpephnbkoinaaDoorW.PrintMore
attribute [local go_sem] max2_int min2_int max_two min_two max_three min_three max_four min_four   -- for this text's walks alone
set_option linter.unusedVariables false
set_option linter.unusedSimpArgs false
mutual
def tmesislaw24_MatchBoth.j0 : Nat → Bool → Int → Int → Int → Int → List Int → Int → Int → Bool → Option (Bool)
 | 0, _, _, _, _, _, _, _, _, _ => none
 | k + 1, x5, x8, x9, x10, x11, x13, x14, x15, x17 => (split_Pieces.f k x13).bind fun t458 => (if (t458.length : Int) > 0 then (if 0 ≤ (wrap64 ((t458.length : Int) - 1)) then (if (wrap64 ((t458.length : Int) - 1)) < (t458.length : Int) then (if 0 ≤ ((rd_T36 t458 (wrap64 ((t458.length : Int) - 1))).f0) then (if ((rd_T36 t458 (wrap64 ((t458.length : Int) - 1))).f0) ≤ (x13.length : Int) then (tmesislaw24_MatchBoth.j1 k x5 x8 x9 x10 x11 x14 x15 x17 ((strOfNums (x13.drop (((rd_T36 t458 (wrap64 ((t458.length : Int) - 1))).f0) : Int).toNat)).toList == ([113, 46] : List UInt8))) else (none)) else (none)) else (none)) else (none)) else (tmesislaw24_MatchBoth.j1 k x5 x8 x9 x10 x11 x14 x15 x17 false))
def tmesislaw24_MatchBoth.j1 : Nat → Bool → Int → Int → Int → Int → Int → Int → Bool → Bool → Option (Bool)
 | 0, _, _, _, _, _, _, _, _, _ => none
 | k + 1, x5, x8, x9, x10, x11, x14, x15, x17, x19 => if x5 = true then (if x8 = x10 then (if x9 = x11 then (if x14 ≥ 1 then (if x17 = true then (if x19 = true then (tmesislaw24_MatchBoth.j2 k (decide ((wrap64 (x14 + x15)) ≥ 2))) else (tmesislaw24_MatchBoth.j2 k true)) else (tmesislaw24_MatchBoth.j2 k true)) else (tmesislaw24_MatchBoth.j2 k false)) else (tmesislaw24_MatchBoth.j2 k false)) else (tmesislaw24_MatchBoth.j2 k false)) else (tmesislaw24_MatchBoth.j2 k false)
def tmesislaw24_MatchBoth.j2 : Nat → Bool → Option (Bool)
 | 0, _ => none
 | k + 1, x4 => some x4
end
def tmesislaw24_MatchBoth.f (k : Nat) (l0 : List Int) (l1 : List Int) : Option (Bool) := (tmesislaw24_shown.f k).bind fun t400 => ((tmesislaw24_few.f l0).bind fun t401 => ((tmesislaw24_few.f l1).bind fun t404 => ((split_Pieces.f k t401).bind fun t407 => ((split_Pieces.f k t404).bind fun t410 => ((match_Keep.f k t401 t404 t407 t410).bind fun bt413 => ((split_Pieces.f k t404).bind fun t415 => ((split_Pieces.f k t401).bind fun t418 => ((match_Keep.f k t404 t401 t415 t418).bind fun bt421 => ((some (([112, 46, 32] : List Int) : List Int)).bind fun y423 => (if y423.length + t401.length < 140737488355328 then ((some (y423 ++ t401 : List Int)).bind fun y426 => (if y426.length + 5 < 140737488355328 then ((some (y426 ++ bytesOf (⟨#[32, 46, 32, 113, 46]⟩ : ByteArray) : List Int)).bind fun y429 => ((some (([112, 46, 32] : List Int) : List Int)).bind fun y432 => (if y432.length + t404.length < 140737488355328 then ((some (y432 ++ t404 : List Int)).bind fun y435 => (if y435.length + 5 < 140737488355328 then ((some (y435 ++ bytesOf (⟨#[32, 46, 32, 113, 46]⟩ : ByteArray) : List Int)).bind fun y438 => ((split_Pieces.f k y429).bind fun t441 => ((split_Pieces.f k y438).bind fun t444 => ((match_Keep.f k y429 y438 t441 t444).bind fun bt447 => ((split_Pieces.f k y429).bind fun t449 => (if (t449.length : Int) > 0 then (if 0 ≤ (wrap64 ((t449.length : Int) - 1)) then (if (wrap64 ((t449.length : Int) - 1)) < (t449.length : Int) then (if 0 ≤ ((rd_T36 t449 (wrap64 ((t449.length : Int) - 1))).f0) then (if ((rd_T36 t449 (wrap64 ((t449.length : Int) - 1))).f0) ≤ (y429.length : Int) then (tmesislaw24_MatchBoth.j0 k t400 bt413.1 bt413.2 bt421.1 bt421.2 y438 bt447.1 bt447.2 ((strOfNums (y429.drop (((rd_T36 t449 (wrap64 ((t449.length : Int) - 1))).f0) : Int).toNat)).toList == ([113, 46] : List UInt8))) else (none)) else (none)) else (none)) else (none)) else (tmesislaw24_MatchBoth.j0 k t400 bt413.1 bt413.2 bt421.1 bt421.2 y438 bt447.1 bt447.2 false))))))) else (none))) else (none)))) else (none))) else (none)))))))))))
theorem tmesislaw24_MatchBoth.mono_l : ∀ k, (∀ y0 y1 y2 y3 y4 y5 y6 y7 y8, LeO (tmesislaw24_MatchBoth.j0 k y0 y1 y2 y3 y4 y5 y6 y7 y8) (tmesislaw24_MatchBoth.j0 (k + 1) y0 y1 y2 y3 y4 y5 y6 y7 y8)) ∧ (∀ y0 y1 y2 y3 y4 y5 y6 y7 y8, LeO (tmesislaw24_MatchBoth.j1 k y0 y1 y2 y3 y4 y5 y6 y7 y8) (tmesislaw24_MatchBoth.j1 (k + 1) y0 y1 y2 y3 y4 y5 y6 y7 y8)) ∧ (∀ y0, LeO (tmesislaw24_MatchBoth.j2 k y0) (tmesislaw24_MatchBoth.j2 (k + 1) y0))
 | 0 => ⟨fun _ _ _ _ _ _ _ _ _ r h => by simp [tmesislaw24_MatchBoth.j0] at h, fun _ _ _ _ _ _ _ _ _ r h => by simp [tmesislaw24_MatchBoth.j1] at h, fun _ r h => by simp [tmesislaw24_MatchBoth.j2] at h⟩
 | k + 1 => by
  obtain ⟨ih0, ih1, ih2⟩ := tmesislaw24_MatchBoth.mono_l k
  refine ⟨?_, ?_, ?_⟩
  ·intro y0 y1 y2 y3 y4 y5 y6 y7 y8
   unfold tmesislaw24_MatchBoth.j0
   repeat' with_reducible first | exact ih0 _ _ _ _ _ _ _ _ _ | exact ih1 _ _ _ _ _ _ _ _ _ | exact ih2 _ | exact match_Keep.mono _ _ _ _ _ | exact split_Pieces.mono _ _ | exact tmesislaw24_shown.mono _ | exact LeO.refl _ | exact LeO.none _ | refine LeO.ite ?_ ?_ | refine LeO.bind ?_ (fun _ => ?_)
  ·intro y0 y1 y2 y3 y4 y5 y6 y7 y8
   unfold tmesislaw24_MatchBoth.j1
   repeat' with_reducible first | exact ih0 _ _ _ _ _ _ _ _ _ | exact ih1 _ _ _ _ _ _ _ _ _ | exact ih2 _ | exact match_Keep.mono _ _ _ _ _ | exact split_Pieces.mono _ _ | exact tmesislaw24_shown.mono _ | exact LeO.refl _ | exact LeO.none _ | refine LeO.ite ?_ ?_ | refine LeO.bind ?_ (fun _ => ?_)
  ·intro y0
   unfold tmesislaw24_MatchBoth.j2
   repeat' with_reducible first | exact ih0 _ _ _ _ _ _ _ _ _ | exact ih1 _ _ _ _ _ _ _ _ _ | exact ih2 _ | exact match_Keep.mono _ _ _ _ _ | exact split_Pieces.mono _ _ | exact tmesislaw24_shown.mono _ | exact LeO.refl _ | exact LeO.none _ | refine LeO.ite ?_ ?_ | refine LeO.bind ?_ (fun _ => ?_)
theorem tmesislaw24_MatchBoth.mono : ∀ a0 a1 k, LeO (tmesislaw24_MatchBoth.f k a0 a1) (tmesislaw24_MatchBoth.f (k + 1) a0 a1) := by
 intro a0 a1 k
 obtain ⟨ih0, ih1, ih2⟩ := tmesislaw24_MatchBoth.mono_l k
 unfold tmesislaw24_MatchBoth.f
 repeat' with_reducible first | exact ih0 _ _ _ _ _ _ _ _ _ | exact ih1 _ _ _ _ _ _ _ _ _ | exact ih2 _ | exact match_Keep.mono _ _ _ _ _ | exact split_Pieces.mono _ _ | exact tmesislaw24_shown.mono _ | exact LeO.refl _ | exact LeO.none _ | refine LeO.ite ?_ ?_ | refine LeO.bind ?_ (fun _ => ?_)
set_option maxHeartbeats 8000000 in
set_option maxRecDepth 100000 in
theorem tmesislaw24_MatchBoth.calls (k : Nat) (A0 : Option Addr) (c0 : Nat) (l0 : List Int) (A1 : Option Addr) (c1 : Nat) (l1 : List Int) (r : Bool) (w : World) (hG : Gl w) (hr0 : Kd.C (Kd.int .u8) w A0 l0.length l0) (hc0 : l0.length ≤ c0) (hr1 : Kd.C (Kd.int .u8) w A1 l1.length l1) (hc1 : l1.length ≤ c1) (h : tmesislaw24_MatchBoth.f k l0 l1 = some r) :
  Calls Tryd.prog 5 #[.slice A0 l0.length c0, .slice A1 l1.length c1] w fun e w' => e = .returned (.bool r) ∧ Below w.heap.size w w' := by
 have HR0 := Aside0.mk hr0
 have HC0 := Aside0.mk hc0
 clear hr0 hc0
 have HR1 := Aside0.mk hr1
 have HC1 := Aside0.mk hc1
 clear hr1 hc1
 have HB := Aside0.mk (Below.refl w.heap.size w)
 have HG := Aside0.mk hG
 clear hG
 have H : ((tmesislaw24_shown.f k).bind fun t400 => ((tmesislaw24_few.f l0).bind fun t401 => ((tmesislaw24_few.f l1).bind fun t404 => ((split_Pieces.f k t401).bind fun t407 => ((split_Pieces.f k t404).bind fun t410 => ((match_Keep.f k t401 t404 t407 t410).bind fun bt413 => ((split_Pieces.f k t404).bind fun t415 => ((split_Pieces.f k t401).bind fun t418 => ((match_Keep.f k t404 t401 t415 t418).bind fun bt421 => ((some (([112, 46, 32] : List Int) : List Int)).bind fun y423 => (if y423.length + t401.length < 140737488355328 then ((some (y423 ++ t401 : List Int)).bind fun y426 => (if y426.length + 5 < 140737488355328 then ((some (y426 ++ bytesOf (⟨#[32, 46, 32, 113, 46]⟩ : ByteArray) : List Int)).bind fun y429 => ((some (([112, 46, 32] : List Int) : List Int)).bind fun y432 => (if y432.length + t404.length < 140737488355328 then ((some (y432 ++ t404 : List Int)).bind fun y435 => (if y435.length + 5 < 140737488355328 then ((some (y435 ++ bytesOf (⟨#[32, 46, 32, 113, 46]⟩ : ByteArray) : List Int)).bind fun y438 => ((split_Pieces.f k y429).bind fun t441 => ((split_Pieces.f k y438).bind fun t444 => ((match_Keep.f k y429 y438 t441 t444).bind fun bt447 => ((split_Pieces.f k y429).bind fun t449 => (if (t449.length : Int) > 0 then (if 0 ≤ (wrap64 ((t449.length : Int) - 1)) then (if (wrap64 ((t449.length : Int) - 1)) < (t449.length : Int) then (if 0 ≤ ((rd_T36 t449 (wrap64 ((t449.length : Int) - 1))).f0) then (if ((rd_T36 t449 (wrap64 ((t449.length : Int) - 1))).f0) ≤ (y429.length : Int) then (tmesislaw24_MatchBoth.j0 k t400 bt413.1 bt413.2 bt421.1 bt421.2 y438 bt447.1 bt447.2 ((strOfNums (y429.drop (((rd_T36 t449 (wrap64 ((t449.length : Int) - 1))).f0) : Int).toNat)).toList == ([113, 46] : List UInt8))) else (none)) else (none)) else (none)) else (none)) else (tmesislaw24_MatchBoth.j0 k t400 bt413.1 bt413.2 bt421.1 bt421.2 y438 bt447.1 bt447.2 false))))))) else (none))) else (none)))) else (none))) else (none)))))))))))) = some r := h
 clear h
 obtain ⟨t400, A3, H⟩ := bE H
 obtain ⟨t401, A4, H⟩ := bE H
 obtain ⟨t404, A5, H⟩ := bE H
 obtain ⟨t407, A6, H⟩ := bE H
 obtain ⟨t410, A7, H⟩ := bE H
 obtain ⟨⟨t413, t414⟩, A8, H⟩ := bE H
 replace H : ((split_Pieces.f k t404).bind fun t415 => ((split_Pieces.f k t401).bind fun t418 => ((match_Keep.f k t404 t401 t415 t418).bind fun bt421 => ((some (([112, 46, 32] : List Int) : List Int)).bind fun y423 => (if y423.length + t401.length < 140737488355328 then ((some (y423 ++ t401 : List Int)).bind fun y426 => (if y426.length + 5 < 140737488355328 then ((some (y426 ++ bytesOf (⟨#[32, 46, 32, 113, 46]⟩ : ByteArray) : List Int)).bind fun y429 => ((some (([112, 46, 32] : List Int) : List Int)).bind fun y432 => (if y432.length + t404.length < 140737488355328 then ((some (y432 ++ t404 : List Int)).bind fun y435 => (if y435.length + 5 < 140737488355328 then ((some (y435 ++ bytesOf (⟨#[32, 46, 32, 113, 46]⟩ : ByteArray) : List Int)).bind fun y438 => ((split_Pieces.f k y429).bind fun t441 => ((split_Pieces.f k y438).bind fun t444 => ((match_Keep.f k y429 y438 t441 t444).bind fun bt447 => ((split_Pieces.f k y429).bind fun t449 => (if (t449.length : Int) > 0 then (if 0 ≤ (wrap64 ((t449.length : Int) - 1)) then (if (wrap64 ((t449.length : Int) - 1)) < (t449.length : Int) then (if 0 ≤ ((rd_T36 t449 (wrap64 ((t449.length : Int) - 1))).f0) then (if ((rd_T36 t449 (wrap64 ((t449.length : Int) - 1))).f0) ≤ (y429.length : Int) then (tmesislaw24_MatchBoth.j0 k t400 t413 t414 bt421.1 bt421.2 y438 bt447.1 bt447.2 ((strOfNums (y429.drop (((rd_T36 t449 (wrap64 ((t449.length : Int) - 1))).f0) : Int).toNat)).toList == ([113, 46] : List UInt8))) else (none)) else (none)) else (none)) else (none)) else (tmesislaw24_MatchBoth.j0 k t400 t413 t414 bt421.1 bt421.2 y438 bt447.1 bt447.2 false))))))) else (none))) else (none)))) else (none))) else (none)))))) = some r := H
 obtain ⟨t415, A9, H⟩ := bE H
 obtain ⟨t418, A10, H⟩ := bE H
 obtain ⟨⟨t421, t422⟩, A11, H⟩ := bE H
 replace H : ((some (([112, 46, 32] : List Int) : List Int)).bind fun y423 => (if y423.length + t401.length < 140737488355328 then ((some (y423 ++ t401 : List Int)).bind fun y426 => (if y426.length + 5 < 140737488355328 then ((some (y426 ++ bytesOf (⟨#[32, 46, 32, 113, 46]⟩ : ByteArray) : List Int)).bind fun y429 => ((some (([112, 46, 32] : List Int) : List Int)).bind fun y432 => (if y432.length + t404.length < 140737488355328 then ((some (y432 ++ t404 : List Int)).bind fun y435 => (if y435.length + 5 < 140737488355328 then ((some (y435 ++ bytesOf (⟨#[32, 46, 32, 113, 46]⟩ : ByteArray) : List Int)).bind fun y438 => ((split_Pieces.f k y429).bind fun t441 => ((split_Pieces.f k y438).bind fun t444 => ((match_Keep.f k y429 y438 t441 t444).bind fun bt447 => ((split_Pieces.f k y429).bind fun t449 => (if (t449.length : Int) > 0 then (if 0 ≤ (wrap64 ((t449.length : Int) - 1)) then (if (wrap64 ((t449.length : Int) - 1)) < (t449.length : Int) then (if 0 ≤ ((rd_T36 t449 (wrap64 ((t449.length : Int) - 1))).f0) then (if ((rd_T36 t449 (wrap64 ((t449.length : Int) - 1))).f0) ≤ (y429.length : Int) then (tmesislaw24_MatchBoth.j0 k t400 t413 t414 t421 t422 y438 bt447.1 bt447.2 ((strOfNums (y429.drop (((rd_T36 t449 (wrap64 ((t449.length : Int) - 1))).f0) : Int).toNat)).toList == ([113, 46] : List UInt8))) else (none)) else (none)) else (none)) else (none)) else (tmesislaw24_MatchBoth.j0 k t400 t413 t414 t421 t422 y438 bt447.1 bt447.2 false))))))) else (none))) else (none)))) else (none))) else (none))) = some r := H
 obtain ⟨y423, hy423⟩ : ∃ y_ : List Int, y_ = (([112, 46, 32] : List Int)) := ⟨_, rfl⟩
 replace H : (if y423.length + t401.length < 140737488355328 then ((some (y423 ++ t401 : List Int)).bind fun y426 => (if y426.length + 5 < 140737488355328 then ((some (y426 ++ bytesOf (⟨#[32, 46, 32, 113, 46]⟩ : ByteArray) : List Int)).bind fun y429 => ((some (([112, 46, 32] : List Int) : List Int)).bind fun y432 => (if y432.length + t404.length < 140737488355328 then ((some (y432 ++ t404 : List Int)).bind fun y435 => (if y435.length + 5 < 140737488355328 then ((some (y435 ++ bytesOf (⟨#[32, 46, 32, 113, 46]⟩ : ByteArray) : List Int)).bind fun y438 => ((split_Pieces.f k y429).bind fun t441 => ((split_Pieces.f k y438).bind fun t444 => ((match_Keep.f k y429 y438 t441 t444).bind fun bt447 => ((split_Pieces.f k y429).bind fun t449 => (if (t449.length : Int) > 0 then (if 0 ≤ (wrap64 ((t449.length : Int) - 1)) then (if (wrap64 ((t449.length : Int) - 1)) < (t449.length : Int) then (if 0 ≤ ((rd_T36 t449 (wrap64 ((t449.length : Int) - 1))).f0) then (if ((rd_T36 t449 (wrap64 ((t449.length : Int) - 1))).f0) ≤ (y429.length : Int) then (tmesislaw24_MatchBoth.j0 k t400 t413 t414 t421 t422 y438 bt447.1 bt447.2 ((strOfNums (y429.drop (((rd_T36 t449 (wrap64 ((t449.length : Int) - 1))).f0) : Int).toNat)).toList == ([113, 46] : List UInt8))) else (none)) else (none)) else (none)) else (none)) else (tmesislaw24_MatchBoth.j0 k t400 t413 t414 t421 t422 y438 bt447.1 bt447.2 false))))))) else (none))) else (none)))) else (none))) else (none)) = some r := by first | (rw [hy423]; with_reducible exact H) | (have H2_ := (Option.bind_some _ _).symm.trans H; rw [hy423]; with_reducible exact H2_) | (have H2_ := (Option.bind_some _ _).symm.trans H; with_reducible exact H2_) | with_reducible exact H | (rw [hy423]; exact H) | exact H
 have Ny423 := Aside0.mk hy423
 clear hy423
 by_cases c12 : y423.length + t401.length < 140737488355328
 ·rw [if_pos c12] at H
  have LMc12 := Aside0.mk c12
  clear c12
  obtain ⟨y426, hy426⟩ : ∃ y_ : List Int, y_ = (y423 ++ t401) := ⟨_, rfl⟩
  replace H : (if y426.length + 5 < 140737488355328 then ((some (y426 ++ bytesOf (⟨#[32, 46, 32, 113, 46]⟩ : ByteArray) : List Int)).bind fun y429 => ((some (([112, 46, 32] : List Int) : List Int)).bind fun y432 => (if y432.length + t404.length < 140737488355328 then ((some (y432 ++ t404 : List Int)).bind fun y435 => (if y435.length + 5 < 140737488355328 then ((some (y435 ++ bytesOf (⟨#[32, 46, 32, 113, 46]⟩ : ByteArray) : List Int)).bind fun y438 => ((split_Pieces.f k y429).bind fun t441 => ((split_Pieces.f k y438).bind fun t444 => ((match_Keep.f k y429 y438 t441 t444).bind fun bt447 => ((split_Pieces.f k y429).bind fun t449 => (if (t449.length : Int) > 0 then (if 0 ≤ (wrap64 ((t449.length : Int) - 1)) then (if (wrap64 ((t449.length : Int) - 1)) < (t449.length : Int) then (if 0 ≤ ((rd_T36 t449 (wrap64 ((t449.length : Int) - 1))).f0) then (if ((rd_T36 t449 (wrap64 ((t449.length : Int) - 1))).f0) ≤ (y429.length : Int) then (tmesislaw24_MatchBoth.j0 k t400 t413 t414 t421 t422 y438 bt447.1 bt447.2 ((strOfNums (y429.drop (((rd_T36 t449 (wrap64 ((t449.length : Int) - 1))).f0) : Int).toNat)).toList == ([113, 46] : List UInt8))) else (none)) else (none)) else (none)) else (none)) else (tmesislaw24_MatchBoth.j0 k t400 t413 t414 t421 t422 y438 bt447.1 bt447.2 false))))))) else (none))) else (none)))) else (none)) = some r := by first | (rw [hy426]; with_reducible exact H) | (have H2_ := (Option.bind_some _ _).symm.trans H; rw [hy426]; with_reducible exact H2_) | (have H2_ := (Option.bind_some _ _).symm.trans H; with_reducible exact H2_) | with_reducible exact H | (rw [hy426]; exact H) | exact H
  have Ny426 := Aside0.mk hy426
  clear hy426
  by_cases c13 : y426.length + 5 < 140737488355328
  ·rw [if_pos c13] at H
   have LMc13 := Aside0.mk c13
   clear c13
   obtain ⟨y429, hy429⟩ : ∃ y_ : List Int, y_ = (y426 ++ bytesOf (⟨#[32, 46, 32, 113, 46]⟩ : ByteArray)) := ⟨_, rfl⟩
   replace H : ((some (([112, 46, 32] : List Int) : List Int)).bind fun y432 => (if y432.length + t404.length < 140737488355328 then ((some (y432 ++ t404 : List Int)).bind fun y435 => (if y435.length + 5 < 140737488355328 then ((some (y435 ++ bytesOf (⟨#[32, 46, 32, 113, 46]⟩ : ByteArray) : List Int)).bind fun y438 => ((split_Pieces.f k y429).bind fun t441 => ((split_Pieces.f k y438).bind fun t444 => ((match_Keep.f k y429 y438 t441 t444).bind fun bt447 => ((split_Pieces.f k y429).bind fun t449 => (if (t449.length : Int) > 0 then (if 0 ≤ (wrap64 ((t449.length : Int) - 1)) then (if (wrap64 ((t449.length : Int) - 1)) < (t449.length : Int) then (if 0 ≤ ((rd_T36 t449 (wrap64 ((t449.length : Int) - 1))).f0) then (if ((rd_T36 t449 (wrap64 ((t449.length : Int) - 1))).f0) ≤ (y429.length : Int) then (tmesislaw24_MatchBoth.j0 k t400 t413 t414 t421 t422 y438 bt447.1 bt447.2 ((strOfNums (y429.drop (((rd_T36 t449 (wrap64 ((t449.length : Int) - 1))).f0) : Int).toNat)).toList == ([113, 46] : List UInt8))) else (none)) else (none)) else (none)) else (none)) else (tmesislaw24_MatchBoth.j0 k t400 t413 t414 t421 t422 y438 bt447.1 bt447.2 false))))))) else (none))) else (none))) = some r := by first | (rw [hy429]; with_reducible exact H) | (have H2_ := (Option.bind_some _ _).symm.trans H; rw [hy429]; with_reducible exact H2_) | (have H2_ := (Option.bind_some _ _).symm.trans H; with_reducible exact H2_) | with_reducible exact H | (rw [hy429]; exact H) | exact H
   have Ny429 := Aside0.mk hy429
   clear hy429
   obtain ⟨y432, hy432⟩ : ∃ y_ : List Int, y_ = (([112, 46, 32] : List Int)) := ⟨_, rfl⟩
   replace H : (if y432.length + t404.length < 140737488355328 then ((some (y432 ++ t404 : List Int)).bind fun y435 => (if y435.length + 5 < 140737488355328 then ((some (y435 ++ bytesOf (⟨#[32, 46, 32, 113, 46]⟩ : ByteArray) : List Int)).bind fun y438 => ((split_Pieces.f k y429).bind fun t441 => ((split_Pieces.f k y438).bind fun t444 => ((match_Keep.f k y429 y438 t441 t444).bind fun bt447 => ((split_Pieces.f k y429).bind fun t449 => (if (t449.length : Int) > 0 then (if 0 ≤ (wrap64 ((t449.length : Int) - 1)) then (if (wrap64 ((t449.length : Int) - 1)) < (t449.length : Int) then (if 0 ≤ ((rd_T36 t449 (wrap64 ((t449.length : Int) - 1))).f0) then (if ((rd_T36 t449 (wrap64 ((t449.length : Int) - 1))).f0) ≤ (y429.length : Int) then (tmesislaw24_MatchBoth.j0 k t400 t413 t414 t421 t422 y438 bt447.1 bt447.2 ((strOfNums (y429.drop (((rd_T36 t449 (wrap64 ((t449.length : Int) - 1))).f0) : Int).toNat)).toList == ([113, 46] : List UInt8))) else (none)) else (none)) else (none)) else (none)) else (tmesislaw24_MatchBoth.j0 k t400 t413 t414 t421 t422 y438 bt447.1 bt447.2 false))))))) else (none))) else (none)) = some r := by first | (rw [hy432]; with_reducible exact H) | (have H2_ := (Option.bind_some _ _).symm.trans H; rw [hy432]; with_reducible exact H2_) | (have H2_ := (Option.bind_some _ _).symm.trans H; with_reducible exact H2_) | with_reducible exact H | (rw [hy432]; exact H) | exact H
   have Ny432 := Aside0.mk hy432
   clear hy432
   by_cases c14 : y432.length + t404.length < 140737488355328
   ·rw [if_pos c14] at H
    have LMc14 := Aside0.mk c14
    clear c14
    obtain ⟨y435, hy435⟩ : ∃ y_ : List Int, y_ = (y432 ++ t404) := ⟨_, rfl⟩
    replace H : (if y435.length + 5 < 140737488355328 then ((some (y435 ++ bytesOf (⟨#[32, 46, 32, 113, 46]⟩ : ByteArray) : List Int)).bind fun y438 => ((split_Pieces.f k y429).bind fun t441 => ((split_Pieces.f k y438).bind fun t444 => ((match_Keep.f k y429 y438 t441 t444).bind fun bt447 => ((split_Pieces.f k y429).bind fun t449 => (if (t449.length : Int) > 0 then (if 0 ≤ (wrap64 ((t449.length : Int) - 1)) then (if (wrap64 ((t449.length : Int) - 1)) < (t449.length : Int) then (if 0 ≤ ((rd_T36 t449 (wrap64 ((t449.length : Int) - 1))).f0) then (if ((rd_T36 t449 (wrap64 ((t449.length : Int) - 1))).f0) ≤ (y429.length : Int) then (tmesislaw24_MatchBoth.j0 k t400 t413 t414 t421 t422 y438 bt447.1 bt447.2 ((strOfNums (y429.drop (((rd_T36 t449 (wrap64 ((t449.length : Int) - 1))).f0) : Int).toNat)).toList == ([113, 46] : List UInt8))) else (none)) else (none)) else (none)) else (none)) else (tmesislaw24_MatchBoth.j0 k t400 t413 t414 t421 t422 y438 bt447.1 bt447.2 false))))))) else (none)) = some r := by first | (rw [hy435]; with_reducible exact H) | (have H2_ := (Option.bind_some _ _).symm.trans H; rw [hy435]; with_reducible exact H2_) | (have H2_ := (Option.bind_some _ _).symm.trans H; with_reducible exact H2_) | with_reducible exact H | (rw [hy435]; exact H) | exact H
    have Ny435 := Aside0.mk hy435
    clear hy435
    by_cases c15 : y435.length + 5 < 140737488355328
    ·rw [if_pos c15] at H
     have LMc15 := Aside0.mk c15
     clear c15
     obtain ⟨y438, hy438⟩ : ∃ y_ : List Int, y_ = (y435 ++ bytesOf (⟨#[32, 46, 32, 113, 46]⟩ : ByteArray)) := ⟨_, rfl⟩
     replace H : ((split_Pieces.f k y429).bind fun t441 => ((split_Pieces.f k y438).bind fun t444 => ((match_Keep.f k y429 y438 t441 t444).bind fun bt447 => ((split_Pieces.f k y429).bind fun t449 => (if (t449.length : Int) > 0 then (if 0 ≤ (wrap64 ((t449.length : Int) - 1)) then (if (wrap64 ((t449.length : Int) - 1)) < (t449.length : Int) then (if 0 ≤ ((rd_T36 t449 (wrap64 ((t449.length : Int) - 1))).f0) then (if ((rd_T36 t449 (wrap64 ((t449.length : Int) - 1))).f0) ≤ (y429.length : Int) then (tmesislaw24_MatchBoth.j0 k t400 t413 t414 t421 t422 y438 bt447.1 bt447.2 ((strOfNums (y429.drop (((rd_T36 t449 (wrap64 ((t449.length : Int) - 1))).f0) : Int).toNat)).toList == ([113, 46] : List UInt8))) else (none)) else (none)) else (none)) else (none)) else (tmesislaw24_MatchBoth.j0 k t400 t413 t414 t421 t422 y438 bt447.1 bt447.2 false)))))) = some r := by first | (rw [hy438]; with_reducible exact H) | (have H2_ := (Option.bind_some _ _).symm.trans H; rw [hy438]; with_reducible exact H2_) | (have H2_ := (Option.bind_some _ _).symm.trans H; with_reducible exact H2_) | with_reducible exact H | (rw [hy438]; exact H) | exact H
     have Ny438 := Aside0.mk hy438
     clear hy438
     obtain ⟨t441, A16, H⟩ := bE H
     obtain ⟨t444, A17, H⟩ := bE H
     obtain ⟨⟨t447, t448⟩, A18, H⟩ := bE H
     replace H : ((split_Pieces.f k y429).bind fun t449 => (if (t449.length : Int) > 0 then (if 0 ≤ (wrap64 ((t449.length : Int) - 1)) then (if (wrap64 ((t449.length : Int) - 1)) < (t449.length : Int) then (if 0 ≤ ((rd_T36 t449 (wrap64 ((t449.length : Int) - 1))).f0) then (if ((rd_T36 t449 (wrap64 ((t449.length : Int) - 1))).f0) ≤ (y429.length : Int) then (tmesislaw24_MatchBoth.j0 k t400 t413 t414 t421 t422 y438 t447 t448 ((strOfNums (y429.drop (((rd_T36 t449 (wrap64 ((t449.length : Int) - 1))).f0) : Int).toNat)).toList == ([113, 46] : List UInt8))) else (none)) else (none)) else (none)) else (none)) else (tmesislaw24_MatchBoth.j0 k t400 t413 t414 t421 t422 y438 t447 t448 false))) = some r := H
     obtain ⟨t449, A19, H⟩ := bE H
     have HC20 := Aside0.mk H
     clear H
     go_enter Tryd.func5, Tryd.ntmps5
     go_upto_region 10 with (first | ((with_reducible refine gate_callee (f := 6) rfl ?_); refine gL (some 20) Tryd.func6 #[] rfl gA ?_; (with_reducible refine (tmesislaw24_shown.calls k  t400 _ ?side1 A3.out).mono ?_); (case side1 => exact Gl.below HG.out (bAt HB.out)); rintro e w21 ⟨rfl, hb⟩; refine ⟨_, rfl, ?_⟩; replace HB := Aside0.mk (below_step (bAt HB.out) hb); (try clear hb); (try clear hb2); (try clear hk); (try clear hi)) | ((with_reducible refine gate_callee (f := 7) rfl ?_); refine gL (some 22) Tryd.func7 #[.slice A0 l0.length c0] rfl gA ?_; (with_reducible refine (tmesislaw24_few.calls (fun k_ => k_ < w.heap.size) _ _ l0 t401 _ ?side1 A4.out).mono ?_); (case side1 => exact Kd.V_mk HC0.out (Kd.F_below (Kd.C_F (Kd.heap_int .u8) HR0.out) (bAt HB.out))); rintro e w22 ⟨v402, rfl, ho0, hb⟩; refine ⟨_, rfl, ?_⟩; have HO403 := Aside0.mk (Kd.V_lower (Kd.V_mono (ok' := fun k_ => True) ho0 (fun k_ hk_ => trivial)) (below_size (bAt HB.out))); replace HB := Aside0.mk (below_step (bAt HB.out) hb); (try clear hb); (try clear hb2); (try clear hk); (try clear hi); (try clear ho0)) | ((with_reducible refine gate_callee (f := 7) rfl ?_); refine gL (some 24) Tryd.func7 #[.slice A1 l1.length c1] rfl gA ?_; (with_reducible refine (tmesislaw24_few.calls (fun k_ => k_ < w.heap.size) _ _ l1 t404 _ ?side1 A5.out).mono ?_); (case side1 => exact Kd.V_mk HC1.out (Kd.F_below (Kd.C_F (Kd.heap_int .u8) HR1.out) (bAt HB.out))); rintro e w23 ⟨v405, rfl, ho0, hb⟩; refine ⟨_, rfl, ?_⟩; replace HO403 := Aside0.mk (Kd.V_below (VAt HO403.out) hb); have HO406 := Aside0.mk (Kd.V_lower (Kd.V_mono (ok' := fun k_ => True) ho0 (fun k_ hk_ => trivial)) (below_size (bAt HB.out))); replace HB := Aside0.mk (below_step (bAt HB.out) hb); (try clear hb); (try clear hb2); (try clear hk); (try clear hi); (try clear ho0); obtain ⟨Ao24, co24, eo24⟩ := Kd.V_slice HO403.out; subst eo24) | ((with_reducible refine gate_callee (f := 11) rfl ?_); refine gL (some 29) Tryd.func11 #[.slice Ao24 t401.length co24] rfl gA ?_; (with_reducible refine (split_Pieces.calls k _ _ t401 t407 _ ?side1 ?side2 ?side3 A6.out).mono ?_); (case side1 => exact Gl.below HG.out (bAt HB.out)); (case side2 => exact CAt ((Kd.V_reads' HO403.out).2.2)); (case side3 => exact (Kd.V_reads' HO403.out).2.1); rintro e w25 ⟨v408, rfl, ho0, hb⟩; refine ⟨_, rfl, ?_⟩; replace HO403 := Aside0.mk (Kd.V_elder' (VAt HO403.out) (Kd.N_base ho0) hb); replace HO406 := Aside0.mk (Kd.V_elder' (VAt HO406.out) (Kd.N_base ho0) hb); have HO409 := Aside0.mk (Kd.N_lower (Kd.N_mono (ok' := fun k_ => True) ho0 (fun k_ hk_ => trivial)) (below_size (bAt HB.out))); replace HB := Aside0.mk (below_step (bAt HB.out) hb); (try clear hb); (try clear hb2); (try clear hk); (try clear hi); (try clear ho0); obtain ⟨Ao26, co26, eo26⟩ := Kd.V_slice HO406.out; subst eo26) | ((with_reducible refine gate_callee (f := 11) rfl ?_); refine gL (some 31) Tryd.func11 #[.slice Ao26 t404.length co26] rfl gA ?_; (with_reducible refine (split_Pieces.calls k _ _ t404 t410 _ ?side1 ?side2 ?side3 A7.out).mono ?_); (case side1 => exact Gl.below HG.out (bAt HB.out)); (case side2 => exact CAt ((Kd.V_reads' HO406.out).2.2)); (case side3 => exact (Kd.V_reads' HO406.out).2.1); rintro e w27 ⟨v411, rfl, ho0, hb⟩; refine ⟨_, rfl, ?_⟩; replace HO403 := Aside0.mk (Kd.V_elder' (VAt HO403.out) (Kd.N_base ho0) hb); replace HO406 := Aside0.mk (Kd.V_elder' (VAt HO406.out) (Kd.N_base ho0) hb); have HO412 := Aside0.mk (Kd.N_lower (Kd.N_mono (ok' := fun k_ => some k_ ≠ (v408 : Value).ownBlock) ho0 (fun k_ hk_ => (Kd.fresh' (Kd.N_lt (NAt HO409.out)) k_ hk_))) (below_size (bAt HB.out))); replace HO409 := Aside0.mk (Kd.N_elder' (NAt HO409.out) (Kd.N_base ho0) hb); replace HB := Aside0.mk (below_step (bAt HB.out) hb); (try clear hb); (try clear hb2); (try clear hk); (try clear hi); (try clear ho0); obtain ⟨Ao28, co28, eo28⟩ := Kd.N_slice HO409.out; subst eo28; obtain ⟨Ao29, co29, eo29⟩ := Kd.N_slice HO412.out; subst eo29) | ((with_reducible refine gate_callee (f := 8) rfl ?_); refine gL (some 32) Tryd.func8 #[.slice Ao24 t401.length co24, .slice Ao26 t404.length co26, .slice Ao28 t407.length co28, .slice Ao29 t410.length co29] rfl gA ?_; (with_reducible refine (match_Keep.calls k _ _ t401 _ _ t404 _ _ t407 _ _ t410 t413 t414 _ ?side1 ?side2 ?side3 ?side4 ?side5 ?side6 ?side7 ?side8 A8.out).mono ?_); (case side1 => exact CAt ((Kd.V_reads' HO403.out).2.2)); (case side2 => exact (Kd.V_reads' HO403.out).2.1); (case side3 => exact CAt ((Kd.V_reads' HO406.out).2.2)); (case side4 => exact (Kd.V_reads' HO406.out).2.1); (case side5 => exact CAt ((Kd.N_reads' HO409.out).2.2)); (case side6 => exact (Kd.N_reads' HO409.out).2.1); (case side7 => exact CAt ((Kd.N_reads' HO412.out).2.2)); (case side8 => exact (Kd.N_reads' HO412.out).2.1); rintro e w30 ⟨rfl, hb⟩; refine ⟨_, rfl, ?_⟩; replace HO403 := Aside0.mk (Kd.V_below (VAt HO403.out) hb); replace HO406 := Aside0.mk (Kd.V_below (VAt HO406.out) hb); replace HO409 := Aside0.mk (Kd.N_below (NAt HO409.out) hb); replace HO412 := Aside0.mk (Kd.N_below (NAt HO412.out) hb); replace HB := Aside0.mk (below_step (bAt HB.out) hb); (try clear hb); (try clear hb2); (try clear hk); (try clear hi)) | ((with_reducible refine gate_callee (f := 11) rfl ?_); refine gL (some 39) Tryd.func11 #[.slice Ao26 t404.length co26] rfl gA ?_; (with_reducible refine (split_Pieces.calls k _ _ t404 t415 _ ?side1 ?side2 ?side3 A9.out).mono ?_); (case side1 => exact Gl.below HG.out (bAt HB.out)); (case side2 => exact CAt ((Kd.V_reads' HO406.out).2.2)); (case side3 => exact (Kd.V_reads' HO406.out).2.1); rintro e w31 ⟨v416, rfl, ho0, hb⟩; refine ⟨_, rfl, ?_⟩; replace HO403 := Aside0.mk (Kd.V_elder' (VAt HO403.out) (Kd.N_base ho0) hb); replace HO406 := Aside0.mk (Kd.V_elder' (VAt HO406.out) (Kd.N_base ho0) hb); have HO417 := Aside0.mk (Kd.N_lower (Kd.N_mono (ok' := fun k_ => some k_ ≠ (.slice Ao28 t407.length co28 : Value).ownBlock ∧ some k_ ≠ (.slice Ao29 t410.length co29 : Value).ownBlock) ho0 (fun k_ hk_ => ⟨(Kd.fresh' (Kd.N_lt (NAt HO409.out)) k_ hk_), (Kd.fresh' (Kd.N_lt (NAt HO412.out)) k_ hk_)⟩)) (below_size (bAt HB.out))); replace HO409 := Aside0.mk (Kd.N_elder' (NAt HO409.out) (Kd.N_base ho0) hb); replace HO412 := Aside0.mk (Kd.N_elder' (NAt HO412.out) (Kd.N_base ho0) hb); replace HB := Aside0.mk (below_step (bAt HB.out) hb); (try clear hb); (try clear hb2); (try clear hk); (try clear hi); (try clear ho0)) | ((with_reducible refine gate_callee (f := 11) rfl ?_); refine gL (some 41) Tryd.func11 #[.slice Ao24 t401.length co24] rfl gA ?_; (with_reducible refine (split_Pieces.calls k _ _ t401 t418 _ ?side1 ?side2 ?side3 A10.out).mono ?_); (case side1 => exact Gl.below HG.out (bAt HB.out)); (case side2 => exact CAt ((Kd.V_reads' HO403.out).2.2)); (case side3 => exact (Kd.V_reads' HO403.out).2.1); rintro e w32 ⟨v419, rfl, ho0, hb⟩; refine ⟨_, rfl, ?_⟩; replace HO403 := Aside0.mk (Kd.V_elder' (VAt HO403.out) (Kd.N_base ho0) hb); replace HO406 := Aside0.mk (Kd.V_elder' (VAt HO406.out) (Kd.N_base ho0) hb); have HO420 := Aside0.mk (Kd.N_lower (Kd.N_mono (ok' := fun k_ => some k_ ≠ (.slice Ao28 t407.length co28 : Value).ownBlock ∧ some k_ ≠ (.slice Ao29 t410.length co29 : Value).ownBlock ∧ some k_ ≠ (v416 : Value).ownBlock) ho0 (fun k_ hk_ => ⟨(Kd.fresh' (Kd.N_lt (NAt HO409.out)) k_ hk_), (Kd.fresh' (Kd.N_lt (NAt HO412.out)) k_ hk_), (Kd.fresh' (Kd.N_lt (NAt HO417.out)) k_ hk_)⟩)) (below_size (bAt HB.out))); replace HO409 := Aside0.mk (Kd.N_elder' (NAt HO409.out) (Kd.N_base ho0) hb); replace HO412 := Aside0.mk (Kd.N_elder' (NAt HO412.out) (Kd.N_base ho0) hb); replace HO417 := Aside0.mk (Kd.N_elder' (NAt HO417.out) (Kd.N_base ho0) hb); replace HB := Aside0.mk (below_step (bAt HB.out) hb); (try clear hb); (try clear hb2); (try clear hk); (try clear hi); (try clear ho0); obtain ⟨Ao33, co33, eo33⟩ := Kd.N_slice HO417.out; subst eo33; obtain ⟨Ao34, co34, eo34⟩ := Kd.N_slice HO420.out; subst eo34) | ((with_reducible refine gate_callee (f := 8) rfl ?_); refine gL (some 42) Tryd.func8 #[.slice Ao26 t404.length co26, .slice Ao24 t401.length co24, .slice Ao33 t415.length co33, .slice Ao34 t418.length co34] rfl gA ?_; (with_reducible refine (match_Keep.calls k _ _ t404 _ _ t401 _ _ t415 _ _ t418 t421 t422 _ ?side1 ?side2 ?side3 ?side4 ?side5 ?side6 ?side7 ?side8 A11.out).mono ?_); (case side1 => exact CAt ((Kd.V_reads' HO406.out).2.2)); (case side2 => exact (Kd.V_reads' HO406.out).2.1); (case side3 => exact CAt ((Kd.V_reads' HO403.out).2.2)); (case side4 => exact (Kd.V_reads' HO403.out).2.1); (case side5 => exact CAt ((Kd.N_reads' HO417.out).2.2)); (case side6 => exact (Kd.N_reads' HO417.out).2.1); (case side7 => exact CAt ((Kd.N_reads' HO420.out).2.2)); (case side8 => exact (Kd.N_reads' HO420.out).2.1); rintro e w35 ⟨rfl, hb⟩; refine ⟨_, rfl, ?_⟩; replace HO403 := Aside0.mk (Kd.V_below (VAt HO403.out) hb); replace HO406 := Aside0.mk (Kd.V_below (VAt HO406.out) hb); replace HO409 := Aside0.mk (Kd.N_below (NAt HO409.out) hb); replace HO412 := Aside0.mk (Kd.N_below (NAt HO412.out) hb); replace HO417 := Aside0.mk (Kd.N_below (NAt HO417.out) hb); replace HO420 := Aside0.mk (Kd.N_below (NAt HO420.out) hb); replace HB := Aside0.mk (below_step (bAt HB.out) hb); (try clear hb); (try clear hb2); (try clear hk); (try clear hi)) | ((with_reducible refine gate_dst (N := 45) rfl ?_); (try (refine gate_guard (by rfl) ?_; dsimp only)); refine RL_litsG _ 5 ?hg (N := 45) ?hd (xs := ([112, 46, 32] : List Int)) ?hr ?hw2 ?hr2 (Below.refl _ _) (Nat.le_refl _) (by simp) ?_; (case hd => rfl); (case hg => rfl); (case hr => intro W_; first | (go_simp; done) | (go_simp; rfl)); (case hw2 => rfl); (case hr2 => intro W_; go_simp; rw [run_convert_lit _ 22 5 _ _ _ Tryd.underlying22 Tryd.underlying5]; rfl); intro v424 w36 ho37 hb hg_ hnew_; clear hg_ hnew_; (first | rw [← Ny423.out] at ho37 | (simp only [Int.reduceToNat] at ho37; rw [← Ny423.out] at ho37)); replace HO403 := Aside0.mk (Kd.V_elder' (VAt HO403.out) (RL_base (ho37 (fun _ => True))) hb); replace HO406 := Aside0.mk (Kd.V_elder' (VAt HO406.out) (RL_base (ho37 (fun _ => True))) hb); replace HO409 := Aside0.mk (Kd.N_elder' (NAt HO409.out) (RL_base (ho37 (fun _ => True))) hb); replace HO412 := Aside0.mk (Kd.N_elder' (NAt HO412.out) (RL_base (ho37 (fun _ => True))) hb); replace HO417 := Aside0.mk (Kd.N_elder' (NAt HO417.out) (RL_base (ho37 (fun _ => True))) hb); replace HO420 := Aside0.mk (Kd.N_elder' (NAt HO420.out) (RL_base (ho37 (fun _ => True))) hb); have HO425 := Aside0.mk (RL_lower (ho37 (fun _ => True)) (below_size (bAt HB.out))); replace HB := Aside0.mk (below_step (bAt HB.out) hb); clear hb ho37) | ((with_reducible refine gate_builtin (b := .append) (xs := #[.tmp 46, .tmp 47]) rfl ?_); (try (refine gate_guard (by rfl) ?_; dsimp only)); at_builtin; refine RL_append_rows (Kd.int .u8) (w0 := w) w.heap.size rfl (.tmp 46) (.tmp 47) 22 5 (.int .u8 0) 1 rfl Tryd.underlying22 info5 v424 y423 t401 _ _ _ (fun _ => True) rfl rfl ?aO ?aR ?aF ?aB ?aS ?aL ?_; (case aR => repeat (first | exact (Kd.V_reads' HO403.out).2.2 | (with_reducible refine Kd.C_alloc ?_ _) | (with_reducible refine Kd.C_drewN ?_ _) | (with_reducible refine Kd.C_drew ?_))); (case aB => exact (bAt HB.out)); (case aF => exact (fun _ _ => trivial)); (case aO => exact HO425.out); (case aS => exact (below_size (bAt HB.out))); (case aL => have := LMc12.out; omega); intro v427 w38 ho hb hg hat; rw [← Ny426.out] at ho; replace HO403 := Aside0.mk (Kd.V_afterv (ok := (fun k_ => some k_ ≠ (.slice Ao28 t407.length co28 : Value).ownBlock ∧ some k_ ≠ (.slice Ao29 t410.length co29 : Value).ownBlock ∧ some k_ ≠ (.slice Ao33 t415.length co33 : Value).ownBlock ∧ some k_ ≠ (.slice Ao34 t418.length co34 : Value).ownBlock)) (VAt (Kd.V_mono HO403.out (fun _ hk => ⟨⟨hk.1.1.1.1.2, ⟨hk.1.1.1.2, ⟨hk.1.1.2, hk.1.2⟩⟩⟩, hk.2⟩))) hg hat); replace HO406 := Aside0.mk (Kd.V_afterv (ok := (fun k_ => some k_ ≠ (.slice Ao28 t407.length co28 : Value).ownBlock ∧ some k_ ≠ (.slice Ao29 t410.length co29 : Value).ownBlock ∧ some k_ ≠ (.slice Ao33 t415.length co33 : Value).ownBlock ∧ some k_ ≠ (.slice Ao34 t418.length co34 : Value).ownBlock)) (VAt (Kd.V_mono HO406.out (fun _ hk => ⟨⟨hk.1.1.1.1.2, ⟨hk.1.1.1.2, ⟨hk.1.1.2, hk.1.2⟩⟩⟩, hk.2⟩))) hg hat); replace HO409 := Aside0.mk (Kd.N_afterv (ok := (fun k_ => some k_ ≠ (.slice Ao29 t410.length co29 : Value).ownBlock ∧ some k_ ≠ (.slice Ao33 t415.length co33 : Value).ownBlock ∧ some k_ ≠ (.slice Ao34 t418.length co34 : Value).ownBlock)) (NAt (Kd.N_mono HO409.out (fun _ hk => ⟨⟨hk.1.1.1.2, ⟨hk.1.1.2, hk.1.2⟩⟩, hk.2⟩))) hg hat); replace HO412 := Aside0.mk (Kd.N_afterv (ok := (fun k_ => some k_ ≠ (.slice Ao28 t407.length co28 : Value).ownBlock ∧ some k_ ≠ (.slice Ao33 t415.length co33 : Value).ownBlock ∧ some k_ ≠ (.slice Ao34 t418.length co34 : Value).ownBlock)) (NAt (Kd.N_mono HO412.out (fun _ hk => ⟨⟨hk.1.1.1, ⟨hk.1.1.2, hk.1.2⟩⟩, hk.2⟩))) hg hat); replace HO417 := Aside0.mk (Kd.N_afterv (ok := (fun k_ => some k_ ≠ (.slice Ao28 t407.length co28 : Value).ownBlock ∧ some k_ ≠ (.slice Ao29 t410.length co29 : Value).ownBlock ∧ some k_ ≠ (.slice Ao34 t418.length co34 : Value).ownBlock)) (NAt (Kd.N_mono HO417.out (fun _ hk => ⟨⟨hk.1.1.1, ⟨hk.1.1.2, hk.1.2⟩⟩, hk.2⟩))) hg hat); replace HO420 := Aside0.mk (Kd.N_afterv (ok := (fun k_ => some k_ ≠ (.slice Ao28 t407.length co28 : Value).ownBlock ∧ some k_ ≠ (.slice Ao29 t410.length co29 : Value).ownBlock ∧ some k_ ≠ (.slice Ao33 t415.length co33 : Value).ownBlock)) (NAt HO420.out) hg hat); replace HB := Aside0.mk (hb); have HO428 := Aside0.mk (ho); clear HO425; clear ho hb hg hat) | (at_builtin; refine RL_append_str (w0 := w) w.heap.size rfl (.tmp 48) _ 22 9 5 rfl Tryd.underlying22 Tryd.underlying9 info5 v427 y426 (⟨#[32, 46, 32, 113, 46]⟩ : ByteArray) (fun _ => True) rfl rfl ?aO ?aF ?aB ?aS ?aL (by decide) ?_; (case aB => exact (bAt HB.out)); (case aF => exact (fun _ _ => trivial)); (case aO => exact HO428.out); (case aS => exact (below_size (bAt HB.out))); (case aL => have := LMc13.out; have zs_ : (⟨#[32, 46, 32, 113, 46]⟩ : ByteArray).size = 5 := rfl; omega); intro v430 w39 ho hb hg hat; rw [← Ny429.out] at ho; replace HO403 := Aside0.mk (Kd.V_afterv (ok := (fun k_ => some k_ ≠ (.slice Ao28 t407.length co28 : Value).ownBlock ∧ some k_ ≠ (.slice Ao29 t410.length co29 : Value).ownBlock ∧ some k_ ≠ (.slice Ao33 t415.length co33 : Value).ownBlock ∧ some k_ ≠ (.slice Ao34 t418.length co34 : Value).ownBlock)) (VAt HO403.out) hg hat); replace HO406 := Aside0.mk (Kd.V_afterv (ok := (fun k_ => some k_ ≠ (.slice Ao28 t407.length co28 : Value).ownBlock ∧ some k_ ≠ (.slice Ao29 t410.length co29 : Value).ownBlock ∧ some k_ ≠ (.slice Ao33 t415.length co33 : Value).ownBlock ∧ some k_ ≠ (.slice Ao34 t418.length co34 : Value).ownBlock)) (VAt HO406.out) hg hat); replace HO409 := Aside0.mk (Kd.N_afterv (ok := (fun k_ => some k_ ≠ (.slice Ao29 t410.length co29 : Value).ownBlock ∧ some k_ ≠ (.slice Ao33 t415.length co33 : Value).ownBlock ∧ some k_ ≠ (.slice Ao34 t418.length co34 : Value).ownBlock)) (NAt HO409.out) hg hat); replace HO412 := Aside0.mk (Kd.N_afterv (ok := (fun k_ => some k_ ≠ (.slice Ao28 t407.length co28 : Value).ownBlock ∧ some k_ ≠ (.slice Ao33 t415.length co33 : Value).ownBlock ∧ some k_ ≠ (.slice Ao34 t418.length co34 : Value).ownBlock)) (NAt HO412.out) hg hat); replace HO417 := Aside0.mk (Kd.N_afterv (ok := (fun k_ => some k_ ≠ (.slice Ao28 t407.length co28 : Value).ownBlock ∧ some k_ ≠ (.slice Ao29 t410.length co29 : Value).ownBlock ∧ some k_ ≠ (.slice Ao34 t418.length co34 : Value).ownBlock)) (NAt HO417.out) hg hat); replace HO420 := Aside0.mk (Kd.N_afterv (ok := (fun k_ => some k_ ≠ (.slice Ao28 t407.length co28 : Value).ownBlock ∧ some k_ ≠ (.slice Ao29 t410.length co29 : Value).ownBlock ∧ some k_ ≠ (.slice Ao33 t415.length co33 : Value).ownBlock)) (NAt HO420.out) hg hat); replace HB := Aside0.mk (hb); have HO431 := Aside0.mk (ho); clear HO428; clear ho hb hg hat) | ((with_reducible refine gate_dst (N := 50) rfl ?_); (try (refine gate_guard (by rfl) ?_; dsimp only)); refine RL_litsG _ 5 ?hg (N := 50) ?hd (xs := ([112, 46, 32] : List Int)) ?hr ?hw2 ?hr2 (Below.refl _ _) (Nat.le_refl _) (by simp) ?_; (case hd => rfl); (case hg => rfl); (case hr => intro W_; first | (go_simp; done) | (go_simp; rfl)); (case hw2 => rfl); (case hr2 => intro W_; go_simp; rw [run_convert_lit _ 22 5 _ _ _ Tryd.underlying22 Tryd.underlying5]; rfl); intro v433 w40 ho41 hb hg_ hnew_; clear hg_ hnew_; (first | rw [← Ny432.out] at ho41 | (simp only [Int.reduceToNat] at ho41; rw [← Ny432.out] at ho41)); replace HO403 := Aside0.mk (Kd.V_elder' (VAt HO403.out) (RL_base (ho41 (fun _ => True))) hb); replace HO406 := Aside0.mk (Kd.V_elder' (VAt HO406.out) (RL_base (ho41 (fun _ => True))) hb); replace HO409 := Aside0.mk (Kd.N_elder' (NAt HO409.out) (RL_base (ho41 (fun _ => True))) hb); replace HO412 := Aside0.mk (Kd.N_elder' (NAt HO412.out) (RL_base (ho41 (fun _ => True))) hb); replace HO417 := Aside0.mk (Kd.N_elder' (NAt HO417.out) (RL_base (ho41 (fun _ => True))) hb); replace HO420 := Aside0.mk (Kd.N_elder' (NAt HO420.out) (RL_base (ho41 (fun _ => True))) hb); have HO434 := Aside0.mk (RL_lower (ho41 (fun k_ => some k_ ≠ (v430 : Value).ownBlock)) (below_size (bAt HB.out))); replace HO431 := Aside0.mk (Kd.R_elder' (RAt HO431.out) (RL_base (ho41 (fun _ => True))) hb); replace HB := Aside0.mk (below_step (bAt HB.out) hb); clear hb ho41) | ((with_reducible refine gate_builtin (b := .append) (xs := #[.tmp 51, .tmp 52]) rfl ?_); (try (refine gate_guard (by rfl) ?_; dsimp only)); at_builtin; refine RL_append_rows (Kd.int .u8) (w0 := w) w.heap.size rfl (.tmp 51) (.tmp 52) 22 5 (.int .u8 0) 1 rfl Tryd.underlying22 info5 v433 y432 t404 _ _ _ (fun k_ => some k_ ≠ (v430 : Value).ownBlock) rfl rfl ?aO ?aR ?aF ?aB ?aS ?aL ?_; (case aR => repeat (first | exact (Kd.V_reads' HO406.out).2.2 | (with_reducible refine Kd.C_alloc ?_ _) | (with_reducible refine Kd.C_drewN ?_ _) | (with_reducible refine Kd.C_drew ?_))); (case aB => exact (bAt HB.out)); (case aF => exact (fun k_ hk => Kd.fresh' (Kd.R_lt (RAt HO431.out)) k_ hk)); (case aO => exact HO434.out); (case aS => exact (below_size (bAt HB.out))); (case aL => have := LMc14.out; omega); intro v436 w42 ho hb hg hat; rw [← Ny435.out] at ho; replace HO403 := Aside0.mk (Kd.V_afterv (ok := (fun k_ => some k_ ≠ (.slice Ao28 t407.length co28 : Value).ownBlock ∧ some k_ ≠ (.slice Ao29 t410.length co29 : Value).ownBlock ∧ some k_ ≠ (.slice Ao33 t415.length co33 : Value).ownBlock ∧ some k_ ≠ (.slice Ao34 t418.length co34 : Value).ownBlock ∧ some k_ ≠ (v430 : Value).ownBlock)) (VAt (Kd.V_mono HO403.out (fun _ hk => ⟨⟨hk.1.1.1, ⟨hk.1.1.2.1, ⟨hk.1.1.2.2.1, ⟨hk.1.1.2.2.2, hk.1.2⟩⟩⟩⟩, hk.2⟩))) hg hat); replace HO406 := Aside0.mk (Kd.V_afterv (ok := (fun k_ => some k_ ≠ (.slice Ao28 t407.length co28 : Value).ownBlock ∧ some k_ ≠ (.slice Ao29 t410.length co29 : Value).ownBlock ∧ some k_ ≠ (.slice Ao33 t415.length co33 : Value).ownBlock ∧ some k_ ≠ (.slice Ao34 t418.length co34 : Value).ownBlock ∧ some k_ ≠ (v430 : Value).ownBlock)) (VAt (Kd.V_mono HO406.out (fun _ hk => ⟨⟨hk.1.1.1, ⟨hk.1.1.2.1, ⟨hk.1.1.2.2.1, ⟨hk.1.1.2.2.2, hk.1.2⟩⟩⟩⟩, hk.2⟩))) hg hat); replace HO409 := Aside0.mk (Kd.N_afterv (ok := (fun k_ => some k_ ≠ (.slice Ao29 t410.length co29 : Value).ownBlock ∧ some k_ ≠ (.slice Ao33 t415.length co33 : Value).ownBlock ∧ some k_ ≠ (.slice Ao34 t418.length co34 : Value).ownBlock ∧ some k_ ≠ (v430 : Value).ownBlock)) (NAt (Kd.N_mono HO409.out (fun _ hk => ⟨⟨hk.1.1.1, ⟨hk.1.1.2.1, ⟨hk.1.1.2.2, hk.1.2⟩⟩⟩, hk.2⟩))) hg hat); replace HO412 := Aside0.mk (Kd.N_afterv (ok := (fun k_ => some k_ ≠ (.slice Ao28 t407.length co28 : Value).ownBlock ∧ some k_ ≠ (.slice Ao33 t415.length co33 : Value).ownBlock ∧ some k_ ≠ (.slice Ao34 t418.length co34 : Value).ownBlock ∧ some k_ ≠ (v430 : Value).ownBlock)) (NAt (Kd.N_mono HO412.out (fun _ hk => ⟨⟨hk.1.1.1, ⟨hk.1.1.2.1, ⟨hk.1.1.2.2, hk.1.2⟩⟩⟩, hk.2⟩))) hg hat); replace HO417 := Aside0.mk (Kd.N_afterv (ok := (fun k_ => some k_ ≠ (.slice Ao28 t407.length co28 : Value).ownBlock ∧ some k_ ≠ (.slice Ao29 t410.length co29 : Value).ownBlock ∧ some k_ ≠ (.slice Ao34 t418.length co34 : Value).ownBlock ∧ some k_ ≠ (v430 : Value).ownBlock)) (NAt (Kd.N_mono HO417.out (fun _ hk => ⟨⟨hk.1.1.1, ⟨hk.1.1.2.1, ⟨hk.1.1.2.2, hk.1.2⟩⟩⟩, hk.2⟩))) hg hat); replace HO420 := Aside0.mk (Kd.N_afterv (ok := (fun k_ => some k_ ≠ (.slice Ao28 t407.length co28 : Value).ownBlock ∧ some k_ ≠ (.slice Ao29 t410.length co29 : Value).ownBlock ∧ some k_ ≠ (.slice Ao33 t415.length co33 : Value).ownBlock ∧ some k_ ≠ (v430 : Value).ownBlock)) (NAt (Kd.N_mono HO420.out (fun _ hk => ⟨⟨hk.1.1.1, ⟨hk.1.1.2.1, ⟨hk.1.1.2.2, hk.1.2⟩⟩⟩, hk.2⟩))) hg hat); replace HO431 := Aside0.mk (Kd.R_after (ok := (fun _ => True)) (RAt HO431.out) hg hat); replace HB := Aside0.mk (hb); have HO437 := Aside0.mk (ho); clear HO434; clear ho hb hg hat) | (at_builtin; refine RL_append_str (w0 := w) w.heap.size rfl (.tmp 53) _ 22 9 5 rfl Tryd.underlying22 Tryd.underlying9 info5 v436 y435 (⟨#[32, 46, 32, 113, 46]⟩ : ByteArray) (fun k_ => some k_ ≠ (v430 : Value).ownBlock) rfl rfl ?aO ?aF ?aB ?aS ?aL (by decide) ?_; (case aB => exact (bAt HB.out)); (case aF => exact (fun k_ hk => Kd.fresh' (Kd.R_lt (RAt HO431.out)) k_ hk)); (case aO => exact HO437.out); (case aS => exact (below_size (bAt HB.out))); (case aL => have := LMc15.out; have zs_ : (⟨#[32, 46, 32, 113, 46]⟩ : ByteArray).size = 5 := rfl; omega); intro v439 w43 ho hb hg hat; rw [← Ny438.out] at ho; replace HO403 := Aside0.mk (Kd.V_afterv (ok := (fun k_ => some k_ ≠ (.slice Ao28 t407.length co28 : Value).ownBlock ∧ some k_ ≠ (.slice Ao29 t410.length co29 : Value).ownBlock ∧ some k_ ≠ (.slice Ao33 t415.length co33 : Value).ownBlock ∧ some k_ ≠ (.slice Ao34 t418.length co34 : Value).ownBlock ∧ some k_ ≠ (v430 : Value).ownBlock)) (VAt HO403.out) hg hat); replace HO406 := Aside0.mk (Kd.V_afterv (ok := (fun k_ => some k_ ≠ (.slice Ao28 t407.length co28 : Value).ownBlock ∧ some k_ ≠ (.slice Ao29 t410.length co29 : Value).ownBlock ∧ some k_ ≠ (.slice Ao33 t415.length co33 : Value).ownBlock ∧ some k_ ≠ (.slice Ao34 t418.length co34 : Value).ownBlock ∧ some k_ ≠ (v430 : Value).ownBlock)) (VAt HO406.out) hg hat); replace HO409 := Aside0.mk (Kd.N_afterv (ok := (fun k_ => some k_ ≠ (.slice Ao29 t410.length co29 : Value).ownBlock ∧ some k_ ≠ (.slice Ao33 t415.length co33 : Value).ownBlock ∧ some k_ ≠ (.slice Ao34 t418.length co34 : Value).ownBlock ∧ some k_ ≠ (v430 : Value).ownBlock)) (NAt HO409.out) hg hat); replace HO412 := Aside0.mk (Kd.N_afterv (ok := (fun k_ => some k_ ≠ (.slice Ao28 t407.length co28 : Value).ownBlock ∧ some k_ ≠ (.slice Ao33 t415.length co33 : Value).ownBlock ∧ some k_ ≠ (.slice Ao34 t418.length co34 : Value).ownBlock ∧ some k_ ≠ (v430 : Value).ownBlock)) (NAt HO412.out) hg hat); replace HO417 := Aside0.mk (Kd.N_afterv (ok := (fun k_ => some k_ ≠ (.slice Ao28 t407.length co28 : Value).ownBlock ∧ some k_ ≠ (.slice Ao29 t410.length co29 : Value).ownBlock ∧ some k_ ≠ (.slice Ao34 t418.length co34 : Value).ownBlock ∧ some k_ ≠ (v430 : Value).ownBlock)) (NAt HO417.out) hg hat); replace HO420 := Aside0.mk (Kd.N_afterv (ok := (fun k_ => some k_ ≠ (.slice Ao28 t407.length co28 : Value).ownBlock ∧ some k_ ≠ (.slice Ao29 t410.length co29 : Value).ownBlock ∧ some k_ ≠ (.slice Ao33 t415.length co33 : Value).ownBlock ∧ some k_ ≠ (v430 : Value).ownBlock)) (NAt HO420.out) hg hat); replace HO431 := Aside0.mk (Kd.R_after (ok := (fun _ => True)) (RAt HO431.out) hg hat); replace HB := Aside0.mk (hb); have HO440 := Aside0.mk (ho); clear HO437; clear ho hb hg hat; obtain ⟨Ao44, co44, eo44⟩ := Kd.R_slice HO431.out; subst eo44) | ((with_reducible refine gate_callee (f := 11) rfl ?_); refine gL (some 59) Tryd.func11 #[.slice Ao44 y429.length co44] rfl gA ?_; (with_reducible refine (split_Pieces.calls k _ _ y429 t441 _ ?side1 ?side2 ?side3 A16.out).mono ?_); (case side1 => exact Gl.below HG.out (bAt HB.out)); (case side2 => exact CAt ((Kd.R_reads' HO431.out).2.2)); (case side3 => exact (Kd.R_reads' HO431.out).2.1); rintro e w45 ⟨v442, rfl, ho0, hb⟩; refine ⟨_, rfl, ?_⟩; replace HO403 := Aside0.mk (Kd.V_elder' (VAt HO403.out) (Kd.N_base ho0) hb); replace HO406 := Aside0.mk (Kd.V_elder' (VAt HO406.out) (Kd.N_base ho0) hb); have HO443 := Aside0.mk (Kd.N_lower (Kd.N_mono (ok' := fun k_ => some k_ ≠ (.slice Ao28 t407.length co28 : Value).ownBlock ∧ some k_ ≠ (.slice Ao29 t410.length co29 : Value).ownBlock ∧ some k_ ≠ (.slice Ao33 t415.length co33 : Value).ownBlock ∧ some k_ ≠ (.slice Ao34 t418.length co34 : Value).ownBlock ∧ some k_ ≠ (.slice Ao44 y429.length co44 : Value).ownBlock ∧ some k_ ≠ (v439 : Value).ownBlock) ho0 (fun k_ hk_ => ⟨(Kd.fresh' (Kd.N_lt (NAt HO409.out)) k_ hk_), (Kd.fresh' (Kd.N_lt (NAt HO412.out)) k_ hk_), (Kd.fresh' (Kd.N_lt (NAt HO417.out)) k_ hk_), (Kd.fresh' (Kd.N_lt (NAt HO420.out)) k_ hk_), (Kd.fresh' (Kd.R_lt (RAt HO431.out)) k_ hk_), (Kd.fresh' (Kd.R_lt (RAt HO440.out)) k_ hk_)⟩)) (below_size (bAt HB.out))); replace HO409 := Aside0.mk (Kd.N_elder' (NAt HO409.out) (Kd.N_base ho0) hb); replace HO412 := Aside0.mk (Kd.N_elder' (NAt HO412.out) (Kd.N_base ho0) hb); replace HO417 := Aside0.mk (Kd.N_elder' (NAt HO417.out) (Kd.N_base ho0) hb); replace HO420 := Aside0.mk (Kd.N_elder' (NAt HO420.out) (Kd.N_base ho0) hb); replace HO431 := Aside0.mk (Kd.R_below (RAt HO431.out) hb); replace HO440 := Aside0.mk (Kd.R_below (RAt HO440.out) hb); replace HB := Aside0.mk (below_step (bAt HB.out) hb); (try clear hb); (try clear hb2); (try clear hk); (try clear hi); (try clear ho0); obtain ⟨Ao46, co46, eo46⟩ := Kd.R_slice HO440.out; subst eo46) | ((with_reducible refine gate_callee (f := 11) rfl ?_); refine gL (some 61) Tryd.func11 #[.slice Ao46 y438.length co46] rfl gA ?_; (with_reducible refine (split_Pieces.calls k _ _ y438 t444 _ ?side1 ?side2 ?side3 A17.out).mono ?_); (case side1 => exact Gl.below HG.out (bAt HB.out)); (case side2 => exact CAt ((Kd.R_reads' HO440.out).2.2)); (case side3 => exact (Kd.R_reads' HO440.out).2.1); rintro e w47 ⟨v445, rfl, ho0, hb⟩; refine ⟨_, rfl, ?_⟩; replace HO403 := Aside0.mk (Kd.V_elder' (VAt HO403.out) (Kd.N_base ho0) hb); replace HO406 := Aside0.mk (Kd.V_elder' (VAt HO406.out) (Kd.N_base ho0) hb); have HO446 := Aside0.mk (Kd.N_lower (Kd.N_mono (ok' := fun k_ => some k_ ≠ (.slice Ao28 t407.length co28 : Value).ownBlock ∧ some k_ ≠ (.slice Ao29 t410.length co29 : Value).ownBlock ∧ some k_ ≠ (.slice Ao33 t415.length co33 : Value).ownBlock ∧ some k_ ≠ (.slice Ao34 t418.length co34 : Value).ownBlock ∧ some k_ ≠ (.slice Ao44 y429.length co44 : Value).ownBlock ∧ some k_ ≠ (.slice Ao46 y438.length co46 : Value).ownBlock ∧ some k_ ≠ (v442 : Value).ownBlock) ho0 (fun k_ hk_ => ⟨(Kd.fresh' (Kd.N_lt (NAt HO409.out)) k_ hk_), (Kd.fresh' (Kd.N_lt (NAt HO412.out)) k_ hk_), (Kd.fresh' (Kd.N_lt (NAt HO417.out)) k_ hk_), (Kd.fresh' (Kd.N_lt (NAt HO420.out)) k_ hk_), (Kd.fresh' (Kd.R_lt (RAt HO431.out)) k_ hk_), (Kd.fresh' (Kd.R_lt (RAt HO440.out)) k_ hk_), (Kd.fresh' (Kd.N_lt (NAt HO443.out)) k_ hk_)⟩)) (below_size (bAt HB.out))); replace HO409 := Aside0.mk (Kd.N_elder' (NAt HO409.out) (Kd.N_base ho0) hb); replace HO412 := Aside0.mk (Kd.N_elder' (NAt HO412.out) (Kd.N_base ho0) hb); replace HO417 := Aside0.mk (Kd.N_elder' (NAt HO417.out) (Kd.N_base ho0) hb); replace HO420 := Aside0.mk (Kd.N_elder' (NAt HO420.out) (Kd.N_base ho0) hb); replace HO431 := Aside0.mk (Kd.R_below (RAt HO431.out) hb); replace HO440 := Aside0.mk (Kd.R_below (RAt HO440.out) hb); replace HO443 := Aside0.mk (Kd.N_elder' (NAt HO443.out) (Kd.N_base ho0) hb); replace HB := Aside0.mk (below_step (bAt HB.out) hb); (try clear hb); (try clear hb2); (try clear hk); (try clear hi); (try clear ho0); obtain ⟨Ao48, co48, eo48⟩ := Kd.N_slice HO443.out; subst eo48; obtain ⟨Ao49, co49, eo49⟩ := Kd.N_slice HO446.out; subst eo49) | ((with_reducible refine gate_callee (f := 8) rfl ?_); refine gL (some 62) Tryd.func8 #[.slice Ao44 y429.length co44, .slice Ao46 y438.length co46, .slice Ao48 t441.length co48, .slice Ao49 t444.length co49] rfl gA ?_; (with_reducible refine (match_Keep.calls k _ _ y429 _ _ y438 _ _ t441 _ _ t444 t447 t448 _ ?side1 ?side2 ?side3 ?side4 ?side5 ?side6 ?side7 ?side8 A18.out).mono ?_); (case side1 => exact CAt ((Kd.R_reads' HO431.out).2.2)); (case side2 => exact (Kd.R_reads' HO431.out).2.1); (case side3 => exact CAt ((Kd.R_reads' HO440.out).2.2)); (case side4 => exact (Kd.R_reads' HO440.out).2.1); (case side5 => exact CAt ((Kd.N_reads' HO443.out).2.2)); (case side6 => exact (Kd.N_reads' HO443.out).2.1); (case side7 => exact CAt ((Kd.N_reads' HO446.out).2.2)); (case side8 => exact (Kd.N_reads' HO446.out).2.1); rintro e w50 ⟨rfl, hb⟩; refine ⟨_, rfl, ?_⟩; replace HO403 := Aside0.mk (Kd.V_below (VAt HO403.out) hb); replace HO406 := Aside0.mk (Kd.V_below (VAt HO406.out) hb); replace HO409 := Aside0.mk (Kd.N_below (NAt HO409.out) hb); replace HO412 := Aside0.mk (Kd.N_below (NAt HO412.out) hb); replace HO417 := Aside0.mk (Kd.N_below (NAt HO417.out) hb); replace HO420 := Aside0.mk (Kd.N_below (NAt HO420.out) hb); replace HO431 := Aside0.mk (Kd.R_below (RAt HO431.out) hb); replace HO440 := Aside0.mk (Kd.R_below (RAt HO440.out) hb); replace HO443 := Aside0.mk (Kd.N_below (NAt HO443.out) hb); replace HO446 := Aside0.mk (Kd.N_below (NAt HO446.out) hb); replace HB := Aside0.mk (below_step (bAt HB.out) hb); (try clear hb); (try clear hb2); (try clear hk); (try clear hi)) | ((with_reducible refine gate_callee (f := 11) rfl ?_); refine gL (some 66) Tryd.func11 #[.slice Ao44 y429.length co44] rfl gA ?_; (with_reducible refine (split_Pieces.calls k _ _ y429 t449 _ ?side1 ?side2 ?side3 A19.out).mono ?_); (case side1 => exact Gl.below HG.out (bAt HB.out)); (case side2 => exact CAt ((Kd.R_reads' HO431.out).2.2)); (case side3 => exact (Kd.R_reads' HO431.out).2.1); rintro e w51 ⟨v450, rfl, ho0, hb⟩; refine ⟨_, rfl, ?_⟩; replace HO403 := Aside0.mk (Kd.V_elder' (VAt HO403.out) (Kd.N_base ho0) hb); replace HO406 := Aside0.mk (Kd.V_elder' (VAt HO406.out) (Kd.N_base ho0) hb); have HO451 := Aside0.mk (Kd.N_lower (Kd.N_mono (ok' := fun k_ => some k_ ≠ (.slice Ao28 t407.length co28 : Value).ownBlock ∧ some k_ ≠ (.slice Ao29 t410.length co29 : Value).ownBlock ∧ some k_ ≠ (.slice Ao33 t415.length co33 : Value).ownBlock ∧ some k_ ≠ (.slice Ao34 t418.length co34 : Value).ownBlock ∧ some k_ ≠ (.slice Ao44 y429.length co44 : Value).ownBlock ∧ some k_ ≠ (.slice Ao46 y438.length co46 : Value).ownBlock ∧ some k_ ≠ (.slice Ao48 t441.length co48 : Value).ownBlock ∧ some k_ ≠ (.slice Ao49 t444.length co49 : Value).ownBlock) ho0 (fun k_ hk_ => ⟨(Kd.fresh' (Kd.N_lt (NAt HO409.out)) k_ hk_), (Kd.fresh' (Kd.N_lt (NAt HO412.out)) k_ hk_), (Kd.fresh' (Kd.N_lt (NAt HO417.out)) k_ hk_), (Kd.fresh' (Kd.N_lt (NAt HO420.out)) k_ hk_), (Kd.fresh' (Kd.R_lt (RAt HO431.out)) k_ hk_), (Kd.fresh' (Kd.R_lt (RAt HO440.out)) k_ hk_), (Kd.fresh' (Kd.N_lt (NAt HO443.out)) k_ hk_), (Kd.fresh' (Kd.N_lt (NAt HO446.out)) k_ hk_)⟩)) (below_size (bAt HB.out))); replace HO409 := Aside0.mk (Kd.N_elder' (NAt HO409.out) (Kd.N_base ho0) hb); replace HO412 := Aside0.mk (Kd.N_elder' (NAt HO412.out) (Kd.N_base ho0) hb); replace HO417 := Aside0.mk (Kd.N_elder' (NAt HO417.out) (Kd.N_base ho0) hb); replace HO420 := Aside0.mk (Kd.N_elder' (NAt HO420.out) (Kd.N_base ho0) hb); replace HO431 := Aside0.mk (Kd.R_below (RAt HO431.out) hb); replace HO440 := Aside0.mk (Kd.R_below (RAt HO440.out) hb); replace HO443 := Aside0.mk (Kd.N_elder' (NAt HO443.out) (Kd.N_base ho0) hb); replace HO446 := Aside0.mk (Kd.N_elder' (NAt HO446.out) (Kd.N_base ho0) hb); replace HB := Aside0.mk (below_step (bAt HB.out) hb); (try clear hb); (try clear hb2); (try clear hk); (try clear hi); (try clear ho0)))
     (try simp only [Act.put, List.setIfInBounds_toArray, List.set_cons_zero, List.set_cons_succ])
     go_cut [17] (fun v17 wc => ∃ (kq : Nat) (x17_19 : Bool), v17 = .bool x17_19 ∧ Aside0 (tmesislaw24_MatchBoth.j0 kq t400 t413 t414 t421 t422 y438 t447 t448 x17_19 = some r) ∧ Aside0 (kq ≤ k) ∧ Aside0 (Kd.R (Kd.int .u8) 5 wc w.heap.size (fun _ => True) (.slice Ao46 y438.length co46) y438) ∧ Aside0 (Below w.heap.size w wc))
     case first =>
      have H := HC20.out
      clear HC20
      by_cases c52 : (t449.length : Int) > 0
      ·rw [if_pos c52] at H
       have c52b0 : decide (0 < (t449.length : Int)) = true := decide_eq_true c52
       have c52b1 : decide (0 < t449.length) = true := decide_eq_true (by omega)
       clear c52
       (first | rw [c52b0] | (simp only [i64_w, i32_w]; rw [c52b0]) | skip)
       obtain ⟨ji53, hji53⟩ : ∃ j_ : Int, (wrap64 ((t449.length : Int) - 1)) = j_ := ⟨_, rfl⟩
       replace H : (if 0 ≤ (ji53) then (if (ji53) < (t449.length : Int) then (if 0 ≤ ((rd_T36 t449 (ji53)).f0) then (if ((rd_T36 t449 (ji53)).f0) ≤ (y429.length : Int) then (tmesislaw24_MatchBoth.j0 k t400 t413 t414 t421 t422 y438 t447 t448 ((strOfNums (y429.drop (((rd_T36 t449 (ji53)).f0) : Int).toNat)).toList == ([113, 46] : List UInt8))) else (none)) else (none)) else (none)) else (none)) = some r := by first | (rw [hji53] at H; exact H) | (simp only [hji53] at H ⊢; exact H)
       have hji53w : (IntKind.i64.wrap ((t449.length : Int) - 1)) = ji53 := (i64_w _).trans hji53
       by_cases c54 : 0 ≤ (ji53)
       ·rw [if_pos c54] at H
        have c54b0 := decide_eq_true c54
        clear c54
        by_cases c55 : (ji53) < (t449.length : Int)
        ·rw [if_pos c55] at H
         have c55b0 := decide_eq_true c55
         clear c55
         by_cases c56 : 0 ≤ ((rd_T36 t449 (ji53)).f0)
         ·rw [if_pos c56] at H
          have c56b0 := eq_true c56
          have c56b1 := decide_eq_true c56
          clear c56
          by_cases c57 : ((rd_T36 t449 (ji53)).f0) ≤ (y429.length : Int)
          ·rw [if_pos c57] at H
           have c57b0 := eq_true c57
           have c57b1 := decide_eq_true c57
           clear c57
           obtain ⟨y453, hy453⟩ : ∃ y_ : List Int, y_ = (y429.drop (((rd_T36 t449 (ji53)).f0) : Int).toNat) := ⟨_, rfl⟩
           replace H : (tmesislaw24_MatchBoth.j0 k t400 t413 t414 t421 t422 y438 t447 t448 ((strOfNums y453).toList == ([113, 46] : List UInt8))) = some r := by first | (rw [hy453]; with_reducible exact H) | (have H2_ := (Option.bind_some _ _).symm.trans H; rw [hy453]; with_reducible exact H2_) | (have H2_ := (Option.bind_some _ _).symm.trans H; with_reducible exact H2_) | with_reducible exact H | (rw [hy453]; exact H) | exact H
           have Ny453 := Aside0.mk hy453
           clear hy453
           have H' := Aside0.mk H
           clear H
           obtain ⟨Ao58, co58, eo58⟩ := Kd.N_slice HO451.out
           subst eo58
           have p452 : 0 ≤ ((ji53) : Int) := dt
           have q452 : (ji53) < (t449.length : Int) := dt
           obtain ⟨ad452, A452_3, c452_3, e452, hx452_0, hx452_1, hx452_2, hx452_3, hl452_3, hi452_3⟩ := at_T36 (Kd.N_reads' HO451.out).2.2 (ji53) p452 q452
           cases e452
           obtain ⟨ce452, hce452, hMe452, hcc452⟩ := Kd.N_get HO451.out z36 (ji53) p452 (by first | exact q452 | exact dt | (have e_ := (Kd.N_reads' HO451.out).1; omega))
           obtain ⟨ua452_3, uc452_3, rfl, ul452_3, ge452_3⟩ := k36_openF hMe452
           have hv452_3 := hcc452 3 _ rfl
           rw [add_field _ _ 3 (by omega)] at hv452_3
           replace hv452_3 := Option.some.inj (hv452_3.symm.trans hx452_3)
           injection hv452_3 with hva_ hvn_ hvc_
           rw [hva_] at ge452_3
           rw [hvc_] at ul452_3
           have HL452_3 := Aside0.mk (show Kd.V k39 39 _ w.heap.size _ _ ((rd_T36 t449 (ji53)).f3) from Kd.V_mk ul452_3 ge452_3)
           clear hva_ hvn_ hvc_ ge452_3 ul452_3 hcc452 hce452
           have HR452_3 := Aside0.mk hi452_3
           have HC452_3 := Aside0.mk hl452_3
           clear hi452_3 hl452_3
           replace p452 := eq_true p452
           replace q452 := eq_true q452
           have q59 : (((rd_T36 t449 (ji53)).f0) : Int) ≤ ((y429.length : Int) : Int) := dt
           obtain ⟨i059, hi059, _, hsz59, _⟩ := info_parts info5
           have hroom59 : y429.length ≤ co44 := (Kd.R_reads' HO431.out).2.1
           have hC59 : Kd.F (Kd.int .u8) _ _ Ao44 y429.length y429 := (Kd.V_at (base := w.heap.size) (Kd.R_V (Kd.R_apart' (Kd.R_apart' (Kd.R_apart' (Kd.R_apart' (Kd.R_apart' (Kd.R_apart' (Kd.R_apart' (HO431.out) (Kd.N_typed HO409.out) (by decide)) (Kd.N_typed HO412.out) (by decide)) (Kd.N_typed HO417.out) (by decide)) (Kd.N_typed HO420.out) (by decide)) (Kd.N_typed HO443.out) (by decide)) (Kd.N_typed HO446.out) (by decide)) (Kd.N_typed HO451.out) (by decide)))).2.2
           have q059 : (0 : Int) ≤ (((rd_T36 t449 (ji53)).f0) : Int) := dt
           have hcut59 := cut_from (P := Tryd.prog) 22 5 .i64 Tryd.underlying22 hi059 1 hsz59 Ao44 y429.length co44 ((rd_T36 t449 (ji53)).f0) q059 q59
           have hr59 := Kd.F_cut (m := (((rd_T36 t449 (ji53)).f0) : Int).toNat) (c := co44) hC59 (by omega) hroom59
           obtain ⟨A59, hA59⟩ : ∃ A1, A1 = (if co44 = (((rd_T36 t449 (ji53)).f0) : Int).toNat then Ao44 else (Ao44 : Option Addr).map (·.add ((((rd_T36 t449 (ji53)).f0) : Int).toNat * 1))) := ⟨_, rfl⟩
           obtain ⟨c59, hc59⟩ : ∃ c1, c1 = co44 - (((rd_T36 t449 (ji53)).f0) : Int).toNat := ⟨_, rfl⟩
           have hy59 : y453.length = y429.length - (((rd_T36 t449 (ji53)).f0) : Int).toNat := (by rw [Ny453.out, List.length_drop] <;> omega)
           rw [show (y429).drop (((rd_T36 t449 (ji53)).f0) : Int).toNat = y453 from Ny453.out.symm] at hr59
           replace hr59 : Kd.F (Kd.int .u8) _ _ A59 y453.length y453 := (by rw [hA59]; exact hr59)
           rw [← hy59, ← hA59, ← hc59] at hcut59
           have HO457 := Aside0.mk (show Kd.V (Kd.int .u8) 5 _ w.heap.size _ (.slice A59 y453.length c59) y453 from Kd.V_mk (by rw [hy59, hc59]; exact Nat.sub_le_sub_right hroom59 _) hr59)
           have HC457 := Aside0.mk (show y453.length ≤ c59 from by rw [hy59, hc59]; exact Nat.sub_le_sub_right hroom59 _)
           clear hr59 hC59 hroom59 hi059 hsz59 hc59
           have KY59 := Aside0.mk hy59
           have KA59 := Aside0.mk hA59
           clear hy59 hA59
           replace q59 := eq_true q59
           (first | (have hcv60 := own_string (P := Tryd.prog) Tryd.underlying22 Tryd.underlying5 Tryd.underlying9 (Kd.own_of_R HO457.out); have hcv60q := fun (q_ : Nat) => own_string (P := Tryd.prog) Tryd.underlying22 Tryd.underlying5 Tryd.underlying9 (pw_own_drewN (Kd.own_of_R HO457.out) q_)) | (have hcv60 := V_string (P := Tryd.prog) Tryd.underlying22 Tryd.underlying5 Tryd.underlying9 HO457.out; have hcv60q := fun (q_ : Nat) => V_string (P := Tryd.prog) Tryd.underlying22 Tryd.underlying5 Tryd.underlying9 (Kd.V_drewN HO457.out q_)))
           go_wp2
           go_meet
           case rel => exact ⟨_, (((strOfNums y453).toList == ([113, 46] : List UInt8))), sR, H', ⟨by first | omega | exact Nat.le_refl _⟩, ⟨RAt (Kd.R_mono HO440.out (fun _ hk => trivial))⟩, ⟨bAt HB.out⟩⟩
          · exact nB H c57
         · exact nB H c56
        · exact nB H c55
       · exact nB H c54
      ·rw [if_neg c52] at H
       have c52b0 : decide (0 < (t449.length : Int)) = false := decide_eq_false c52
       have c52b1 : decide (0 < t449.length) = false := decide_eq_false (by omega)
       clear c52
       (first | rw [c52b0] | (simp only [i64_w, i32_w]; rw [c52b0]) | skip)
       have H' := Aside0.mk H
       clear H
       obtain ⟨Ao61, co61, eo61⟩ := Kd.N_slice HO451.out
       subst eo61
       go_wp2
       go_meet
       case rel => exact ⟨_, (false), sR, H', ⟨by first | omega | exact Nat.le_refl _⟩, ⟨RAt (Kd.R_mono HO440.out (fun _ hk => trivial))⟩, ⟨bAt HB.out⟩⟩
     case rest =>
      clear HC20
      try clear c1
      try clear p2
      try clear c4
      try clear p4
      try clear q4
      try clear hx4
      try clear c5
      try clear q5
      try clear c6
      try clear p6
      try clear hcv6
      try clear c7
      try clear c8
      try clear c11
      try clear c12
      try clear c13
      try clear c14
      try clear c15
      try clear c45
      try clear p45
      try clear q45
      try clear hx45
      try clear c52
      try clear c52b0 c52b1
      try clear c54
      try clear c54b0
      try clear c55
      try clear c55b0
      try clear c56
      try clear c56b0 c56b1
      try clear c57
      try clear c57b0 c57b1
      try clear c59
      try clear q59
      try clear hcv60
      try clear hx452_0
      try clear hx452_1
      try clear hx452_2
      try clear hx452_3
      try clear p452
      try clear q059
      try clear q452
      try clear q59
      obtain ⟨kq, x17_19, rfl, HA, HJ19, HO_13, HB⟩ := hcut
      cases kq with
      | zero => exact absurd HA.out (by simp [tmesislaw24_MatchBoth.j0])
      | succ kj19 =>
       have H := HA.out
       clear HA
       simp only [tmesislaw24_MatchBoth.j0] at H
       obtain ⟨t458, A62, H⟩ := bE H
       have HC63 := Aside0.mk H
       clear H
       go_upto_region 12 with (first | ((with_reducible refine gate_callee (f := 11) rfl ?_); refine gL (some 84) Tryd.func11 #[.slice Ao46 y438.length co46] rfl gA ?_; (with_reducible refine (split_Pieces.calls kj19 _ _ y438 t458 _ ?side1 ?side2 ?side3 A62.out).mono ?_); (case side1 => exact Gl.below HG.out (bAt HB.out)); (case side2 => exact CAt ((Kd.R_reads' HO_13.out).2.2)); (case side3 => exact (Kd.R_reads' HO_13.out).2.1); rintro e w64 ⟨v459, rfl, ho0, hb⟩; refine ⟨_, rfl, ?_⟩; have HO460 := Aside0.mk (Kd.N_lower (Kd.N_mono (ok' := fun k_ => some k_ ≠ (.slice Ao46 y438.length co46 : Value).ownBlock) ho0 (fun k_ hk_ => (Kd.fresh' (Kd.R_lt (RAt HO_13.out)) k_ hk_))) (below_size (bAt HB.out))); replace HO_13 := Aside0.mk (Kd.R_below (RAt HO_13.out) hb); replace HB := Aside0.mk (below_step (bAt HB.out) hb); (try clear hb); (try clear hb2); (try clear hk); (try clear hi); (try clear ho0)))
       (try simp only [Act.put, List.setIfInBounds_toArray, List.set_cons_zero, List.set_cons_succ])
       go_cut [19] (fun v19 wc => ∃ (kq : Nat) (x19_62 : Bool), v19 = .bool x19_62 ∧ Aside0 (tmesislaw24_MatchBoth.j1 kq t400 t413 t414 t421 t422 t447 t448 x17_19 x19_62 = some r) ∧ Aside0 (kq ≤ kj19) ∧ Aside0 (Below w.heap.size w wc))
       case first =>
        have H := HC63.out
        clear HC63
        by_cases c65 : (t458.length : Int) > 0
        ·rw [if_pos c65] at H
         have c65b0 : decide (0 < (t458.length : Int)) = true := decide_eq_true c65
         have c65b1 : decide (0 < t458.length) = true := decide_eq_true (by omega)
         clear c65
         (first | rw [c65b0] | (simp only [i64_w, i32_w]; rw [c65b0]) | skip)
         obtain ⟨ji66, hji66⟩ : ∃ j_ : Int, (wrap64 ((t458.length : Int) - 1)) = j_ := ⟨_, rfl⟩
         replace H : (if 0 ≤ (ji66) then (if (ji66) < (t458.length : Int) then (if 0 ≤ ((rd_T36 t458 (ji66)).f0) then (if ((rd_T36 t458 (ji66)).f0) ≤ (y438.length : Int) then (tmesislaw24_MatchBoth.j1 kj19 t400 t413 t414 t421 t422 t447 t448 x17_19 ((strOfNums (y438.drop (((rd_T36 t458 (ji66)).f0) : Int).toNat)).toList == ([113, 46] : List UInt8))) else (none)) else (none)) else (none)) else (none)) = some r := by first | (rw [hji66] at H; exact H) | (simp only [hji66] at H ⊢; exact H)
         have hji66w : (IntKind.i64.wrap ((t458.length : Int) - 1)) = ji66 := (i64_w _).trans hji66
         by_cases c67 : 0 ≤ (ji66)
         ·rw [if_pos c67] at H
          have c67b0 := decide_eq_true c67
          clear c67
          by_cases c68 : (ji66) < (t458.length : Int)
          ·rw [if_pos c68] at H
           have c68b0 := decide_eq_true c68
           clear c68
           by_cases c69 : 0 ≤ ((rd_T36 t458 (ji66)).f0)
           ·rw [if_pos c69] at H
            have c69b0 := eq_true c69
            have c69b1 := decide_eq_true c69
            clear c69
            by_cases c70 : ((rd_T36 t458 (ji66)).f0) ≤ (y438.length : Int)
            ·rw [if_pos c70] at H
             have c70b0 := eq_true c70
             have c70b1 := decide_eq_true c70
             clear c70
             obtain ⟨y462, hy462⟩ : ∃ y_ : List Int, y_ = (y438.drop (((rd_T36 t458 (ji66)).f0) : Int).toNat) := ⟨_, rfl⟩
             replace H : (tmesislaw24_MatchBoth.j1 kj19 t400 t413 t414 t421 t422 t447 t448 x17_19 ((strOfNums y462).toList == ([113, 46] : List UInt8))) = some r := by first | (rw [hy462]; with_reducible exact H) | (have H2_ := (Option.bind_some _ _).symm.trans H; rw [hy462]; with_reducible exact H2_) | (have H2_ := (Option.bind_some _ _).symm.trans H; with_reducible exact H2_) | with_reducible exact H | (rw [hy462]; exact H) | exact H
             have Ny462 := Aside0.mk hy462
             clear hy462
             have H' := Aside0.mk H
             clear H
             obtain ⟨Ao71, co71, eo71⟩ := Kd.N_slice HO460.out
             subst eo71
             have p461 : 0 ≤ ((ji66) : Int) := dt
             have q461 : (ji66) < (t458.length : Int) := dt
             obtain ⟨ad461, A461_3, c461_3, e461, hx461_0, hx461_1, hx461_2, hx461_3, hl461_3, hi461_3⟩ := at_T36 (Kd.N_reads' HO460.out).2.2 (ji66) p461 q461
             cases e461
             obtain ⟨ce461, hce461, hMe461, hcc461⟩ := Kd.N_get HO460.out z36 (ji66) p461 (by first | exact q461 | exact dt | (have e_ := (Kd.N_reads' HO460.out).1; omega))
             obtain ⟨ua461_3, uc461_3, rfl, ul461_3, ge461_3⟩ := k36_openF hMe461
             have hv461_3 := hcc461 3 _ rfl
             rw [add_field _ _ 3 (by omega)] at hv461_3
             replace hv461_3 := Option.some.inj (hv461_3.symm.trans hx461_3)
             injection hv461_3 with hva_ hvn_ hvc_
             rw [hva_] at ge461_3
             rw [hvc_] at ul461_3
             have HL461_3 := Aside0.mk (show Kd.V k39 39 _ w.heap.size _ _ ((rd_T36 t458 (ji66)).f3) from Kd.V_mk ul461_3 ge461_3)
             clear hva_ hvn_ hvc_ ge461_3 ul461_3 hcc461 hce461
             have HR461_3 := Aside0.mk hi461_3
             have HC461_3 := Aside0.mk hl461_3
             clear hi461_3 hl461_3
             replace p461 := eq_true p461
             replace q461 := eq_true q461
             have q72 : (((rd_T36 t458 (ji66)).f0) : Int) ≤ ((y438.length : Int) : Int) := dt
             obtain ⟨i072, hi072, _, hsz72, _⟩ := info_parts info5
             have hroom72 : y438.length ≤ co46 := (Kd.R_reads' HO_13.out).2.1
             have hC72 : Kd.F (Kd.int .u8) _ _ Ao46 y438.length y438 := (Kd.V_at (base := w.heap.size) (Kd.R_V (Kd.R_apart' (HO_13.out) (Kd.N_typed HO460.out) (by decide)))).2.2
             have q072 : (0 : Int) ≤ (((rd_T36 t458 (ji66)).f0) : Int) := dt
             have hcut72 := cut_from (P := Tryd.prog) 22 5 .i64 Tryd.underlying22 hi072 1 hsz72 Ao46 y438.length co46 ((rd_T36 t458 (ji66)).f0) q072 q72
             have hr72 := Kd.F_cut (m := (((rd_T36 t458 (ji66)).f0) : Int).toNat) (c := co46) hC72 (by omega) hroom72
             obtain ⟨A72, hA72⟩ : ∃ A1, A1 = (if co46 = (((rd_T36 t458 (ji66)).f0) : Int).toNat then Ao46 else (Ao46 : Option Addr).map (·.add ((((rd_T36 t458 (ji66)).f0) : Int).toNat * 1))) := ⟨_, rfl⟩
             obtain ⟨c72, hc72⟩ : ∃ c1, c1 = co46 - (((rd_T36 t458 (ji66)).f0) : Int).toNat := ⟨_, rfl⟩
             have hy72 : y462.length = y438.length - (((rd_T36 t458 (ji66)).f0) : Int).toNat := (by rw [Ny462.out, List.length_drop] <;> omega)
             rw [show (y438).drop (((rd_T36 t458 (ji66)).f0) : Int).toNat = y462 from Ny462.out.symm] at hr72
             replace hr72 : Kd.F (Kd.int .u8) _ _ A72 y462.length y462 := (by rw [hA72]; exact hr72)
             rw [← hy72, ← hA72, ← hc72] at hcut72
             have HO466 := Aside0.mk (show Kd.V (Kd.int .u8) 5 _ w.heap.size _ (.slice A72 y462.length c72) y462 from Kd.V_mk (by rw [hy72, hc72]; exact Nat.sub_le_sub_right hroom72 _) hr72)
             have HC466 := Aside0.mk (show y462.length ≤ c72 from by rw [hy72, hc72]; exact Nat.sub_le_sub_right hroom72 _)
             clear hr72 hC72 hroom72 hi072 hsz72 hc72
             have KY72 := Aside0.mk hy72
             have KA72 := Aside0.mk hA72
             clear hy72 hA72
             replace q72 := eq_true q72
             (first | (have hcv73 := own_string (P := Tryd.prog) Tryd.underlying22 Tryd.underlying5 Tryd.underlying9 (Kd.own_of_R HO466.out); have hcv73q := fun (q_ : Nat) => own_string (P := Tryd.prog) Tryd.underlying22 Tryd.underlying5 Tryd.underlying9 (pw_own_drewN (Kd.own_of_R HO466.out) q_)) | (have hcv73 := V_string (P := Tryd.prog) Tryd.underlying22 Tryd.underlying5 Tryd.underlying9 HO466.out; have hcv73q := fun (q_ : Nat) => V_string (P := Tryd.prog) Tryd.underlying22 Tryd.underlying5 Tryd.underlying9 (Kd.V_drewN HO466.out q_)))
             go_wp2
             go_meet
             case rel => exact ⟨_, (((strOfNums y462).toList == ([113, 46] : List UInt8))), sR, H', ⟨by have := HJ19.out; first | omega | exact Nat.le_refl _⟩, ⟨bAt HB.out⟩⟩
            · exact nB H c70
           · exact nB H c69
          · exact nB H c68
         · exact nB H c67
        ·rw [if_neg c65] at H
         have c65b0 : decide (0 < (t458.length : Int)) = false := decide_eq_false c65
         have c65b1 : decide (0 < t458.length) = false := decide_eq_false (by omega)
         clear c65
         (first | rw [c65b0] | (simp only [i64_w, i32_w]; rw [c65b0]) | skip)
         have H' := Aside0.mk H
         clear H
         obtain ⟨Ao74, co74, eo74⟩ := Kd.N_slice HO460.out
         subst eo74
         go_wp2
         go_meet
         case rel => exact ⟨_, (false), sR, H', ⟨by have := HJ19.out; first | omega | exact Nat.le_refl _⟩, ⟨bAt HB.out⟩⟩
       case rest =>
        clear HC63
        try clear c1
        try clear p2
        try clear c4
        try clear p4
        try clear q4
        try clear hx4
        try clear c5
        try clear q5
        try clear c6
        try clear p6
        try clear hcv6
        try clear c7
        try clear q7
        try clear hcv7
        try clear c8
        try clear c11
        try clear c12
        try clear c13
        try clear c14
        try clear c15
        try clear c45
        try clear p45
        try clear q45
        try clear hx45
        try clear c46
        try clear p46
        try clear q46
        try clear hx46
        try clear c52
        try clear c52b0 c52b1
        try clear c54
        try clear c54b0
        try clear c55
        try clear c55b0
        try clear c56
        try clear c56b0 c56b1
        try clear c57
        try clear c57b0 c57b1
        try clear c59
        try clear q59
        try clear hcv60
        try clear p64
        try clear c65
        try clear c65b0 c65b1
        try clear c67
        try clear c67b0
        try clear c68
        try clear c68b0
        try clear c69
        try clear c69b0 c69b1
        try clear c70
        try clear c70b0 c70b1
        try clear c72
        try clear q72
        try clear hcv73
        try clear hx452_0
        try clear hx452_1
        try clear hx452_2
        try clear hx452_3
        try clear hx461_0
        try clear hx461_1
        try clear hx461_2
        try clear hx461_3
        try clear p2
        try clear p4
        try clear p45
        try clear p452
        try clear p461
        try clear p6
        try clear q059
        try clear q072
        try clear q4
        try clear q45
        try clear q452
        try clear q461
        try clear q5
        try clear q59
        try clear q72
        obtain ⟨kq, x19_62, rfl, HA, HJ62, HB⟩ := hcut
        cases kq with
        | zero => exact absurd HA.out (by simp [tmesislaw24_MatchBoth.j1])
        | succ kj62 =>
         have H := HA.out
         clear HA
         simp only [tmesislaw24_MatchBoth.j1] at H
         have HC75 := Aside0.mk H
         clear H
         go_upto_region 13 with (fail)
         go_cut [4] (fun v4 wc => ∃ (kq : Nat) (x4_74 : Bool), v4 = .bool x4_74 ∧ Aside0 (tmesislaw24_MatchBoth.j2 kq x4_74 = some r) ∧ Aside0 (kq ≤ kj62) ∧ Aside0 (Below w.heap.size w wc))
         case first =>
          have H := HC75.out
          clear HC75
          by_cases c76 : t400 = true
          ·subst c76
           replace H := tP H
           by_cases c77 : t413 = t421
           ·rw [if_pos c77] at H
            obtain ⟨c77b0, c77b1⟩ := eqB c77
            clear c77
            (first | rw [c77b0] | (simp only [i64_w, i32_w]; rw [c77b0]) | skip)
            by_cases c78 : t414 = t422
            ·rw [if_pos c78] at H
             obtain ⟨c78b0, c78b1⟩ := eqB c78
             clear c78
             by_cases c79 : t447 ≥ 1
             ·rw [if_pos c79] at H
              have c79b0 : decide (1 ≤ t447) = true := decide_eq_true c79
              clear c79
              by_cases c80 : x17_19 = true
              ·subst c80
               replace H := tP H
               by_cases c81 : x19_62 = true
               ·subst c81
                replace H := tP H
                have H' := Aside0.mk H
                clear H
                go_wp2
                go_meet
                case rel => exact ⟨_, (decide ((wrap64 (t447 + t448)) ≥ 2)), sR, H', ⟨by have := HJ19.out; have := HJ62.out; first | omega | exact Nat.le_refl _⟩, ⟨bAt HB.out⟩⟩
               ·replace c81 := Bool.eq_false_iff.mpr c81
                subst c81
                replace H := fP H
                have H' := Aside0.mk H
                clear H
                go_wp2
                go_meet
                case rel => exact ⟨_, (true), sR, H', ⟨by have := HJ19.out; have := HJ62.out; first | omega | exact Nat.le_refl _⟩, ⟨bAt HB.out⟩⟩
              ·replace c80 := Bool.eq_false_iff.mpr c80
               subst c80
               replace H := fP H
               have H' := Aside0.mk H
               clear H
               go_wp2
               go_meet
               case rel => exact ⟨_, (true), sR, H', ⟨by have := HJ19.out; have := HJ62.out; first | omega | exact Nat.le_refl _⟩, ⟨bAt HB.out⟩⟩
             ·rw [if_neg c79] at H
              have c79b0 : decide (1 ≤ t447) = false := decide_eq_false c79
              clear c79
              have H' := Aside0.mk H
              clear H
              go_wp2
              go_meet
              case rel => exact ⟨_, (false), sR, H', ⟨by have := HJ19.out; have := HJ62.out; first | omega | exact Nat.le_refl _⟩, ⟨bAt HB.out⟩⟩
            ·rw [if_neg c78] at H
             obtain ⟨c78b0, c78b1⟩ := neB c78
             have H' := Aside0.mk H
             clear H
             go_wp2
             go_meet
             case rel => exact ⟨_, (false), sR, H', ⟨by have := HJ19.out; have := HJ62.out; first | omega | exact Nat.le_refl _⟩, ⟨bAt HB.out⟩⟩
           ·rw [if_neg c77] at H
            obtain ⟨c77b0, c77b1⟩ := neB c77
            (first | rw [c77b0] | (simp only [i64_w, i32_w]; rw [c77b0]) | skip)
            have H' := Aside0.mk H
            clear H
            go_wp2
            go_meet
            case rel => exact ⟨_, (false), sR, H', ⟨by have := HJ19.out; have := HJ62.out; first | omega | exact Nat.le_refl _⟩, ⟨bAt HB.out⟩⟩
          ·replace c76 := Bool.eq_false_iff.mpr c76
           subst c76
           replace H := fP H
           have H' := Aside0.mk H
           clear H
           go_wp2
           go_meet
           case rel => exact ⟨_, (false), sR, H', ⟨by have := HJ19.out; have := HJ62.out; first | omega | exact Nat.le_refl _⟩, ⟨bAt HB.out⟩⟩
         case rest =>
          clear HC75
          try clear c1
          try clear p2
          try clear c4
          try clear p4
          try clear q4
          try clear hx4
          try clear c5
          try clear q5
          try clear c6
          try clear p6
          try clear hcv6
          try clear c7
          try clear q7
          try clear hcv7
          try clear c8
          try clear c11
          try clear c12
          try clear c13
          try clear c14
          try clear c15
          try clear c45
          try clear p45
          try clear q45
          try clear hx45
          try clear c46
          try clear p46
          try clear q46
          try clear hx46
          try clear c52
          try clear c52b0 c52b1
          try clear c54
          try clear c54b0
          try clear c55
          try clear c55b0
          try clear c56
          try clear c56b0 c56b1
          try clear c57
          try clear c57b0 c57b1
          try clear c59
          try clear q59
          try clear hcv60
          try clear p64
          try clear c65
          try clear c65b0 c65b1
          try clear c67
          try clear c67b0
          try clear c68
          try clear c68b0
          try clear c69
          try clear c69b0 c69b1
          try clear c70
          try clear c70b0 c70b1
          try clear c72
          try clear q72
          try clear hcv73
          try clear c76
          try clear c77
          try clear c77b0 c77b1
          try clear c78
          try clear c78b0 c78b1
          try clear c79
          try clear c79b0
          try clear c80
          try clear c81
          try clear hx452_0
          try clear hx452_1
          try clear hx452_2
          try clear hx452_3
          try clear hx461_0
          try clear hx461_1
          try clear hx461_2
          try clear hx461_3
          try clear p2
          try clear p4
          try clear p45
          try clear p452
          try clear p46
          try clear p461
          try clear p6
          try clear p64
          try clear q059
          try clear q072
          try clear q4
          try clear q45
          try clear q452
          try clear q46
          try clear q461
          try clear q5
          try clear q59
          try clear q7
          try clear q72
          obtain ⟨kq, x4_74, rfl, HA, HJ74, HB⟩ := hcut
          cases kq with
          | zero => exact absurd HA.out (by simp [tmesislaw24_MatchBoth.j2])
          | succ kj74 =>
           have H := HA.out
           clear HA
           simp only [tmesislaw24_MatchBoth.j2] at H
           obtain rfl := Option.some.inj H
           go_wp2
           go_ret
           exact ⟨eR, bAt HB.out⟩
    · exact nB H c15
   · exact nB H c14
  · exact nB H c13
 · exact nB H c12
/-- THE ONE PURE STATEMENT of tmesislaw24_MatchBoth: yours. -/
def tmesislaw24_MatchBoth.Pure : Prop := ∀ (l0 : List Int) (l1 : List Int), l0.length ≤ maxLen → l0.length * 1 ≤ 140737488351232 → (∀ x ∈ l0, (Lit.int .u8 x).wf = true) → l1.length ≤ maxLen → l1.length * 1 ≤ 140737488351232 → (∀ x ∈ l1, (Lit.int .u8 x).wf = true) → ∃ k, tmesislaw24_MatchBoth.f k l0 l1 = some true
theorem tmesislaw24_MatchBoth.walk (P : tmesislaw24_MatchBoth.Pure) (a0 : Option Addr) (len0 cap0 : Nat) (z0 : List Int) (a1 : Option Addr) (len1 cap1 : Nat) (z1 : List Int) (w : World) (hG : Gl w) (w0 : (a0 = none ∧ len0 = 0 ∧ cap0 = 0 ∧ z0 = []) ∨ ∃ x, a0 = some x ∧ len0 ≤ cap0 ∧ cap0 ≤ maxLen ∧ z0.length = cap0 ∧ (∀ i, i < z0.length → w.cell? (x.add i) = some (.int .u8 (z0.getD i 0))) ∧ ∀ n ∈ z0, (Lit.int .u8 n).wf = true) (y0 : len0 * 1 ≤ 140737488351232) (w1 : (a1 = none ∧ len1 = 0 ∧ cap1 = 0 ∧ z1 = []) ∨ ∃ x, a1 = some x ∧ len1 ≤ cap1 ∧ cap1 ≤ maxLen ∧ z1.length = cap1 ∧ (∀ i, i < z1.length → w.cell? (x.add i) = some (.int .u8 (z1.getD i 0))) ∧ ∀ n ∈ z1, (Lit.int .u8 n).wf = true) (y1 : len1 * 1 ≤ 140737488351232) :
  Calls Tryd.prog 5 #[.slice a0 len0 cap0, .slice a1 len1 cap1] w fun e w' => e = .returned (.bool true) ∧ Below w.heap.size w w' := by
 obtain ⟨l0, rfl, hr0, hm0, hw0, hc0⟩ := ReadsInt.ofRowC w0
 obtain ⟨l1, rfl, hr1, hm1, hw1, hc1⟩ := ReadsInt.ofRowC w1
 obtain ⟨k, h⟩ := P l0 l1 hm0 y0 hw0 hm1 y1 hw1
 refine (tmesislaw24_MatchBoth.calls k _ _ l0 _ _ l1 true w hG (Kd.C_of_reads (d := (0 : Int)) (h1 := fun _ => rfl) hr0) hc0 (Kd.C_of_reads (d := (0 : Int)) (h1 := fun _ => rfl) hr1) hc1 h).mono ?_
 rintro e w' ⟨rfl, hd⟩
 exact ⟨rfl, hd⟩
end Go.Proofs.YtklpephnbkoinaaDoor.P
