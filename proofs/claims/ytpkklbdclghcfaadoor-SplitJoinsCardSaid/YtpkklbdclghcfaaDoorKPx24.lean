/- Part of the proof: what the theorem needs of this text. -/
import Derived.Test.YtpkklbdclghcfaaDoorKHG
import Derived.Test.YtpkklbdclghcfaaDoorKPx0
import Derived.Test.YtpkklbdclghcfaaDoorKPx12
import Derived.Test.YtpkklbdclghcfaaDoorKPx23
import Derived.Test.YtpkklbdclghcfaaDoorKPx9
namespace Go.Proofs.YtpkklbdclghcfaaDoor.P
open Go.RowKit Go.Proofs.YtpkklbdclghcfaaDoorW.PrintWords Go.Proofs.YtpkklbdclghcfaaDoorW.PrintLast Go.Proofs.YtpkklbdclghcfaaDoorW.PrintMore
attribute [local go_sem] max2_int min2_int max_two min_two max_three min_three max_four min_four   -- for this text's walks alone
set_option linter.unusedVariables false
set_option linter.unusedSimpArgs false
mutual
def tmesislaw10_SplitJoins.l0 : Nat → List Int → Bool → List Int → List (S25) → Int → Int → Option (Bool)
 | 0, _, _, _, _, _, _ => none
 | k + 1, x1, x5, x6, x7, x8, x9 => if x9 < (x7.length : Int) then (if 0 ≤ x9 then (if (((rd_T25 x7 x9).f3).length : Int) > 0 then (if 0 ≤ (wrap64 ((((rd_T25 x7 x9).f3).length : Int) - 1)) then (if (wrap64 ((((rd_T25 x7 x9).f3).length : Int) - 1)) < (((rd_T25 x7 x9).f3).length : Int) then (tmesislaw10_SplitJoins.j1 k x1 x5 x6 x7 x8 x9 (((rd_T38 ((rd_T25 x7 x9).f3) (wrap64 ((((rd_T25 x7 x9).f3).length : Int) - 1))).f0) == 7)) else (none)) else (none)) else (tmesislaw10_SplitJoins.j1 k x1 x5 x6 x7 x8 x9 false)) else (none)) else (if x8 < 0 then (tmesislaw10_SplitJoins.j3 k x1 x5 x6 x8 true) else (tmesislaw10_SplitJoins.j3 k x1 x5 x6 x8 (decide (x8 > (x6.length : Int)))))
def tmesislaw10_SplitJoins.j2 : Nat → List Int → Bool → List Int → List (S25) → Int → Int → Option (Bool)
 | 0, _, _, _, _, _, _ => none
 | k + 1, x1, x5, x6, x7, x8, x9 => tmesislaw10_SplitJoins.l0 k x1 x5 x6 x7 x8 (wrap64 (x9 + 1))
def tmesislaw10_SplitJoins.j1 : Nat → List Int → Bool → List Int → List (S25) → Int → Int → Bool → Option (Bool)
 | 0, _, _, _, _, _, _, _ => none
 | k + 1, x1, x5, x6, x7, x8, x9, x54 => if x54 = true then (if 0 ≤ x9 then (if x9 < (x7.length : Int) then (tmesislaw10_SplitJoins.j2 k x1 x5 x6 x7 ((rd_T25 x7 x9).f1) x9) else (none)) else (none)) else (tmesislaw10_SplitJoins.j2 k x1 x5 x6 x7 x8 x9)
def tmesislaw10_SplitJoins.j3 : Nat → List Int → Bool → List Int → Int → Bool → Option (Bool)
 | 0, _, _, _, _, _ => none
 | k + 1, x1, x5, x6, x8, x67 => if x67 = true then (some false) else ((some (([] : List Int) : List Int)).bind fun y623 => (if 0 ≤ x8 then (if x8 ≤ (x6.length : Int) then ((some (x6.take (x8 : Int).toNat : List Int)).bind fun y626 => (if y623.length + y626.length < 140737488355328 then ((some (y623 ++ y626 : List Int)).bind fun y631 => (if y631.length < 140737488355328 then ((some (y631 ++ [10] : List Int)).bind fun y634 => ((split_Pieces.f k y634).bind fun t637 => ((tmesislaw10_few.f x1).bind fun t640 => ((split_Pieces.f k t640).bind fun t643 => ((some (([] : List Int) : List Int)).bind fun y646 => (if y646.length + y634.length < 140737488355328 then ((some (y646 ++ y634 : List Int)).bind fun y649 => ((tmesislaw10_few.f x1).bind fun t652 => (if y649.length + t652.length < 140737488355328 then ((split_Pieces.f k (y649 ++ t652)).bind fun t658 => (tmesislaw10_SplitJoins.l1 k x5 y634 t637 t643 t658 0 0)) else (none)))) else (none))))))) else (none))) else (none))) else (none)) else (none)))
def tmesislaw10_SplitJoins.l1 : Nat → Bool → List Int → List (S25) → List (S25) → List (S25) → Int → Int → Option (Bool)
 | 0, _, _, _, _, _, _, _ => none
 | k + 1, x5, x10, x11, x12, x13, x14, x15 => if x15 < (x11.length : Int) then (if 0 ≤ x15 then (tmesislaw10_SplitJoins.l1 k x5 x10 x11 x12 x13 (wrap64 (x14 + (((rd_T25 x11 x15).f3).length : Int))) (wrap64 (x15 + 1))) else (none)) else (if x5 = true then (tmesislaw10_SplitJoins.j5 k x10 x11 x12 x13 x14 ((x13.length : Int) != (wrap64 ((x11.length : Int) + (x12.length : Int))))) else (tmesislaw10_SplitJoins.j5 k x10 x11 x12 x13 x14 true))
def tmesislaw10_SplitJoins.j5 : Nat → List Int → List (S25) → List (S25) → List (S25) → Int → Bool → Option (Bool)
 | 0, _, _, _, _, _, _ => none
 | k + 1, x10, x11, x12, x13, x14, x112 => if x112 = true then (some false) else (tmesislaw10_SplitJoins.l2 k x10 x11 x12 x13 x14 0)
def tmesislaw10_SplitJoins.l2 : Nat → List Int → List (S25) → List (S25) → List (S25) → Int → Int → Option (Bool)
 | 0, _, _, _, _, _, _ => none
 | k + 1, x10, x11, x12, x13, x14, x16 => if x16 < (x11.length : Int) then (if 0 ≤ x16 then (if x16 < (x13.length : Int) then ((tmesisref07_Same.f k ((rd_T25 x11 x16).f3) ((rd_T25 x13 x16).f3)).bind fun t664 => (if t664 = true then (if ((rd_T25 x11 x16).f0) = ((rd_T25 x13 x16).f0) then (tmesislaw10_SplitJoins.j7 k x10 x11 x12 x13 x14 x16 (((rd_T25 x11 x16).f2) != ((rd_T25 x13 x16).f2))) else (tmesislaw10_SplitJoins.j7 k x10 x11 x12 x13 x14 x16 true)) else (tmesislaw10_SplitJoins.j7 k x10 x11 x12 x13 x14 x16 true))) else (none)) else (none)) else (tmesislaw10_SplitJoins.l3 k x10 x11 x12 x13 x14 0)
def tmesislaw10_SplitJoins.j7 : Nat → List Int → List (S25) → List (S25) → List (S25) → Int → Int → Bool → Option (Bool)
 | 0, _, _, _, _, _, _, _ => none
 | k + 1, x10, x11, x12, x13, x14, x16, x156 => if x156 = true then (some false) else (tmesislaw10_SplitJoins.l2 k x10 x11 x12 x13 x14 (wrap64 (x16 + 1)))
def tmesislaw10_SplitJoins.l3 : Nat → List Int → List (S25) → List (S25) → List (S25) → Int → Int → Option (Bool)
 | 0, _, _, _, _, _, _ => none
 | k + 1, x10, x11, x12, x13, x14, x17 => if x17 < (x12.length : Int) then (if 0 ≤ (wrap64 ((x11.length : Int) + x17)) then (if (wrap64 ((x11.length : Int) + x17)) < (x13.length : Int) then (if 0 ≤ x17 then (if ((rd_T25 x13 (wrap64 ((x11.length : Int) + x17))).f0) = (wrap64 (((rd_T25 x12 x17).f0) + (x10.length : Int))) then (if ((rd_T25 x13 (wrap64 ((x11.length : Int) + x17))).f1) = (wrap64 (((rd_T25 x12 x17).f1) + (x10.length : Int))) then (if ((rd_T25 x13 (wrap64 ((x11.length : Int) + x17))).f2) = (wrap64 (((rd_T25 x12 x17).f2) + x14)) then ((tmesisref07_Alike.f k ((rd_T25 x13 (wrap64 ((x11.length : Int) + x17))).f3) ((rd_T25 x12 x17).f3)).bind fun t675 => (if t675 = true then (tmesislaw10_SplitJoins.j9 k x10 x11 x12 x13 x14 x17 false) else ((tmesislaw10_bad.f k ((rd_T25 x13 (wrap64 ((x11.length : Int) + x17))).f3)).bind fun t676 => (tmesislaw10_SplitJoins.j9 k x10 x11 x12 x13 x14 x17 (!t676))))) else (tmesislaw10_SplitJoins.j9 k x10 x11 x12 x13 x14 x17 true)) else (tmesislaw10_SplitJoins.j9 k x10 x11 x12 x13 x14 x17 true)) else (tmesislaw10_SplitJoins.j9 k x10 x11 x12 x13 x14 x17 true)) else (none)) else (none)) else (none)) else (some true)
def tmesislaw10_SplitJoins.j9 : Nat → List Int → List (S25) → List (S25) → List (S25) → Int → Int → Bool → Option (Bool)
 | 0, _, _, _, _, _, _, _ => none
 | k + 1, x10, x11, x12, x13, x14, x17, x222 => if x222 = true then (some false) else (tmesislaw10_SplitJoins.l3 k x10 x11 x12 x13 x14 (wrap64 (x17 + 1)))
end
def tmesislaw10_SplitJoins.f (k : Nat) (l0 : List Int) (l1 : List Int) : Option (Bool) := (tmesislaw10_shown.f k).bind fun t611 => ((tmesislaw10_few.f l0).bind fun t612 => ((split_Pieces.f k t612).bind fun t615 => (tmesislaw10_SplitJoins.l0 k l1 t611 t612 t615 0 0)))
theorem tmesislaw10_SplitJoins.mono_l : ∀ k, (∀ y0 y1 y2 y3 y4 y5, LeO (tmesislaw10_SplitJoins.l0 k y0 y1 y2 y3 y4 y5) (tmesislaw10_SplitJoins.l0 (k + 1) y0 y1 y2 y3 y4 y5)) ∧ (∀ y0 y1 y2 y3 y4 y5, LeO (tmesislaw10_SplitJoins.j2 k y0 y1 y2 y3 y4 y5) (tmesislaw10_SplitJoins.j2 (k + 1) y0 y1 y2 y3 y4 y5)) ∧ (∀ y0 y1 y2 y3 y4 y5 y6, LeO (tmesislaw10_SplitJoins.j1 k y0 y1 y2 y3 y4 y5 y6) (tmesislaw10_SplitJoins.j1 (k + 1) y0 y1 y2 y3 y4 y5 y6)) ∧ (∀ y0 y1 y2 y3 y4, LeO (tmesislaw10_SplitJoins.j3 k y0 y1 y2 y3 y4) (tmesislaw10_SplitJoins.j3 (k + 1) y0 y1 y2 y3 y4)) ∧ (∀ y0 y1 y2 y3 y4 y5 y6, LeO (tmesislaw10_SplitJoins.l1 k y0 y1 y2 y3 y4 y5 y6) (tmesislaw10_SplitJoins.l1 (k + 1) y0 y1 y2 y3 y4 y5 y6)) ∧ (∀ y0 y1 y2 y3 y4 y5, LeO (tmesislaw10_SplitJoins.j5 k y0 y1 y2 y3 y4 y5) (tmesislaw10_SplitJoins.j5 (k + 1) y0 y1 y2 y3 y4 y5)) ∧ (∀ y0 y1 y2 y3 y4 y5, LeO (tmesislaw10_SplitJoins.l2 k y0 y1 y2 y3 y4 y5) (tmesislaw10_SplitJoins.l2 (k + 1) y0 y1 y2 y3 y4 y5)) ∧ (∀ y0 y1 y2 y3 y4 y5 y6, LeO (tmesislaw10_SplitJoins.j7 k y0 y1 y2 y3 y4 y5 y6) (tmesislaw10_SplitJoins.j7 (k + 1) y0 y1 y2 y3 y4 y5 y6)) ∧ (∀ y0 y1 y2 y3 y4 y5, LeO (tmesislaw10_SplitJoins.l3 k y0 y1 y2 y3 y4 y5) (tmesislaw10_SplitJoins.l3 (k + 1) y0 y1 y2 y3 y4 y5)) ∧ (∀ y0 y1 y2 y3 y4 y5 y6, LeO (tmesislaw10_SplitJoins.j9 k y0 y1 y2 y3 y4 y5 y6) (tmesislaw10_SplitJoins.j9 (k + 1) y0 y1 y2 y3 y4 y5 y6))
 | 0 => ⟨fun _ _ _ _ _ _ r h => by simp [tmesislaw10_SplitJoins.l0] at h, fun _ _ _ _ _ _ r h => by simp [tmesislaw10_SplitJoins.j2] at h, fun _ _ _ _ _ _ _ r h => by simp [tmesislaw10_SplitJoins.j1] at h, fun _ _ _ _ _ r h => by simp [tmesislaw10_SplitJoins.j3] at h, fun _ _ _ _ _ _ _ r h => by simp [tmesislaw10_SplitJoins.l1] at h, fun _ _ _ _ _ _ r h => by simp [tmesislaw10_SplitJoins.j5] at h, fun _ _ _ _ _ _ r h => by simp [tmesislaw10_SplitJoins.l2] at h, fun _ _ _ _ _ _ _ r h => by simp [tmesislaw10_SplitJoins.j7] at h, fun _ _ _ _ _ _ r h => by simp [tmesislaw10_SplitJoins.l3] at h, fun _ _ _ _ _ _ _ r h => by simp [tmesislaw10_SplitJoins.j9] at h⟩
 | k + 1 => by
  obtain ⟨ih0, ih1, ih2, ih3, ih4, ih5, ih6, ih7, ih8, ih9⟩ := tmesislaw10_SplitJoins.mono_l k
  refine ⟨?_, ?_, ?_, ?_, ?_, ?_, ?_, ?_, ?_, ?_⟩
  ·intro y0 y1 y2 y3 y4 y5
   unfold tmesislaw10_SplitJoins.l0
   repeat' with_reducible first | exact ih0 _ _ _ _ _ _ | exact ih1 _ _ _ _ _ _ | exact ih2 _ _ _ _ _ _ _ | exact ih3 _ _ _ _ _ | exact ih4 _ _ _ _ _ _ _ | exact ih5 _ _ _ _ _ _ | exact ih6 _ _ _ _ _ _ | exact ih7 _ _ _ _ _ _ _ | exact ih8 _ _ _ _ _ _ | exact ih9 _ _ _ _ _ _ _ | exact split_Pieces.mono _ _ | exact tmesislaw10_bad.mono _ _ | exact tmesislaw10_shown.mono _ | exact tmesisref07_Alike.mono _ _ _ | exact tmesisref07_Same.mono _ _ _ | exact LeO.refl _ | exact LeO.none _ | refine LeO.ite ?_ ?_ | refine LeO.bind ?_ (fun _ => ?_)
  ·intro y0 y1 y2 y3 y4 y5
   unfold tmesislaw10_SplitJoins.j2
   repeat' with_reducible first | exact ih0 _ _ _ _ _ _ | exact ih1 _ _ _ _ _ _ | exact ih2 _ _ _ _ _ _ _ | exact ih3 _ _ _ _ _ | exact ih4 _ _ _ _ _ _ _ | exact ih5 _ _ _ _ _ _ | exact ih6 _ _ _ _ _ _ | exact ih7 _ _ _ _ _ _ _ | exact ih8 _ _ _ _ _ _ | exact ih9 _ _ _ _ _ _ _ | exact split_Pieces.mono _ _ | exact tmesislaw10_bad.mono _ _ | exact tmesislaw10_shown.mono _ | exact tmesisref07_Alike.mono _ _ _ | exact tmesisref07_Same.mono _ _ _ | exact LeO.refl _ | exact LeO.none _ | refine LeO.ite ?_ ?_ | refine LeO.bind ?_ (fun _ => ?_)
  ·intro y0 y1 y2 y3 y4 y5 y6
   unfold tmesislaw10_SplitJoins.j1
   repeat' with_reducible first | exact ih0 _ _ _ _ _ _ | exact ih1 _ _ _ _ _ _ | exact ih2 _ _ _ _ _ _ _ | exact ih3 _ _ _ _ _ | exact ih4 _ _ _ _ _ _ _ | exact ih5 _ _ _ _ _ _ | exact ih6 _ _ _ _ _ _ | exact ih7 _ _ _ _ _ _ _ | exact ih8 _ _ _ _ _ _ | exact ih9 _ _ _ _ _ _ _ | exact split_Pieces.mono _ _ | exact tmesislaw10_bad.mono _ _ | exact tmesislaw10_shown.mono _ | exact tmesisref07_Alike.mono _ _ _ | exact tmesisref07_Same.mono _ _ _ | exact LeO.refl _ | exact LeO.none _ | refine LeO.ite ?_ ?_ | refine LeO.bind ?_ (fun _ => ?_)
  ·intro y0 y1 y2 y3 y4
   unfold tmesislaw10_SplitJoins.j3
   repeat' with_reducible first | exact ih0 _ _ _ _ _ _ | exact ih1 _ _ _ _ _ _ | exact ih2 _ _ _ _ _ _ _ | exact ih3 _ _ _ _ _ | exact ih4 _ _ _ _ _ _ _ | exact ih5 _ _ _ _ _ _ | exact ih6 _ _ _ _ _ _ | exact ih7 _ _ _ _ _ _ _ | exact ih8 _ _ _ _ _ _ | exact ih9 _ _ _ _ _ _ _ | exact split_Pieces.mono _ _ | exact tmesislaw10_bad.mono _ _ | exact tmesislaw10_shown.mono _ | exact tmesisref07_Alike.mono _ _ _ | exact tmesisref07_Same.mono _ _ _ | exact LeO.refl _ | exact LeO.none _ | refine LeO.ite ?_ ?_ | refine LeO.bind ?_ (fun _ => ?_)
  ·intro y0 y1 y2 y3 y4 y5 y6
   unfold tmesislaw10_SplitJoins.l1
   repeat' with_reducible first | exact ih0 _ _ _ _ _ _ | exact ih1 _ _ _ _ _ _ | exact ih2 _ _ _ _ _ _ _ | exact ih3 _ _ _ _ _ | exact ih4 _ _ _ _ _ _ _ | exact ih5 _ _ _ _ _ _ | exact ih6 _ _ _ _ _ _ | exact ih7 _ _ _ _ _ _ _ | exact ih8 _ _ _ _ _ _ | exact ih9 _ _ _ _ _ _ _ | exact split_Pieces.mono _ _ | exact tmesislaw10_bad.mono _ _ | exact tmesislaw10_shown.mono _ | exact tmesisref07_Alike.mono _ _ _ | exact tmesisref07_Same.mono _ _ _ | exact LeO.refl _ | exact LeO.none _ | refine LeO.ite ?_ ?_ | refine LeO.bind ?_ (fun _ => ?_)
  ·intro y0 y1 y2 y3 y4 y5
   unfold tmesislaw10_SplitJoins.j5
   repeat' with_reducible first | exact ih0 _ _ _ _ _ _ | exact ih1 _ _ _ _ _ _ | exact ih2 _ _ _ _ _ _ _ | exact ih3 _ _ _ _ _ | exact ih4 _ _ _ _ _ _ _ | exact ih5 _ _ _ _ _ _ | exact ih6 _ _ _ _ _ _ | exact ih7 _ _ _ _ _ _ _ | exact ih8 _ _ _ _ _ _ | exact ih9 _ _ _ _ _ _ _ | exact split_Pieces.mono _ _ | exact tmesislaw10_bad.mono _ _ | exact tmesislaw10_shown.mono _ | exact tmesisref07_Alike.mono _ _ _ | exact tmesisref07_Same.mono _ _ _ | exact LeO.refl _ | exact LeO.none _ | refine LeO.ite ?_ ?_ | refine LeO.bind ?_ (fun _ => ?_)
  ·intro y0 y1 y2 y3 y4 y5
   unfold tmesislaw10_SplitJoins.l2
   repeat' with_reducible first | exact ih0 _ _ _ _ _ _ | exact ih1 _ _ _ _ _ _ | exact ih2 _ _ _ _ _ _ _ | exact ih3 _ _ _ _ _ | exact ih4 _ _ _ _ _ _ _ | exact ih5 _ _ _ _ _ _ | exact ih6 _ _ _ _ _ _ | exact ih7 _ _ _ _ _ _ _ | exact ih8 _ _ _ _ _ _ | exact ih9 _ _ _ _ _ _ _ | exact split_Pieces.mono _ _ | exact tmesislaw10_bad.mono _ _ | exact tmesislaw10_shown.mono _ | exact tmesisref07_Alike.mono _ _ _ | exact tmesisref07_Same.mono _ _ _ | exact LeO.refl _ | exact LeO.none _ | refine LeO.ite ?_ ?_ | refine LeO.bind ?_ (fun _ => ?_)
  ·intro y0 y1 y2 y3 y4 y5 y6
   unfold tmesislaw10_SplitJoins.j7
   repeat' with_reducible first | exact ih0 _ _ _ _ _ _ | exact ih1 _ _ _ _ _ _ | exact ih2 _ _ _ _ _ _ _ | exact ih3 _ _ _ _ _ | exact ih4 _ _ _ _ _ _ _ | exact ih5 _ _ _ _ _ _ | exact ih6 _ _ _ _ _ _ | exact ih7 _ _ _ _ _ _ _ | exact ih8 _ _ _ _ _ _ | exact ih9 _ _ _ _ _ _ _ | exact split_Pieces.mono _ _ | exact tmesislaw10_bad.mono _ _ | exact tmesislaw10_shown.mono _ | exact tmesisref07_Alike.mono _ _ _ | exact tmesisref07_Same.mono _ _ _ | exact LeO.refl _ | exact LeO.none _ | refine LeO.ite ?_ ?_ | refine LeO.bind ?_ (fun _ => ?_)
  ·intro y0 y1 y2 y3 y4 y5
   unfold tmesislaw10_SplitJoins.l3
   repeat' with_reducible first | exact ih0 _ _ _ _ _ _ | exact ih1 _ _ _ _ _ _ | exact ih2 _ _ _ _ _ _ _ | exact ih3 _ _ _ _ _ | exact ih4 _ _ _ _ _ _ _ | exact ih5 _ _ _ _ _ _ | exact ih6 _ _ _ _ _ _ | exact ih7 _ _ _ _ _ _ _ | exact ih8 _ _ _ _ _ _ | exact ih9 _ _ _ _ _ _ _ | exact split_Pieces.mono _ _ | exact tmesislaw10_bad.mono _ _ | exact tmesislaw10_shown.mono _ | exact tmesisref07_Alike.mono _ _ _ | exact tmesisref07_Same.mono _ _ _ | exact LeO.refl _ | exact LeO.none _ | refine LeO.ite ?_ ?_ | refine LeO.bind ?_ (fun _ => ?_)
  ·intro y0 y1 y2 y3 y4 y5 y6
   unfold tmesislaw10_SplitJoins.j9
   repeat' with_reducible first | exact ih0 _ _ _ _ _ _ | exact ih1 _ _ _ _ _ _ | exact ih2 _ _ _ _ _ _ _ | exact ih3 _ _ _ _ _ | exact ih4 _ _ _ _ _ _ _ | exact ih5 _ _ _ _ _ _ | exact ih6 _ _ _ _ _ _ | exact ih7 _ _ _ _ _ _ _ | exact ih8 _ _ _ _ _ _ | exact ih9 _ _ _ _ _ _ _ | exact split_Pieces.mono _ _ | exact tmesislaw10_bad.mono _ _ | exact tmesislaw10_shown.mono _ | exact tmesisref07_Alike.mono _ _ _ | exact tmesisref07_Same.mono _ _ _ | exact LeO.refl _ | exact LeO.none _ | refine LeO.ite ?_ ?_ | refine LeO.bind ?_ (fun _ => ?_)
theorem tmesislaw10_SplitJoins.mono : ∀ a0 a1 k, LeO (tmesislaw10_SplitJoins.f k a0 a1) (tmesislaw10_SplitJoins.f (k + 1) a0 a1) := by
 intro a0 a1 k
 obtain ⟨ih0, ih1, ih2, ih3, ih4, ih5, ih6, ih7, ih8, ih9⟩ := tmesislaw10_SplitJoins.mono_l k
 unfold tmesislaw10_SplitJoins.f
 repeat' with_reducible first | exact ih0 _ _ _ _ _ _ | exact ih1 _ _ _ _ _ _ | exact ih2 _ _ _ _ _ _ _ | exact ih3 _ _ _ _ _ | exact ih4 _ _ _ _ _ _ _ | exact ih5 _ _ _ _ _ _ | exact ih6 _ _ _ _ _ _ | exact ih7 _ _ _ _ _ _ _ | exact ih8 _ _ _ _ _ _ | exact ih9 _ _ _ _ _ _ _ | exact split_Pieces.mono _ _ | exact tmesislaw10_bad.mono _ _ | exact tmesislaw10_shown.mono _ | exact tmesisref07_Alike.mono _ _ _ | exact tmesisref07_Same.mono _ _ _ | exact LeO.refl _ | exact LeO.none _ | refine LeO.ite ?_ ?_ | refine LeO.bind ?_ (fun _ => ?_)
def tmesislaw10_SplitJoins.T8 : Bool × List (List Nat × List Nat) := (true, [([], []), ([], []), ([0, 1], [0, 1]), ([2], [2]), ([3], [3]), ([4], [4]), ([5], [5]), ([6], [6]), ([7], [7]), ([7], [7]), ([8, 9, 7], [7, 8, 9]), ([10, 7], [7, 10]), ([11, 7], [7, 11]), ([7], [7]), ([7], [7]), ([13, 14, 7], [7, 13, 14]), ([15, 7], [7, 15]), ([16, 7], [7, 16]), ([17, 7], [7, 17]), ([18, 7], [7, 18]), ([12, 19, 7], [7, 12, 19]), ([20, 7], [7, 20]), ([21, 7], [7, 21]), ([22, 7], [7, 22]), ([7, 23], [7, 23])])
def tmesislaw10_SplitJoins.B8 : List Nat := [0, 0, 3, 7, 15, 31, 63, 127, 255, 255, 1023, 2047, 4095, 255, 255, 24831, 57599, 123135, 254207, 516351, 1048575, 2097151, 4194303, 8388607, 16777215]
theorem tmesislaw10_SplitJoins.tab8 : rtab .any (opsOf Tryd.f7 8) = tmesislaw10_SplitJoins.T8 := by kernel_rfl
theorem tmesislaw10_SplitJoins.bits8 : waitsOk tmesislaw10_SplitJoins.T8.2 tmesislaw10_SplitJoins.B8 = true := by kernel_rfl
def tmesislaw10_SplitJoins.T26 : Bool × List (List Nat × List Nat) := (true, [([], []), ([], []), ([0, 1], [0, 1]), ([2], [2]), ([3], [3]), ([], []), ([], []), ([5, 6], [5, 6]), ([7], [7]), ([8], [8]), ([4, 9], [4, 9]), ([10], [10]), ([11, 10], [11]), ([12], [12]), ([12], [12]), ([13, 14, 12], [12, 13, 14]), ([15, 12], [12, 15]), ([16, 12], [12, 16]), ([12], [12]), ([12], [12]), ([18, 19, 12], [12, 18, 19]), ([20, 12], [12, 20]), ([21, 12], [12, 21]), ([17, 22, 12], [12, 17, 22]), ([12, 23], [12, 23]), ([24, 12], [24]), ([25], [25]), ([25], [25]), ([26, 27, 25], [25, 26, 27]), ([28, 25], [25, 28]), ([29, 25], [25, 29]), ([25], [25]), ([25], [25]), ([31, 32, 25], [25, 31, 32]), ([33, 25], [25, 33]), ([34, 25], [25, 34]), ([30, 35, 25], [25, 30, 35]), ([25, 36], [25, 36])])
def tmesislaw10_SplitJoins.B26 : List Nat := [0, 0, 3, 7, 15, 0, 0, 96, 224, 480, 1023, 2047, 4095, 8191, 8191, 32767, 65535, 131071, 8191, 8191, 794623, 1843199, 3940351, 8388607, 16777215, 33554431, 67108863, 67108863, 268435455, 536870911, 1073741823, 67108863, 67108863, 6509559807, 15099494399, 32279363583, 68719476735, 137438953471]
theorem tmesislaw10_SplitJoins.tab26 : rtab .any (opsOf Tryd.f7 26) = tmesislaw10_SplitJoins.T26 := by kernel_rfl
theorem tmesislaw10_SplitJoins.bits26 : waitsOk tmesislaw10_SplitJoins.T26.2 tmesislaw10_SplitJoins.B26 = true := by kernel_rfl
def tmesislaw10_SplitJoins.T32 : Bool × List (List Nat × List Nat) := (true, [([], []), ([0], [0]), ([], []), ([], []), ([2, 3], [2, 3]), ([4], [4]), ([5], [5]), ([], []), ([7], [7]), ([6, 8], [6, 8]), ([1, 9], [1, 9]), ([10], [10]), ([11], [11]), ([12, 11], [11, 12]), ([11], [11]), ([11], [11]), ([14, 15, 11], [11, 14, 15]), ([16, 11], [11, 16]), ([17, 11], [11, 17]), ([11], [11]), ([19, 11], [11, 19]), ([18, 20, 11], [11, 18, 20]), ([13, 21, 11], [11, 13, 21]), ([11, 22], [11, 22]), ([23, 11], [23]), ([24], [24]), ([25, 24], [24, 25]), ([24], [24]), ([24], [24]), ([27, 28, 24], [24, 27, 28]), ([29, 24], [24, 29]), ([30, 24], [24, 30]), ([24], [24]), ([31, 32, 24], [24, 31, 32]), ([26, 33, 24], [24, 26, 33]), ([24, 34], [24, 34]), ([35, 24], [35]), ([36], [36]), ([37, 36], [36, 37]), ([36], [36]), ([36], [36]), ([39, 40, 36], [36, 39, 40]), ([41, 36], [36, 41]), ([42, 36], [36, 42]), ([38, 43, 36, 36], [36, 38, 43]), ([44, 36], [36, 44]), ([45, 44, 36], [36, 45]), ([46], [46]), ([47, 46], [46, 47]), ([48, 46, 46], [46, 48]), ([49, 46], [46, 49]), ([46, 50, 36], [36, 46, 50]), ([36, 51], [36, 51])])
def tmesislaw10_SplitJoins.B32 : List Nat := [0, 1, 0, 0, 12, 28, 60, 0, 128, 508, 1023, 2047, 4095, 8191, 4095, 4095, 53247, 118783, 249855, 4095, 528383, 2084863, 4194303, 8388607, 16777215, 33554431, 67108863, 33554431, 33554431, 436207615, 973078527, 2046820351, 33554431, 8489271295, 17179869183, 34359738367, 68719476735, 137438953471, 274877906943, 137438953471, 137438953471, 1786706395135, 3985729650687, 8383776161791, 17592186044415, 35184372088831, 70368744177663, 140737488355327, 281474976710655, 562949953421311, 1125899906842623, 2251799813685247, 4503599627370495]
theorem tmesislaw10_SplitJoins.tab32 : rtab .any (opsOf Tryd.f7 32) = tmesislaw10_SplitJoins.T32 := by kernel_rfl
theorem tmesislaw10_SplitJoins.bits32 : waitsOk tmesislaw10_SplitJoins.T32.2 tmesislaw10_SplitJoins.B32 = true := by kernel_rfl
set_option maxHeartbeats 64000000 in
set_option maxRecDepth 100000 in
theorem tmesislaw10_SplitJoins.calls (k : Nat) (A0 : Option Addr) (c0 : Nat) (l0 : List Int) (A1 : Option Addr) (c1 : Nat) (l1 : List Int) (r : Bool) (w : World) (hG : Gl w) (hr0 : Kd.C (Kd.int .u8) w A0 l0.length l0) (hc0 : l0.length ≤ c0) (hr1 : Kd.C (Kd.int .u8) w A1 l1.length l1) (hc1 : l1.length ≤ c1) (h : tmesislaw10_SplitJoins.f k l0 l1 = some r) :
  Calls Tryd.prog 7 #[.slice A0 l0.length c0, .slice A1 l1.length c1] w fun e w' => e = .returned (.bool r) ∧ Below w.heap.size w w' := by
 have hu25 := Tryd.underlying25
 have HR0 := Aside0.mk hr0
 have HC0 := Aside0.mk hc0
 clear hr0 hc0
 have HR1 := Aside0.mk hr1
 have HC1 := Aside0.mk hc1
 clear hr1 hc1
 have HB := Aside0.mk (Below.refl w.heap.size w)
 have HG := Aside0.mk hG
 clear hG
 have H : ((tmesislaw10_shown.f k).bind fun t611 => ((tmesislaw10_few.f l0).bind fun t612 => ((split_Pieces.f k t612).bind fun t615 => (tmesislaw10_SplitJoins.l0 k l1 t611 t612 t615 0 0)))) = some r := h
 clear h
 obtain ⟨t611, A3, H⟩ := bE H
 obtain ⟨t612, A4, H⟩ := bE H
 obtain ⟨t615, A5, H⟩ := bE H
 have H' := Aside0.mk H
 clear H
 go_enter Tryd.func7, Tryd.ntmps7
 go_wp2_with (first | ((with_reducible refine gate_callee (f := 8) rfl ?_); refine gL (some 19) Tryd.func8 #[] rfl gA ?_; (with_reducible refine (tmesislaw10_shown.calls k  t611 _ ?side1 A3.out).mono ?_); (case side1 => exact Gl.below HG.out (bAt HB.out)); rintro e w6 ⟨rfl, hb⟩; refine ⟨_, rfl, ?_⟩; replace HB := Aside0.mk (below_step (bAt HB.out) hb); (try clear hb); (try clear hb2); (try clear hk); (try clear hi)) | ((with_reducible refine gate_callee (f := 14) rfl ?_); refine gL (some 21) Tryd.func14 #[.slice A0 l0.length c0] rfl gA ?_; (with_reducible refine (tmesislaw10_few.calls (fun k_ => k_ < w.heap.size) _ _ l0 t612 _ ?side1 A4.out).mono ?_); (case side1 => exact Kd.V_mk HC0.out (Kd.F_below (Kd.C_F (Kd.heap_int .u8) HR0.out) (bAt HB.out))); rintro e w7 ⟨v613, rfl, ho0, hb⟩; refine ⟨_, rfl, ?_⟩; have HO614 := Aside0.mk (Kd.V_lower (Kd.V_mono (ok' := fun k_ => True) ho0 (fun k_ hk_ => trivial)) (below_size (bAt HB.out))); replace HB := Aside0.mk (below_step (bAt HB.out) hb); (try clear hb); (try clear hb2); (try clear hk); (try clear hi); (try clear ho0); obtain ⟨Ao8, co8, eo8⟩ := Kd.V_slice HO614.out; subst eo8) | ((with_reducible refine gate_callee (f := 13) rfl ?_); refine gL (some 23) Tryd.func13 #[.slice Ao8 t612.length co8] rfl gA ?_; (with_reducible refine (split_Pieces.calls k _ _ t612 t615 _ ?side1 ?side2 ?side3 A5.out).mono ?_); (case side1 => exact Gl.below HG.out (bAt HB.out)); (case side2 => exact CAt ((Kd.V_reads' HO614.out).2.2)); (case side3 => exact (Kd.V_reads' HO614.out).2.1); rintro e w9 ⟨v616, rfl, ho0, hb⟩; refine ⟨_, rfl, ?_⟩; replace HO614 := Aside0.mk (Kd.V_elder' (VAt HO614.out) (Kd.N_base ho0) hb); have HO617 := Aside0.mk (Kd.N_lower (Kd.N_mono (ok' := fun k_ => True) ho0 (fun k_ hk_ => trivial)) (below_size (bAt HB.out))); replace HB := Aside0.mk (below_step (bAt HB.out) hb); (try clear hb); (try clear hb2); (try clear hk); (try clear hi); (try clear ho0)))
 go_loopg [8, 9] k (fun kq v8 v9 w' => ∃ (x8_1 : Int) (x9_1 : Int), v8 = .int .i64 x8_1 ∧ v9 = .int .i64 x9_1 ∧ Aside0 (tmesislaw10_SplitJoins.l0 kq l1 t611 t612 t615 x8_1 x9_1 = some r) ∧ Aside0 (kq ≤ k) ∧ Aside0 (Kd.V (Kd.int .u8) 5 w' w.heap.size (fun k_ => some k_ ≠ (v616 : Value).ownBlock) (.slice Ao8 t612.length co8) t612) ∧ Aside0 (Kd.N k25 25 w' w.heap.size (fun _ => True) v616 t615) ∧ Aside0 (Below w.heap.size w w'))
 case atStart => exact ⟨(0), (0), sR, sR, H', ⟨Nat.le_refl _⟩, ⟨VAt (Kd.V_mono HO614.out (fun _ hk => hk.2))⟩, ⟨NAt HO617.out⟩, ⟨bAt HB.out⟩⟩
 case round =>
  clear H'
  try clear c1
  try clear p2
  try clear c7
  try clear c8
  obtain ⟨x8_1, x9_1, rfl, rfl, HA, HK1, HO_6, HO_7, HB⟩ := hrel
  cases gk with
  | zero => exact absurd HA.out (by simp [tmesislaw10_SplitJoins.l0])
  | succ k1 =>
   have H := HA.out
   clear HA
   simp only [tmesislaw10_SplitJoins.l0] at H
   by_cases c10 : x9_1 < (t615.length : Int)
   ·rw [if_pos c10] at H
    have c10b0 := decide_eq_true c10
    clear c10
    have HC11 := Aside0.mk H
    clear H
    obtain ⟨Ao12, co12, eo12⟩ := Kd.N_slice HO_7.out
    subst eo12
    go_upto_block 1 with (fail)
    go_cut [8] (fun v8 wc => ∃ (kq : Nat) (x8_10 : Int), v8 = .int .i64 x8_10 ∧ Aside0 (tmesislaw10_SplitJoins.j2 kq l1 t611 t612 t615 x8_10 x9_1 = some r) ∧ Aside0 (kq ≤ k1) ∧ Aside0 (Kd.V (Kd.int .u8) 5 wc w.heap.size (fun k_ => some k_ ≠ ((.slice Ao12 t615.length co12) : Value).ownBlock) (.slice Ao8 t612.length co8) t612) ∧ Aside0 (Kd.N k25 25 wc w.heap.size (fun _ => True) (.slice Ao12 t615.length co12) t615) ∧ Aside0 (Below w.heap.size w wc))
    case first =>
     have H := HC11.out
     clear HC11
     have HC13 := Aside0.mk H
     clear H
     go_upto_region 8 with (fail)
     go_cut [54] (fun v54 wc => ∃ (kq : Nat) (x54_12 : Bool), v54 = .bool x54_12 ∧ Aside0 (tmesislaw10_SplitJoins.j1 kq l1 t611 t612 t615 x8_1 x9_1 x54_12 = some r) ∧ Aside0 (kq ≤ k1) ∧ Aside0 (Kd.V (Kd.int .u8) 5 wc w.heap.size (fun k_ => some k_ ≠ ((.slice Ao12 t615.length co12) : Value).ownBlock) (.slice Ao8 t612.length co8) t612) ∧ Aside0 (Kd.N k25 25 wc w.heap.size (fun _ => True) (.slice Ao12 t615.length co12) t615) ∧ Aside0 (Below w.heap.size w wc))
     case first =>
      have H := HC13.out
      clear HC13
      by_cases c14 : 0 ≤ x9_1
      ·rw [if_pos c14] at H
       have c14b0 := decide_eq_true c14
       clear c14
       (first | rw [c14b0] | (simp only [i64_w, i32_w]; rw [c14b0]) | skip)
       by_cases c15 : (((rd_T25 t615 x9_1).f3).length : Int) > 0
       ·rw [if_pos c15] at H
        have c15b0 : decide (0 < (((rd_T25 t615 x9_1).f3).length : Int)) = true := decide_eq_true c15
        have c15b1 : decide (0 < ((rd_T25 t615 x9_1).f3).length) = true := decide_eq_true (by omega)
        clear c15
        obtain ⟨ji16, hji16⟩ : ∃ j_ : Int, (wrap64 ((((rd_T25 t615 x9_1).f3).length : Int) - 1)) = j_ := ⟨_, rfl⟩
        replace H : (if 0 ≤ (ji16) then (if (ji16) < (((rd_T25 t615 x9_1).f3).length : Int) then (tmesislaw10_SplitJoins.j1 k1 l1 t611 t612 t615 x8_1 x9_1 (((rd_T38 ((rd_T25 t615 x9_1).f3) (ji16)).f0) == 7)) else (none)) else (none)) = some r := by first | (rw [hji16] at H; exact H) | (simp only [hji16] at H ⊢; exact H)
        have hji16w : (IntKind.i64.wrap ((((rd_T25 t615 x9_1).f3).length : Int) - 1)) = ji16 := (i64_w _).trans hji16
        by_cases c17 : 0 ≤ (ji16)
        ·rw [if_pos c17] at H
         have c17b0 := decide_eq_true c17
         clear c17
         by_cases c18 : (ji16) < (((rd_T25 t615 x9_1).f3).length : Int)
         ·rw [if_pos c18] at H
          have c18b0 := decide_eq_true c18
          clear c18
          as_aux_lemma =>
           have H' := Aside0.mk H
           clear H
           try go_wp2
           replace HO_6 := Aside0.mk (Kd.V_drew HO_6.out)
           replace HO_7 := Aside0.mk (Kd.N_drew HO_7.out)
           replace HB := Aside0.mk (below_drew1 HB.out)
           have p618 : 0 ≤ (x9_1 : Int) := dt
           have q618 : x9_1 < (t615.length : Int) := dt
           obtain ⟨ad618, A618_3, c618_3, e618, hx618_0, hx618_1, hx618_2, hx618_3, hl618_3, hi618_3⟩ := at_T25 (Kd.N_reads' HO_7.out).2.2 x9_1 p618 q618
           cases e618
           obtain ⟨ce618, hce618, hMe618, hcc618⟩ := Kd.N_get HO_7.out z25 x9_1 p618 (by first | exact q618 | exact dt | (have e_ := (Kd.N_reads' HO_7.out).1; omega))
           obtain ⟨ua618_3, uc618_3, rfl, ul618_3, ge618_3⟩ := k25_openF hMe618
           have hv618_3 := hcc618 3 _ rfl
           rw [add_field _ _ 3 (by omega)] at hv618_3
           replace hv618_3 := Option.some.inj (hv618_3.symm.trans hx618_3)
           injection hv618_3 with hva_ hvn_ hvc_
           rw [hva_] at ge618_3
           rw [hvc_] at ul618_3
           have HL618_3 := Aside0.mk (show Kd.V k38 38 _ w.heap.size _ _ ((rd_T25 t615 x9_1).f3) from Kd.V_mk ul618_3 ge618_3)
           clear hva_ hvn_ hvc_ ge618_3 ul618_3 hcc618 hce618
           have HR618_3 := Aside0.mk hi618_3
           have HC618_3 := Aside0.mk hl618_3
           clear hi618_3 hl618_3
           replace p618 := eq_true p618
           replace q618 := eq_true q618
           have p619 : 0 ≤ (x9_1 : Int) := dt
           have q619 : x9_1 < (t615.length : Int) := dt
           obtain ⟨ad619, A619_3, c619_3, e619, hx619_0, hx619_1, hx619_2, hx619_3, hl619_3, hi619_3⟩ := at_T25 (Kd.N_reads' HO_7.out).2.2 x9_1 p619 q619
           obtain rfl : ad618 = ad619 := (by injection e619)
           obtain ⟨ce619, hce619, hMe619, hcc619⟩ := Kd.N_get HO_7.out z25 x9_1 p619 (by first | exact q619 | exact dt | (have e_ := (Kd.N_reads' HO_7.out).1; omega))
           obtain ⟨ua619_3, uc619_3, rfl, ul619_3, ge619_3⟩ := k25_openF hMe619
           have hv619_3 := hcc619 3 _ rfl
           rw [add_field _ _ 3 (by omega)] at hv619_3
           replace hv619_3 := Option.some.inj (hv619_3.symm.trans hx619_3)
           injection hv619_3 with hva_ hvn_ hvc_
           rw [hva_] at ge619_3
           rw [hvc_] at ul619_3
           have HL619_3 := Aside0.mk (show Kd.V k38 38 _ w.heap.size _ _ ((rd_T25 t615 x9_1).f3) from Kd.V_mk ul619_3 ge619_3)
           clear hva_ hvn_ hvc_ ge619_3 ul619_3 hcc619 hce619
           have HR619_3 := Aside0.mk hi619_3
           have HC619_3 := Aside0.mk hl619_3
           clear hi619_3 hl619_3
           replace p619 := eq_true p619
           replace q619 := eq_true q619
           have ea_ := Option.some.inj (hx618_3.symm.trans hx619_3)
           injection ea_ with ea_ en_ ec_
           subst ea_
           subst ec_
           clear en_
           have p620 : 0 ≤ (x9_1 : Int) := dt
           have q620 : x9_1 < (t615.length : Int) := dt
           obtain ⟨ad620, A620_3, c620_3, e620, hx620_0, hx620_1, hx620_2, hx620_3, hl620_3, hi620_3⟩ := at_T25 (Kd.N_reads' HO_7.out).2.2 x9_1 p620 q620
           obtain rfl : ad618 = ad620 := (by injection e620)
           obtain ⟨ce620, hce620, hMe620, hcc620⟩ := Kd.N_get HO_7.out z25 x9_1 p620 (by first | exact q620 | exact dt | (have e_ := (Kd.N_reads' HO_7.out).1; omega))
           obtain ⟨ua620_3, uc620_3, rfl, ul620_3, ge620_3⟩ := k25_openF hMe620
           have hv620_3 := hcc620 3 _ rfl
           rw [add_field _ _ 3 (by omega)] at hv620_3
           replace hv620_3 := Option.some.inj (hv620_3.symm.trans hx620_3)
           injection hv620_3 with hva_ hvn_ hvc_
           rw [hva_] at ge620_3
           rw [hvc_] at ul620_3
           have HL620_3 := Aside0.mk (show Kd.V k38 38 _ w.heap.size _ _ ((rd_T25 t615 x9_1).f3) from Kd.V_mk ul620_3 ge620_3)
           clear hva_ hvn_ hvc_ ge620_3 ul620_3 hcc620 hce620
           have HR620_3 := Aside0.mk hi620_3
           have HC620_3 := Aside0.mk hl620_3
           clear hi620_3 hl620_3
           replace p620 := eq_true p620
           replace q620 := eq_true q620
           have ea_ := Option.some.inj (hx618_3.symm.trans hx620_3)
           injection ea_ with ea_ en_ ec_
           subst ea_
           subst ec_
           clear en_
           have p621 : 0 ≤ ((ji16) : Int) := dt
           have q621 : (ji16) < (((rd_T25 t615 x9_1).f3).length : Int) := dt
           obtain ⟨ad621, e621, hx621_0, hx621_1, hx621_2, hx621_3, hx621_4⟩ := at_T38 (CAt HR619_3.out) (ji16) p621 q621
           cases e621
           replace p621 := eq_true p621
           replace q621 := eq_true q621
           refine start_ (n := 25) (S := fun w' => w'.cell? (ad618.add ((x9_1).toNat * 4)) = some (.int .i64 ((rd_T25 t615 x9_1).f0)) ∧ w'.cell? ⟨(ad618.add ((x9_1).toNat * 4)).block, (ad618.add ((x9_1).toNat * 4)).off + 1, none⟩ = some (.int .i64 ((rd_T25 t615 x9_1).f1)) ∧ w'.cell? ⟨(ad618.add ((x9_1).toNat * 4)).block, (ad618.add ((x9_1).toNat * 4)).off + 2, none⟩ = some (.int .i64 ((rd_T25 t615 x9_1).f2)) ∧ w'.cell? ⟨(ad618.add ((x9_1).toNat * 4)).block, (ad618.add ((x9_1).toNat * 4)).off + 3, none⟩ = some (.slice (some ad621) ((rd_T25 t615 x9_1).f3).length c618_3) ∧ w'.cell? (ad618.add ((x9_1).toNat * 4)) = some (.int .i64 ((rd_T25 t615 x9_1).f0)) ∧ w'.cell? ⟨(ad618.add ((x9_1).toNat * 4)).block, (ad618.add ((x9_1).toNat * 4)).off + 1, none⟩ = some (.int .i64 ((rd_T25 t615 x9_1).f1)) ∧ w'.cell? ⟨(ad618.add ((x9_1).toNat * 4)).block, (ad618.add ((x9_1).toNat * 4)).off + 2, none⟩ = some (.int .i64 ((rd_T25 t615 x9_1).f2)) ∧ w'.cell? ⟨(ad618.add ((x9_1).toNat * 4)).block, (ad618.add ((x9_1).toNat * 4)).off + 3, none⟩ = some (.slice (some ad621) ((rd_T25 t615 x9_1).f3).length c618_3) ∧ w'.cell? (ad618.add ((x9_1).toNat * 4)) = some (.int .i64 ((rd_T25 t615 x9_1).f0)) ∧ w'.cell? ⟨(ad618.add ((x9_1).toNat * 4)).block, (ad618.add ((x9_1).toNat * 4)).off + 1, none⟩ = some (.int .i64 ((rd_T25 t615 x9_1).f1)) ∧ w'.cell? ⟨(ad618.add ((x9_1).toNat * 4)).block, (ad618.add ((x9_1).toNat * 4)).off + 2, none⟩ = some (.int .i64 ((rd_T25 t615 x9_1).f2)) ∧ w'.cell? ⟨(ad618.add ((x9_1).toNat * 4)).block, (ad618.add ((x9_1).toNat * 4)).off + 3, none⟩ = some (.slice (some ad621) ((rd_T25 t615 x9_1).f3).length c618_3) ∧ w'.cell? (ad621.add (((ji16)).toNat * 5)) = some (.int .i64 ((rd_T38 ((rd_T25 t615 x9_1).f3) (ji16)).f0)) ∧ w'.cell? ⟨(ad621.add (((ji16)).toNat * 5)).block, (ad621.add (((ji16)).toNat * 5)).off + 1, none⟩ = some (.int .i64 ((rd_T38 ((rd_T25 t615 x9_1).f3) (ji16)).f1)) ∧ w'.cell? ⟨(ad621.add (((ji16)).toNat * 5)).block, (ad621.add (((ji16)).toNat * 5)).off + 2, none⟩ = some (.int .i64 ((rd_T38 ((rd_T25 t615 x9_1).f3) (ji16)).f2)) ∧ w'.cell? ⟨(ad621.add (((ji16)).toNat * 5)).block, (ad621.add (((ji16)).toNat * 5)).off + 3, none⟩ = some (.string ((rd_T38 ((rd_T25 t615 x9_1).f3) (ji16)).f3)) ∧ w'.cell? ⟨(ad621.add (((ji16)).toNat * 5)).block, (ad621.add (((ji16)).toNat * 5)).off + 4, none⟩ = some (.int .i64 ((rd_T38 ((rd_T25 t615 x9_1).f3) (ji16)).f4))) (ds := []) (bm 25 0) (by kernel_rfl) rfl rfl ⟨hx618_0, hx618_1, hx618_2, hx618_3, hx619_0, hx619_1, hx619_2, hx619_3, hx620_0, hx620_1, hx620_2, hx620_3, hx621_0, hx621_1, hx621_2, hx621_3, hx621_4⟩ (fun hHeld => ?_); refine with_tabW tmesislaw10_SplitJoins.tab8 tmesislaw10_SplitJoins.bits8 (fun HT_ HW_ => ?_)
           generalize wr.drew = w19 at HO_6 HO_7 HB HL618_3 HL619_3 HL620_3 HR618_3 HR619_3 HR620_3 hx618_0 hx618_1 hx618_2 hx618_3 hx619_0 hx619_1 hx619_2 hx619_3 hx620_0 hx620_1 hx620_2 hx620_3 hx621_0 hx621_1 hx621_2 hx621_3 hx621_4 hHeld ⊢
           refine pv_ 0 (some 30) (bm 25 1) HT_.out ?_
           refine pv_ 1 (some 31) (bm 25 3) HT_.out ?_
           refine pv_ 2 (some 32) (bm 25 7) HT_.out ?_
           refine pv_ 3 (some 33) (bm 25 15) HT_.out ?_
           refine tk_ 4 (some 34) (bm 25 31) HT_.out HW_.out hHeld ?_
           refine pv_ 5 (some 35) (bm 25 63) HT_.out ?_
           refine pv_ 6 (some 36) (bm 25 127) HT_.out ?_
           refine pv_ 7 (some 37) (bm 25 255) HT_.out ?_
           refine pv_ 8 (some 38) (bm 25 511) HT_.out ?_
           refine pv_ 9 (some 39) (bm 25 1023) HT_.out ?_
           refine pv_ 10 (some 40) (bm 25 2047) HT_.out ?_
           refine pv_ 11 (some 41) (bm 25 4095) HT_.out ?_
           refine pv_ 13 (some 43) (bm 25 12287) HT_.out ?_
           refine pv_ 14 (some 44) (bm 25 28671) HT_.out ?_
           refine pv_ 15 (some 45) (bm 25 61439) HT_.out ?_
           refine pv_ 16 (some 46) (bm 25 126975) HT_.out ?_
           refine tk_ 12 (some 42) (bm 25 131071) HT_.out HW_.out hHeld ?_
           refine tk_ 17 (some 47) (bm 25 262143) HT_.out HW_.out hHeld ?_
           refine pv_ 18 (some 48) (bm 25 524287) HT_.out ?_
           refine pv_ 19 (some 49) (bm 25 1048575) HT_.out ?_
           refine pv_ 20 (some 50) (bm 25 2097151) HT_.out ?_
           refine pv_ 21 (some 51) (bm 25 4194303) HT_.out ?_
           refine tk_ 22 (some 52) (bm 25 8388607) HT_.out HW_.out hHeld ?_
           refine pv_ 23 (some 53) (bm 25 16777215) HT_.out ?_
           refine pv_ 24 (some 54) (bm 25 33554431) HT_.out ?_
           refine done_ (done_of HT_.out (by kernel_rfl)) ?_
           try go_wp2
           go_meet
           case rel => exact ⟨_, ((((rd_T38 ((rd_T25 t615 x9_1).f3) (ji16)).f0) == 7)), (by first | rfl | (simp; done) | (simp only [← hji16] <;> (first | rfl | simp)) | (simp [*]; done)), H', ⟨by have := HK1.out; first | omega | exact Nat.le_refl _⟩, ⟨VAt HO_6.out⟩, ⟨NAt HO_7.out⟩, ⟨bAt HB.out⟩⟩
         · exact nB H c18
        · exact nB H c17
       ·rw [if_neg c15] at H
        have c15b0 : decide (0 < (((rd_T25 t615 x9_1).f3).length : Int)) = false := decide_eq_false c15
        have c15b1 : decide (0 < ((rd_T25 t615 x9_1).f3).length) = false := decide_eq_false (by omega)
        clear c15
        as_aux_lemma =>
         have H' := Aside0.mk H
         clear H
         try go_wp2
         replace HO_6 := Aside0.mk (Kd.V_drew HO_6.out)
         replace HO_7 := Aside0.mk (Kd.N_drew HO_7.out)
         replace HB := Aside0.mk (below_drew1 HB.out)
         have p618 : 0 ≤ (x9_1 : Int) := dt
         have q618 : x9_1 < (t615.length : Int) := dt
         obtain ⟨ad618, A618_3, c618_3, e618, hx618_0, hx618_1, hx618_2, hx618_3, hl618_3, hi618_3⟩ := at_T25 (Kd.N_reads' HO_7.out).2.2 x9_1 p618 q618
         cases e618
         obtain ⟨ce618, hce618, hMe618, hcc618⟩ := Kd.N_get HO_7.out z25 x9_1 p618 (by first | exact q618 | exact dt | (have e_ := (Kd.N_reads' HO_7.out).1; omega))
         obtain ⟨ua618_3, uc618_3, rfl, ul618_3, ge618_3⟩ := k25_openF hMe618
         have hv618_3 := hcc618 3 _ rfl
         rw [add_field _ _ 3 (by omega)] at hv618_3
         replace hv618_3 := Option.some.inj (hv618_3.symm.trans hx618_3)
         injection hv618_3 with hva_ hvn_ hvc_
         rw [hva_] at ge618_3
         rw [hvc_] at ul618_3
         have HL618_3 := Aside0.mk (show Kd.V k38 38 _ w.heap.size _ _ ((rd_T25 t615 x9_1).f3) from Kd.V_mk ul618_3 ge618_3)
         clear hva_ hvn_ hvc_ ge618_3 ul618_3 hcc618 hce618
         have HR618_3 := Aside0.mk hi618_3
         have HC618_3 := Aside0.mk hl618_3
         clear hi618_3 hl618_3
         replace p618 := eq_true p618
         replace q618 := eq_true q618
         refine start_ (n := 25) (S := fun w' => w'.cell? (ad618.add ((x9_1).toNat * 4)) = some (.int .i64 ((rd_T25 t615 x9_1).f0)) ∧ w'.cell? ⟨(ad618.add ((x9_1).toNat * 4)).block, (ad618.add ((x9_1).toNat * 4)).off + 1, none⟩ = some (.int .i64 ((rd_T25 t615 x9_1).f1)) ∧ w'.cell? ⟨(ad618.add ((x9_1).toNat * 4)).block, (ad618.add ((x9_1).toNat * 4)).off + 2, none⟩ = some (.int .i64 ((rd_T25 t615 x9_1).f2)) ∧ w'.cell? ⟨(ad618.add ((x9_1).toNat * 4)).block, (ad618.add ((x9_1).toNat * 4)).off + 3, none⟩ = some (.slice A618_3 ((rd_T25 t615 x9_1).f3).length c618_3)) (ds := []) (bm 25 0) (by kernel_rfl) rfl rfl ⟨hx618_0, hx618_1, hx618_2, hx618_3⟩ (fun hHeld => ?_); refine with_tabW tmesislaw10_SplitJoins.tab8 tmesislaw10_SplitJoins.bits8 (fun HT_ HW_ => ?_)
         generalize wr.drew = w20 at HO_6 HO_7 HB HL618_3 HR618_3 hx618_0 hx618_1 hx618_2 hx618_3 hHeld ⊢
         refine pv_ 0 (some 30) (bm 25 1) HT_.out ?_
         refine pv_ 1 (some 31) (bm 25 3) HT_.out ?_
         refine pv_ 2 (some 32) (bm 25 7) HT_.out ?_
         refine pv_ 3 (some 33) (bm 25 15) HT_.out ?_
         refine tk_ 4 (some 34) (bm 25 31) HT_.out HW_.out hHeld ?_
         refine pv_ 5 (some 35) (bm 25 63) HT_.out ?_
         refine pv_ 6 (some 36) (bm 25 127) HT_.out ?_
         refine pv_ 7 (some 37) (bm 25 255) HT_.out ?_
         refine pu_ 8 (some 38) (bm 25 511) HT_.out ?_
         refine pu_ 9 (some 39) (bm 25 1023) HT_.out ?_
         refine pu_ 10 (some 40) (bm 25 2047) HT_.out ?_
         refine pu_ 11 (some 41) (bm 25 4095) HT_.out ?_
         refine pu_ 12 (some 42) (bm 25 8191) HT_.out ?_
         refine pu_ 13 (some 43) (bm 25 16383) HT_.out ?_
         refine pu_ 14 (some 44) (bm 25 32767) HT_.out ?_
         refine pu_ 15 (some 45) (bm 25 65535) HT_.out ?_
         refine pu_ 16 (some 46) (bm 25 131071) HT_.out ?_
         refine pu_ 17 (some 47) (bm 25 262143) HT_.out ?_
         refine pu_ 18 (some 48) (bm 25 524287) HT_.out ?_
         refine pu_ 19 (some 49) (bm 25 1048575) HT_.out ?_
         refine pu_ 20 (some 50) (bm 25 2097151) HT_.out ?_
         refine pu_ 21 (some 51) (bm 25 4194303) HT_.out ?_
         refine pu_ 22 (some 52) (bm 25 8388607) HT_.out ?_
         refine pu_ 23 (some 53) (bm 25 16777215) HT_.out ?_
         refine pv_ 24 (some 54) (bm 25 33554431) HT_.out ?_
         refine done_ (done_of HT_.out (by kernel_rfl)) ?_
         try go_wp2
         go_meet
         case rel => exact ⟨_, (false), sR, H', ⟨by have := HK1.out; first | omega | exact Nat.le_refl _⟩, ⟨VAt HO_6.out⟩, ⟨NAt HO_7.out⟩, ⟨bAt HB.out⟩⟩
      · exact nB H c14
     case rest =>
       as_aux_lemma =>
        clear HC13
        try clear c1
        try clear p2
        try clear c6
        try clear p6
        try clear q6
        try clear hx6
        try clear c7
        try clear c8
        try clear c10
        try clear c10b0
        try clear c13
        try clear c14
        try clear c14b0
        try clear c15
        try clear c15b0 c15b1
        try clear c17
        try clear c17b0
        try clear c18
        try clear c18b0
        try clear hx618_0
        try clear hx618_1
        try clear hx618_2
        try clear hx618_3
        try clear hx619_0
        try clear hx619_1
        try clear hx619_2
        try clear hx619_3
        try clear hx620_0
        try clear hx620_1
        try clear hx620_2
        try clear hx620_3
        try clear hx621_0
        try clear hx621_1
        try clear hx621_2
        try clear hx621_3
        try clear hx621_4
        try clear p2
        try clear p618
        try clear p619
        try clear p620
        try clear p621
        try clear q618
        try clear q619
        try clear q620
        try clear q621
        obtain ⟨kq, x54_12, rfl, HA, HJ12, HO_6, HO_7, HB⟩ := hcut
        cases kq with
        | zero => exact absurd HA.out (by simp [tmesislaw10_SplitJoins.j1])
        | succ kj12 =>
         have H := HA.out
         clear HA
         simp only [tmesislaw10_SplitJoins.j1] at H
         by_cases c21 : x54_12 = true
         ·subst c21
          replace H := tP H
          by_cases c22 : 0 ≤ x9_1
          ·rw [if_pos c22] at H
           have c22b0 := decide_eq_true c22
           clear c22
           by_cases c23 : x9_1 < (t615.length : Int)
           ·rw [if_pos c23] at H
            have c23b0 := decide_eq_true c23
            clear c23
            as_aux_lemma =>
             have H' := Aside0.mk H
             clear H
             have p622 : 0 ≤ (x9_1 : Int) := dt
             have q622 : x9_1 < (t615.length : Int) := dt
             obtain ⟨ad622, A622_3, c622_3, e622, hx622_0, hx622_1, hx622_2, hx622_3, hl622_3, hi622_3⟩ := at_T25 (Kd.N_reads' HO_7.out).2.2 x9_1 p622 q622
             cases e622
             obtain ⟨ce622, hce622, hMe622, hcc622⟩ := Kd.N_get HO_7.out z25 x9_1 p622 (by first | exact q622 | exact dt | (have e_ := (Kd.N_reads' HO_7.out).1; omega))
             obtain ⟨ua622_3, uc622_3, rfl, ul622_3, ge622_3⟩ := k25_openF hMe622
             have hv622_3 := hcc622 3 _ rfl
             rw [add_field _ _ 3 (by omega)] at hv622_3
             replace hv622_3 := Option.some.inj (hv622_3.symm.trans hx622_3)
             injection hv622_3 with hva_ hvn_ hvc_
             rw [hva_] at ge622_3
             rw [hvc_] at ul622_3
             have HL622_3 := Aside0.mk (show Kd.V k38 38 _ w.heap.size _ _ ((rd_T25 t615 x9_1).f3) from Kd.V_mk ul622_3 ge622_3)
             clear hva_ hvn_ hvc_ ge622_3 ul622_3 hcc622 hce622
             have HR622_3 := Aside0.mk hi622_3
             have HC622_3 := Aside0.mk hl622_3
             clear hi622_3 hl622_3
             replace p622 := eq_true p622
             replace q622 := eq_true q622
             go_wp2
             go_meet
             case rel => exact ⟨_, ((rd_T25 t615 x9_1).f1), sR, H', ⟨by have := HK1.out; have := HJ12.out; first | omega | exact Nat.le_refl _⟩, ⟨VAt HO_6.out⟩, ⟨NAt HO_7.out⟩, ⟨bAt HB.out⟩⟩
           · exact nB H c23
          · exact nB H c22
         ·replace c21 := Bool.eq_false_iff.mpr c21
          subst c21
          replace H := fP H
          as_aux_lemma =>
           have H' := Aside0.mk H
           clear H
           go_wp2
           go_meet
           case rel => exact ⟨_, (x8_1), sR, H', ⟨by have := HK1.out; have := HJ12.out; first | omega | exact Nat.le_refl _⟩, ⟨VAt HO_6.out⟩, ⟨NAt HO_7.out⟩, ⟨bAt HB.out⟩⟩
    case rest =>
      as_aux_lemma =>
       clear HC11
       try clear c1
       try clear c2
       try clear p2
       try clear c6
       try clear p6
       try clear q6
       try clear hx6
       try clear c7
       try clear c8
       try clear c10
       try clear c10b0
       try clear c13
       try clear c14
       try clear c14b0
       try clear c15
       try clear c15b0 c15b1
       try clear c17
       try clear c17b0
       try clear c18
       try clear c18b0
       try clear c21
       try clear c22
       try clear c22b0
       try clear c23
       try clear c23b0
       try clear hx618_0
       try clear hx618_1
       try clear hx618_2
       try clear hx618_3
       try clear hx619_0
       try clear hx619_1
       try clear hx619_2
       try clear hx619_3
       try clear hx620_0
       try clear hx620_1
       try clear hx620_2
       try clear hx620_3
       try clear hx621_0
       try clear hx621_1
       try clear hx621_2
       try clear hx621_3
       try clear hx621_4
       try clear hx622_0
       try clear hx622_1
       try clear hx622_2
       try clear hx622_3
       try clear p2
       try clear p6
       try clear p618
       try clear p619
       try clear p620
       try clear p621
       try clear p622
       try clear q6
       try clear q618
       try clear q619
       try clear q620
       try clear q621
       try clear q622
       obtain ⟨kq, x8_10, rfl, HA, HJ10, HO_6, HO_7, HB⟩ := hcut
       cases kq with
       | zero => exact absurd HA.out (by simp [tmesislaw10_SplitJoins.j2])
       | succ kj10 =>
        have H := HA.out
        clear HA
        simp only [tmesislaw10_SplitJoins.j2] at H
        as_aux_lemma =>
         have H' := Aside0.mk H
         clear H
         go_wp2
         go_roundg kj10
         case measure => have := HK1.out; have := HJ10.out; omega
         case rel => exact ⟨(x8_10), (wrap64 (x9_1 + 1)), sR, sR, H', ⟨by have := HK1.out; have := HJ10.out; omega⟩, ⟨VAt HO_6.out⟩, ⟨NAt HO_7.out⟩, ⟨bAt HB.out⟩⟩
   ·rw [if_neg c10] at H
    have c10b0 := decide_eq_false c10
    clear c10
    have HC24 := Aside0.mk H
    clear H
    obtain ⟨Ao25, co25, eo25⟩ := Kd.N_slice HO_7.out
    subst eo25
    go_upto_region 10 with (fail)
    go_cut [67] (fun v67 wc => ∃ (kq : Nat) (x67_23 : Bool), v67 = .bool x67_23 ∧ Aside0 (tmesislaw10_SplitJoins.j3 kq l1 t611 t612 x8_1 x67_23 = some r) ∧ Aside0 (kq ≤ k1) ∧ Aside0 (Kd.V (Kd.int .u8) 5 wc w.heap.size (fun _ => True) (.slice Ao8 t612.length co8) t612) ∧ Aside0 (Below w.heap.size w wc))
    case first =>
     have H := HC24.out
     clear HC24
     by_cases c26 : x8_1 < 0
     ·rw [if_pos c26] at H
      have c26b0 := decide_eq_true c26
      clear c26
      (first | rw [c26b0] | (simp only [i64_w, i32_w]; rw [c26b0]) | skip)
      as_aux_lemma =>
       have H' := Aside0.mk H
       clear H
       go_wp2
       go_meet
       case rel => exact ⟨_, (true), sR, H', ⟨by have := HK1.out; first | omega | exact Nat.le_refl _⟩, ⟨VAt (Kd.V_mono HO_6.out (fun _ hk => trivial))⟩, ⟨bAt HB.out⟩⟩
     ·rw [if_neg c26] at H
      have c26b0 := decide_eq_false c26
      clear c26
      (first | rw [c26b0] | (simp only [i64_w, i32_w]; rw [c26b0]) | skip)
      as_aux_lemma =>
       have H' := Aside0.mk H
       clear H
       go_wp2
       go_meet
       case rel => exact ⟨_, (decide (x8_1 > (t612.length : Int))), sR, H', ⟨by have := HK1.out; first | omega | exact Nat.le_refl _⟩, ⟨VAt (Kd.V_mono HO_6.out (fun _ hk => trivial))⟩, ⟨bAt HB.out⟩⟩
    case rest =>
      as_aux_lemma =>
       clear HC24
       try clear c1
       try clear c2
       try clear p2
       try clear c6
       try clear p6
       try clear q6
       try clear hx6
       try clear c7
       try clear c8
       try clear c10
       try clear c10b0
       try clear c13
       try clear c14
       try clear c14b0
       try clear c15
       try clear c15b0 c15b1
       try clear c17
       try clear c17b0
       try clear c18
       try clear c18b0
       try clear c21
       try clear c22
       try clear c22b0
       try clear c23
       try clear c23b0
       try clear c26
       try clear c26b0
       try clear hx618_0
       try clear hx618_1
       try clear hx618_2
       try clear hx618_3
       try clear hx619_0
       try clear hx619_1
       try clear hx619_2
       try clear hx619_3
       try clear hx620_0
       try clear hx620_1
       try clear hx620_2
       try clear hx620_3
       try clear hx621_0
       try clear hx621_1
       try clear hx621_2
       try clear hx621_3
       try clear hx621_4
       try clear hx622_0
       try clear hx622_1
       try clear hx622_2
       try clear hx622_3
       try clear p2
       try clear p6
       try clear p618
       try clear p619
       try clear p620
       try clear p621
       try clear p622
       try clear q6
       try clear q618
       try clear q619
       try clear q620
       try clear q621
       try clear q622
       obtain ⟨kq, x67_23, rfl, HA, HJ23, HO_6, HB⟩ := hcut
       cases kq with
       | zero => exact absurd HA.out (by simp [tmesislaw10_SplitJoins.j3])
       | succ kj23 =>
        have H := HA.out
        clear HA
        simp only [tmesislaw10_SplitJoins.j3] at H
        by_cases c27 : x67_23 = true
        ·subst c27
         replace H := tP H
         as_aux_lemma =>
          obtain rfl := Option.some.inj H
          go_wp2
          go_ret
          exact ⟨eR, bAt HB.out⟩
        ·replace c27 := Bool.eq_false_iff.mpr c27
         subst c27
         replace H := fP H
         obtain ⟨y623, hy623⟩ : ∃ y_ : List Int, y_ = (([] : List Int)) := ⟨_, rfl⟩
         replace H : (if 0 ≤ x8_1 then (if x8_1 ≤ (t612.length : Int) then ((some (t612.take (x8_1 : Int).toNat : List Int)).bind fun y626 => (if y623.length + y626.length < 140737488355328 then ((some (y623 ++ y626 : List Int)).bind fun y631 => (if y631.length < 140737488355328 then ((some (y631 ++ [10] : List Int)).bind fun y634 => ((split_Pieces.f kj23 y634).bind fun t637 => ((tmesislaw10_few.f l1).bind fun t640 => ((split_Pieces.f kj23 t640).bind fun t643 => ((some (([] : List Int) : List Int)).bind fun y646 => (if y646.length + y634.length < 140737488355328 then ((some (y646 ++ y634 : List Int)).bind fun y649 => ((tmesislaw10_few.f l1).bind fun t652 => (if y649.length + t652.length < 140737488355328 then ((split_Pieces.f kj23 (y649 ++ t652)).bind fun t658 => (tmesislaw10_SplitJoins.l1 kj23 t611 y634 t637 t643 t658 0 0)) else (none)))) else (none))))))) else (none))) else (none))) else (none)) else (none)) = some r := by first | (rw [hy623]; with_reducible exact H) | (have H2_ := (Option.bind_some _ _).symm.trans H; rw [hy623]; with_reducible exact H2_) | (have H2_ := (Option.bind_some _ _).symm.trans H; with_reducible exact H2_) | with_reducible exact H | (rw [hy623]; exact H) | exact H
         have Ny623 := Aside0.mk hy623
         clear hy623
         by_cases c28 : 0 ≤ x8_1
         ·rw [if_pos c28] at H
          have c28b0 := eq_true c28
          have c28b1 := decide_eq_true c28
          clear c28
          by_cases c29 : x8_1 ≤ (t612.length : Int)
          ·rw [if_pos c29] at H
           have c29b0 := eq_true c29
           have c29b1 := decide_eq_true c29
           clear c29
           obtain ⟨y626, hy626⟩ : ∃ y_ : List Int, y_ = (t612.take (x8_1 : Int).toNat) := ⟨_, rfl⟩
           replace H : (if y623.length + y626.length < 140737488355328 then ((some (y623 ++ y626 : List Int)).bind fun y631 => (if y631.length < 140737488355328 then ((some (y631 ++ [10] : List Int)).bind fun y634 => ((split_Pieces.f kj23 y634).bind fun t637 => ((tmesislaw10_few.f l1).bind fun t640 => ((split_Pieces.f kj23 t640).bind fun t643 => ((some (([] : List Int) : List Int)).bind fun y646 => (if y646.length + y634.length < 140737488355328 then ((some (y646 ++ y634 : List Int)).bind fun y649 => ((tmesislaw10_few.f l1).bind fun t652 => (if y649.length + t652.length < 140737488355328 then ((split_Pieces.f kj23 (y649 ++ t652)).bind fun t658 => (tmesislaw10_SplitJoins.l1 kj23 t611 y634 t637 t643 t658 0 0)) else (none)))) else (none))))))) else (none))) else (none)) = some r := by first | (rw [hy626]; with_reducible exact H) | (have H2_ := (Option.bind_some _ _).symm.trans H; rw [hy626]; with_reducible exact H2_) | (have H2_ := (Option.bind_some _ _).symm.trans H; with_reducible exact H2_) | with_reducible exact H | (rw [hy626]; exact H) | exact H
           have Ny626 := Aside0.mk hy626
           clear hy626
           by_cases c30 : y623.length + y626.length < 140737488355328
           ·rw [if_pos c30] at H
            have LMc30 := Aside0.mk c30
            clear c30
            obtain ⟨y631, hy631⟩ : ∃ y_ : List Int, y_ = (y623 ++ y626) := ⟨_, rfl⟩
            replace H : (if y631.length < 140737488355328 then ((some (y631 ++ [10] : List Int)).bind fun y634 => ((split_Pieces.f kj23 y634).bind fun t637 => ((tmesislaw10_few.f l1).bind fun t640 => ((split_Pieces.f kj23 t640).bind fun t643 => ((some (([] : List Int) : List Int)).bind fun y646 => (if y646.length + y634.length < 140737488355328 then ((some (y646 ++ y634 : List Int)).bind fun y649 => ((tmesislaw10_few.f l1).bind fun t652 => (if y649.length + t652.length < 140737488355328 then ((split_Pieces.f kj23 (y649 ++ t652)).bind fun t658 => (tmesislaw10_SplitJoins.l1 kj23 t611 y634 t637 t643 t658 0 0)) else (none)))) else (none))))))) else (none)) = some r := by first | (rw [hy631]; with_reducible exact H) | (have H2_ := (Option.bind_some _ _).symm.trans H; rw [hy631]; with_reducible exact H2_) | (have H2_ := (Option.bind_some _ _).symm.trans H; with_reducible exact H2_) | with_reducible exact H | (rw [hy631]; exact H) | exact H
            have Ny631 := Aside0.mk hy631
            clear hy631
            by_cases c31 : y631.length < 140737488355328
            ·rw [if_pos c31] at H
             have LMc31 := Aside0.mk c31
             clear c31
             obtain ⟨y634, hy634⟩ : ∃ y_ : List Int, y_ = (y631 ++ [10]) := ⟨_, rfl⟩
             replace H : ((split_Pieces.f kj23 y634).bind fun t637 => ((tmesislaw10_few.f l1).bind fun t640 => ((split_Pieces.f kj23 t640).bind fun t643 => ((some (([] : List Int) : List Int)).bind fun y646 => (if y646.length + y634.length < 140737488355328 then ((some (y646 ++ y634 : List Int)).bind fun y649 => ((tmesislaw10_few.f l1).bind fun t652 => (if y649.length + t652.length < 140737488355328 then ((split_Pieces.f kj23 (y649 ++ t652)).bind fun t658 => (tmesislaw10_SplitJoins.l1 kj23 t611 y634 t637 t643 t658 0 0)) else (none)))) else (none)))))) = some r := by first | (rw [hy634]; with_reducible exact H) | (have H2_ := (Option.bind_some _ _).symm.trans H; rw [hy634]; with_reducible exact H2_) | (have H2_ := (Option.bind_some _ _).symm.trans H; with_reducible exact H2_) | with_reducible exact H | (rw [hy634]; exact H) | exact H
             have Ny634 := Aside0.mk hy634
             clear hy634
             obtain ⟨t637, A32, H⟩ := bE H
             obtain ⟨t640, A33, H⟩ := bE H
             obtain ⟨t643, A34, H⟩ := bE H
             obtain ⟨y646, hy646⟩ : ∃ y_ : List Int, y_ = (([] : List Int)) := ⟨_, rfl⟩
             replace H : (if y646.length + y634.length < 140737488355328 then ((some (y646 ++ y634 : List Int)).bind fun y649 => ((tmesislaw10_few.f l1).bind fun t652 => (if y649.length + t652.length < 140737488355328 then ((split_Pieces.f kj23 (y649 ++ t652)).bind fun t658 => (tmesislaw10_SplitJoins.l1 kj23 t611 y634 t637 t643 t658 0 0)) else (none)))) else (none)) = some r := by first | (rw [hy646]; with_reducible exact H) | (have H2_ := (Option.bind_some _ _).symm.trans H; rw [hy646]; with_reducible exact H2_) | (have H2_ := (Option.bind_some _ _).symm.trans H; with_reducible exact H2_) | with_reducible exact H | (rw [hy646]; exact H) | exact H
             have Ny646 := Aside0.mk hy646
             clear hy646
             by_cases c35 : y646.length + y634.length < 140737488355328
             ·rw [if_pos c35] at H
              have LMc35 := Aside0.mk c35
              clear c35
              obtain ⟨y649, hy649⟩ : ∃ y_ : List Int, y_ = (y646 ++ y634) := ⟨_, rfl⟩
              replace H : ((tmesislaw10_few.f l1).bind fun t652 => (if y649.length + t652.length < 140737488355328 then ((split_Pieces.f kj23 (y649 ++ t652)).bind fun t658 => (tmesislaw10_SplitJoins.l1 kj23 t611 y634 t637 t643 t658 0 0)) else (none))) = some r := by first | (rw [hy649]; with_reducible exact H) | (have H2_ := (Option.bind_some _ _).symm.trans H; rw [hy649]; with_reducible exact H2_) | (have H2_ := (Option.bind_some _ _).symm.trans H; with_reducible exact H2_) | with_reducible exact H | (rw [hy649]; exact H) | exact H
              have Ny649 := Aside0.mk hy649
              clear hy649
              obtain ⟨t652, A36, H⟩ := bE H
              by_cases c37 : y649.length + t652.length < 140737488355328
              ·rw [if_pos c37] at H
               have LMc37 := Aside0.mk c37
               clear c37
               obtain ⟨y655, hy655⟩ : ∃ y_ : List Int, y_ = (y649 ++ t652) := ⟨_, rfl⟩
               replace H : ((split_Pieces.f kj23 y655).bind fun t658 => (tmesislaw10_SplitJoins.l1 kj23 t611 y634 t637 t643 t658 0 0)) = some r := by first | (rw [hy655]; with_reducible exact H) | (have H2_ := (Option.bind_some _ _).symm.trans H; rw [hy655]; with_reducible exact H2_) | (have H2_ := (Option.bind_some _ _).symm.trans H; with_reducible exact H2_) | with_reducible exact H | (rw [hy655]; exact H) | exact H
               have Ny655 := Aside0.mk hy655
               clear hy655
               obtain ⟨t658, A38, H⟩ := bE H
               have H' := Aside0.mk H
               clear H
               go_wp2_with (first | ((with_reducible refine gate_dst (N := 68) rfl ?_); (try (refine gate_guard (by rfl) ?_; dsimp only)); refine Kd.R_lit (Kd.int .u8) _ 5 ?hg (N := 68) ?hd (xs := ([] : List Int)) (inner := []) (ok := fun _ => True) (okp := fun _ => True) ?hr ?hp (fun _ hk => hk) trivial (Below.refl _ _) (Nat.le_refl _) (by simp) ?_; (case hd => rfl); (case hg => rfl); (case hr => first | (go_simp; done) | (go_simp; rfl)); (case hp => exact (Reps.none _ _)); intro v624 w39 ho40 hb hg_ hnew_; clear hg_ hnew_; (first | rw [← Ny623.out] at ho40 | (simp only [Int.reduceToNat] at ho40; rw [← Ny623.out] at ho40)); replace HO_6 := Aside0.mk (Kd.V_elder' (VAt HO_6.out) (Kd.R_base ho40) hb); have HO625 := Aside0.mk (Kd.R_lower ho40 (below_size (bAt HB.out))); replace HB := Aside0.mk (below_step (bAt HB.out) hb); clear hb ho40; have q41 : (x8_1 : Int) ≤ ((t612.length : Int) : Int) := dt; obtain ⟨i041, hi041, _, hsz41, _⟩ := info_parts info5; have hroom41 : t612.length ≤ co8 := (Kd.V_reads' HO_6.out).2.1; have hC41 : Kd.F (Kd.int .u8) _ _ Ao8 t612.length t612 := (Kd.V_at (base := w.heap.size) HO_6.out).2.2; have hcut41 := cut_to (P := Tryd.prog) 22 5 .i64 Tryd.underlying22 hi041 Ao8 t612.length co8 x8_1 dt q41 hroom41; have hr41 := Kd.F_take (m := (x8_1 : Int).toNat) hC41 (by omega); have hy41 : y626.length = (x8_1 : Int).toNat := (by rw [Ny626.out, List.length_take]; omega); rw [← Ny626.out] at hr41; rw [← hy41] at hcut41; have HO630 := Aside0.mk (show Kd.V (Kd.int .u8) 5 _ w.heap.size _ (.slice Ao8 y626.length co8) y626 from Kd.V_mk (by omega) hr41); have HC630 := Aside0.mk (show y626.length ≤ co8 from by omega); clear hr41 hC41 hroom41 hi041 hsz41; have KY41 := Aside0.mk hy41; clear hy41; replace q41 := eq_true q41) | ((with_reducible refine gate_builtin (b := .append) (xs := #[.tmp 68, .tmp 71]) rfl ?_); (try (refine gate_guard (by rfl) ?_; dsimp only)); at_builtin; refine Kd.R_append_rows (Kd.int .u8) (w0 := w) w.heap.size rfl (.tmp 68) (.tmp 71) 22 5 (.int .u8 0) 1 rfl Tryd.underlying22 info5 rfl (by decide) (by omega) v624 y623 y626 _ _ _ (fun _ => True) (fun _ => False) rfl rfl ?aO ?aR (fun _ _ h => h) (fun _ h => h.elim) ?aF ?aB ?aS ?aL ?_; (case aR => repeat (first | exact (Kd.V_reads' HO630.out).2.2 | (with_reducible refine Kd.C_alloc ?_ _) | (with_reducible refine Kd.C_drewN ?_ _) | (with_reducible refine Kd.C_drew ?_))); (case aB => exact (bAt HB.out)); (case aF => exact (fun _ _ => trivial)); (case aO => exact (RAt HO625.out)); (case aS => exact (below_size (bAt HB.out))); (case aL => have := LMc30.out; omega); intro v632 w42 ho hb hg hat; rw [← Ny631.out] at ho; replace HO_6 := Aside0.mk (Kd.V_afterv (ok := (fun _ => True)) (VAt HO_6.out) hg hat); replace HO630 := Aside0.mk (Kd.V_afterv (ok := (fun _ => True)) (VAt HO630.out) hg hat); replace HB := Aside0.mk (hb); have HO633 := Aside0.mk (ho); clear HO625; clear ho hb hg hat) | ((with_reducible refine gate_builtin (b := .append) (xs := #[.tmp 72, .tmp 73]) rfl ?_); (try (refine gate_guard (by rfl) ?_; dsimp only)); at_builtin; refine Kd.R_append (Kd.int .u8) (w0 := w) w.heap.size rfl (.tmp 72) (.tmp 73) 22 5 (.int .u8 0) 1 rfl Tryd.underlying22 info5 rfl (by decide) (by omega) v632 y631 10 [.int .u8 10] (fun _ => True) (fun _ => False) rfl rfl ?aP (fun _ hk => hk.elim) ?aF ?aO ?aB ?aS ?aL ?_; (case aP => exact rfl); (case aB => exact (bAt HB.out)); (case aF => exact (fun _ _ => trivial)); (case aO => exact (RAt HO633.out)); (case aS => exact (below_size (bAt HB.out))); (case aL => have := LMc31.out; omega); intro v635 w43 ho hb hg hat; rw [← Ny634.out] at ho; replace HO_6 := Aside0.mk (Kd.V_afterv (ok := (fun _ => True)) (VAt HO_6.out) hg hat); replace HO630 := Aside0.mk (Kd.V_afterv (ok := (fun _ => True)) (VAt HO630.out) hg hat); replace HB := Aside0.mk (hb); have HO636 := Aside0.mk (ho); clear HO633; clear ho hb hg hat; obtain ⟨Ao44, co44, eo44⟩ := Kd.R_slice HO636.out; subst eo44) | ((with_reducible refine gate_callee (f := 13) rfl ?_); refine gL (some 76) Tryd.func13 #[.slice Ao44 y634.length co44] rfl gA ?_; (with_reducible refine (split_Pieces.calls kj23 _ _ y634 t637 _ ?side1 ?side2 ?side3 A32.out).mono ?_); (case side1 => exact Gl.below HG.out (bAt HB.out)); (case side2 => exact CAt ((Kd.R_reads' HO636.out).2.2)); (case side3 => exact (Kd.R_reads' HO636.out).2.1); rintro e w45 ⟨v638, rfl, ho0, hb⟩; refine ⟨_, rfl, ?_⟩; replace HO_6 := Aside0.mk (Kd.V_elder' (VAt HO_6.out) (Kd.N_base ho0) hb); replace HO630 := Aside0.mk (Kd.V_elder' (VAt HO630.out) (Kd.N_base ho0) hb); have HO639 := Aside0.mk (Kd.N_lower (Kd.N_mono (ok' := fun k_ => some k_ ≠ (.slice Ao44 y634.length co44 : Value).ownBlock) ho0 (fun k_ hk_ => (Kd.fresh' (Kd.R_lt (RAt HO636.out)) k_ hk_))) (below_size (bAt HB.out))); replace HO636 := Aside0.mk (Kd.R_below (RAt HO636.out) hb); replace HB := Aside0.mk (below_step (bAt HB.out) hb); (try clear hb); (try clear hb2); (try clear hk); (try clear hi); (try clear ho0)) | ((with_reducible refine gate_callee (f := 14) rfl ?_); refine gL (some 78) Tryd.func14 #[.slice A1 l1.length c1] rfl gA ?_; (with_reducible refine (tmesislaw10_few.calls (fun k_ => k_ < w.heap.size) _ _ l1 t640 _ ?side1 A33.out).mono ?_); (case side1 => exact Kd.V_mk HC1.out (Kd.F_below (Kd.C_F (Kd.heap_int .u8) HR1.out) (bAt HB.out))); rintro e w46 ⟨v641, rfl, ho0, hb⟩; refine ⟨_, rfl, ?_⟩; replace HO_6 := Aside0.mk (Kd.V_below (VAt HO_6.out) hb); replace HO630 := Aside0.mk (Kd.V_below (VAt HO630.out) hb); have HO642 := Aside0.mk (Kd.V_lower (Kd.V_mono (ok' := fun k_ => some k_ ≠ (.slice Ao44 y634.length co44 : Value).ownBlock ∧ some k_ ≠ (v638 : Value).ownBlock) ho0 (fun k_ hk_ => ⟨Or.elim hk_ (fun hs_ => fun e_ => Nat.not_le.2 hs_ (Kd.R_base HO636.out k_ e_.symm)) (fun hn_ => (Kd.fresh' (Kd.R_lt (RAt HO636.out)) k_ hn_)), Or.elim hk_ (fun hs_ => fun e_ => Nat.not_le.2 hs_ (Kd.N_base HO639.out k_ e_.symm)) (fun hn_ => (Kd.fresh' (Kd.N_lt (NAt HO639.out)) k_ hn_))⟩)) (below_size (bAt HB.out))); replace HO636 := Aside0.mk (Kd.R_below (RAt HO636.out) hb); replace HO639 := Aside0.mk (Kd.N_below (NAt HO639.out) hb); replace HB := Aside0.mk (below_step (bAt HB.out) hb); (try clear hb); (try clear hb2); (try clear hk); (try clear hi); (try clear ho0); obtain ⟨Ao47, co47, eo47⟩ := Kd.V_slice HO642.out; subst eo47) | ((with_reducible refine gate_callee (f := 13) rfl ?_); refine gL (some 79) Tryd.func13 #[.slice Ao47 t640.length co47] rfl gA ?_; (with_reducible refine (split_Pieces.calls kj23 _ _ t640 t643 _ ?side1 ?side2 ?side3 A34.out).mono ?_); (case side1 => exact Gl.below HG.out (bAt HB.out)); (case side2 => exact CAt ((Kd.V_reads' HO642.out).2.2)); (case side3 => exact (Kd.V_reads' HO642.out).2.1); rintro e w48 ⟨v644, rfl, ho0, hb⟩; refine ⟨_, rfl, ?_⟩; replace HO_6 := Aside0.mk (Kd.V_elder' (VAt HO_6.out) (Kd.N_base ho0) hb); replace HO630 := Aside0.mk (Kd.V_elder' (VAt HO630.out) (Kd.N_base ho0) hb); replace HO642 := Aside0.mk (Kd.V_elder' (VAt HO642.out) (Kd.N_base ho0) hb); have HO645 := Aside0.mk (Kd.N_lower (Kd.N_mono (ok' := fun k_ => some k_ ≠ (.slice Ao44 y634.length co44 : Value).ownBlock ∧ some k_ ≠ (v638 : Value).ownBlock) ho0 (fun k_ hk_ => ⟨(Kd.fresh' (Kd.R_lt (RAt HO636.out)) k_ hk_), (Kd.fresh' (Kd.N_lt (NAt HO639.out)) k_ hk_)⟩)) (below_size (bAt HB.out))); replace HO636 := Aside0.mk (Kd.R_below (RAt HO636.out) hb); replace HO639 := Aside0.mk (Kd.N_elder' (NAt HO639.out) (Kd.N_base ho0) hb); replace HB := Aside0.mk (below_step (bAt HB.out) hb); (try clear hb); (try clear hb2); (try clear hk); (try clear hi); (try clear ho0)) | ((with_reducible refine gate_dst (N := 80) rfl ?_); (try (refine gate_guard (by rfl) ?_; dsimp only)); refine Kd.R_lit (Kd.int .u8) _ 5 ?hg (N := 80) ?hd (xs := ([] : List Int)) (inner := []) (ok := fun _ => True) (okp := fun _ => True) ?hr ?hp (fun _ hk => hk) trivial (Below.refl _ _) (Nat.le_refl _) (by simp) ?_; (case hd => rfl); (case hg => rfl); (case hr => first | (go_simp; done) | (go_simp; rfl)); (case hp => exact (Reps.none _ _)); intro v647 w49 ho50 hb hg_ hnew_; clear hg_ hnew_; (first | rw [← Ny646.out] at ho50 | (simp only [Int.reduceToNat] at ho50; rw [← Ny646.out] at ho50)); replace HO_6 := Aside0.mk (Kd.V_elder' (VAt HO_6.out) (Kd.R_base ho50) hb); replace HO630 := Aside0.mk (Kd.V_elder' (VAt HO630.out) (Kd.R_base ho50) hb); replace HO639 := Aside0.mk (Kd.N_elder' (NAt HO639.out) (Kd.R_base ho50) hb); replace HO642 := Aside0.mk (Kd.V_elder' (VAt HO642.out) (Kd.R_base ho50) hb); replace HO645 := Aside0.mk (Kd.N_elder' (NAt HO645.out) (Kd.R_base ho50) hb); have HO648 := Aside0.mk (Kd.R_lower (Kd.R_new' ho50 (Kd.R_lt (RAt HO636.out))) (below_size (bAt HB.out))); replace HO636 := Aside0.mk (Kd.R_elder' (RAt HO636.out) (Kd.R_base ho50) hb); replace HB := Aside0.mk (below_step (bAt HB.out) hb); clear hb ho50) | ((with_reducible refine gate_builtin (b := .append) (xs := #[.tmp 80, .tmp 81]) rfl ?_); (try (refine gate_guard (by rfl) ?_; dsimp only)); at_builtin; refine Kd.R_append_rows (Kd.int .u8) (w0 := w) w.heap.size rfl (.tmp 80) (.tmp 81) 22 5 (.int .u8 0) 1 rfl Tryd.underlying22 info5 rfl (by decide) (by omega) v647 y646 y634 _ _ _ (fun k_ => some k_ ≠ (.slice Ao44 y634.length co44 : Value).ownBlock) (fun _ => False) rfl rfl ?aO ?aR (fun _ _ h => h) (fun _ h => h.elim) ?aF ?aB ?aS ?aL ?_; (case aR => repeat (first | exact (Kd.R_reads' HO636.out).2.2 | (with_reducible refine Kd.C_alloc ?_ _) | (with_reducible refine Kd.C_drewN ?_ _) | (with_reducible refine Kd.C_drew ?_))); (case aB => exact (bAt HB.out)); (case aF => exact (fun k_ hk => Kd.fresh' (Kd.R_lt (RAt HO636.out)) k_ hk)); (case aO => exact (RAt (Kd.R_mono HO648.out (fun _ hk => hk.2)))); (case aS => exact (below_size (bAt HB.out))); (case aL => have := LMc35.out; omega); intro v650 w51 ho hb hg hat; rw [← Ny649.out] at ho; replace HO_6 := Aside0.mk (Kd.V_afterv (ok := (fun k_ => some k_ ≠ (.slice Ao44 y634.length co44 : Value).ownBlock ∧ some k_ ≠ (v638 : Value).ownBlock ∧ some k_ ≠ (v644 : Value).ownBlock)) (VAt (Kd.V_mono HO_6.out (fun _ hk => ⟨⟨hk.1.1.1.2, ⟨hk.1.1.2, hk.1.2⟩⟩, hk.2⟩))) hg hat); replace HO630 := Aside0.mk (Kd.V_afterv (ok := (fun k_ => some k_ ≠ (.slice Ao44 y634.length co44 : Value).ownBlock ∧ some k_ ≠ (v638 : Value).ownBlock ∧ some k_ ≠ (v644 : Value).ownBlock)) (VAt (Kd.V_mono HO630.out (fun _ hk => ⟨⟨hk.1.1.1.2, ⟨hk.1.1.2, hk.1.2⟩⟩, hk.2⟩))) hg hat); replace HO636 := Aside0.mk (Kd.R_after (ok := (fun _ => True)) (RAt HO636.out) hg hat); replace HO639 := Aside0.mk (Kd.N_afterv (ok := (fun k_ => some k_ ≠ (.slice Ao44 y634.length co44 : Value).ownBlock ∧ some k_ ≠ (v644 : Value).ownBlock)) (NAt HO639.out) hg hat); replace HO642 := Aside0.mk (Kd.V_afterv (ok := (fun k_ => some k_ ≠ (.slice Ao44 y634.length co44 : Value).ownBlock ∧ some k_ ≠ (v638 : Value).ownBlock ∧ some k_ ≠ (v644 : Value).ownBlock)) (VAt (Kd.V_mono HO642.out (fun _ hk => ⟨⟨hk.1.1.1, ⟨hk.1.1.2, hk.1.2⟩⟩, hk.2⟩))) hg hat); replace HO645 := Aside0.mk (Kd.N_afterv (ok := (fun k_ => some k_ ≠ (.slice Ao44 y634.length co44 : Value).ownBlock ∧ some k_ ≠ (v638 : Value).ownBlock)) (NAt HO645.out) hg hat); replace HB := Aside0.mk (hb); have HO651 := Aside0.mk (ho); clear HO648; clear ho hb hg hat) | ((with_reducible refine gate_callee (f := 14) rfl ?_); refine gL (some 84) Tryd.func14 #[.slice A1 l1.length c1] rfl gA ?_; (with_reducible refine (tmesislaw10_few.calls (fun k_ => k_ < w.heap.size) _ _ l1 t652 _ ?side1 A36.out).mono ?_); (case side1 => exact Kd.V_mk HC1.out (Kd.F_below (Kd.C_F (Kd.heap_int .u8) HR1.out) (bAt HB.out))); rintro e w52 ⟨v653, rfl, ho0, hb⟩; refine ⟨_, rfl, ?_⟩; replace HO_6 := Aside0.mk (Kd.V_below (VAt HO_6.out) hb); replace HO630 := Aside0.mk (Kd.V_below (VAt HO630.out) hb); replace HO642 := Aside0.mk (Kd.V_below (VAt HO642.out) hb); have HO654 := Aside0.mk (Kd.V_lower (Kd.V_mono (ok' := fun k_ => some k_ ≠ (.slice Ao44 y634.length co44 : Value).ownBlock ∧ some k_ ≠ (v638 : Value).ownBlock ∧ some k_ ≠ (v644 : Value).ownBlock ∧ some k_ ≠ (v650 : Value).ownBlock) ho0 (fun k_ hk_ => ⟨Or.elim hk_ (fun hs_ => fun e_ => Nat.not_le.2 hs_ (Kd.R_base HO636.out k_ e_.symm)) (fun hn_ => (Kd.fresh' (Kd.R_lt (RAt HO636.out)) k_ hn_)), Or.elim hk_ (fun hs_ => fun e_ => Nat.not_le.2 hs_ (Kd.N_base HO639.out k_ e_.symm)) (fun hn_ => (Kd.fresh' (Kd.N_lt (NAt HO639.out)) k_ hn_)), Or.elim hk_ (fun hs_ => fun e_ => Nat.not_le.2 hs_ (Kd.N_base HO645.out k_ e_.symm)) (fun hn_ => (Kd.fresh' (Kd.N_lt (NAt HO645.out)) k_ hn_)), Or.elim hk_ (fun hs_ => fun e_ => Nat.not_le.2 hs_ (Kd.R_base HO651.out k_ e_.symm)) (fun hn_ => (Kd.fresh' (Kd.R_lt (RAt HO651.out)) k_ hn_))⟩)) (below_size (bAt HB.out))); replace HO636 := Aside0.mk (Kd.R_below (RAt HO636.out) hb); replace HO639 := Aside0.mk (Kd.N_below (NAt HO639.out) hb); replace HO645 := Aside0.mk (Kd.N_below (NAt HO645.out) hb); replace HO651 := Aside0.mk (Kd.R_below (RAt HO651.out) hb); replace HB := Aside0.mk (below_step (bAt HB.out) hb); (try clear hb); (try clear hb2); (try clear hk); (try clear hi); (try clear ho0); obtain ⟨Ao54, co54, eo54⟩ := Kd.V_slice HO654.out; subst eo54) | ((with_reducible refine gate_builtin (b := .append) (xs := #[.tmp 82, .tmp 84]) rfl ?_); (try (refine gate_guard (by rfl) ?_; dsimp only)); at_builtin; refine Kd.R_append_rows (Kd.int .u8) (w0 := w) w.heap.size rfl (.tmp 82) (.tmp 84) 22 5 (.int .u8 0) 1 rfl Tryd.underlying22 info5 rfl (by decide) (by omega) v650 y649 t652 _ _ _ (fun k_ => some k_ ≠ (.slice Ao44 y634.length co44 : Value).ownBlock) (fun _ => False) rfl rfl ?aO ?aR (fun _ _ h => h) (fun _ h => h.elim) ?aF ?aB ?aS ?aL ?_; (case aR => repeat (first | exact (Kd.V_reads' HO654.out).2.2 | (with_reducible refine Kd.C_alloc ?_ _) | (with_reducible refine Kd.C_drewN ?_ _) | (with_reducible refine Kd.C_drew ?_))); (case aB => exact (bAt HB.out)); (case aF => exact (fun k_ hk => Kd.fresh' (Kd.R_lt (RAt HO636.out)) k_ hk)); (case aO => exact (RAt HO651.out)); (case aS => exact (below_size (bAt HB.out))); (case aL => have := LMc37.out; omega); intro v656 w53 ho hb hg hat; rw [← Ny655.out] at ho; replace HO_6 := Aside0.mk (Kd.V_afterv (ok := (fun k_ => some k_ ≠ (.slice Ao44 y634.length co44 : Value).ownBlock ∧ some k_ ≠ (v638 : Value).ownBlock ∧ some k_ ≠ (v644 : Value).ownBlock)) (VAt HO_6.out) hg hat); replace HO630 := Aside0.mk (Kd.V_afterv (ok := (fun k_ => some k_ ≠ (.slice Ao44 y634.length co44 : Value).ownBlock ∧ some k_ ≠ (v638 : Value).ownBlock ∧ some k_ ≠ (v644 : Value).ownBlock)) (VAt HO630.out) hg hat); replace HO636 := Aside0.mk (Kd.R_after (ok := (fun _ => True)) (RAt HO636.out) hg hat); replace HO639 := Aside0.mk (Kd.N_afterv (ok := (fun k_ => some k_ ≠ (.slice Ao44 y634.length co44 : Value).ownBlock ∧ some k_ ≠ (v644 : Value).ownBlock)) (NAt HO639.out) hg hat); replace HO642 := Aside0.mk (Kd.V_afterv (ok := (fun k_ => some k_ ≠ (.slice Ao44 y634.length co44 : Value).ownBlock ∧ some k_ ≠ (v638 : Value).ownBlock ∧ some k_ ≠ (v644 : Value).ownBlock)) (VAt HO642.out) hg hat); replace HO645 := Aside0.mk (Kd.N_afterv (ok := (fun k_ => some k_ ≠ (.slice Ao44 y634.length co44 : Value).ownBlock ∧ some k_ ≠ (v638 : Value).ownBlock)) (NAt HO645.out) hg hat); replace HO654 := Aside0.mk (Kd.V_afterv (ok := (fun k_ => some k_ ≠ (.slice Ao44 y634.length co44 : Value).ownBlock ∧ some k_ ≠ (v638 : Value).ownBlock ∧ some k_ ≠ (v644 : Value).ownBlock)) (VAt (Kd.V_mono HO654.out (fun _ hk => ⟨⟨hk.1, ⟨hk.2.1, hk.2.2.1⟩⟩, hk.2.2.2⟩))) hg hat); replace HB := Aside0.mk (hb); have HO657 := Aside0.mk (ho); clear HO651; clear ho hb hg hat; obtain ⟨Ao55, co55, eo55⟩ := Kd.R_slice HO657.out; subst eo55) | ((with_reducible refine gate_callee (f := 13) rfl ?_); refine gL (some 86) Tryd.func13 #[.slice Ao55 y655.length co55] rfl gA ?_; (with_reducible refine (split_Pieces.calls kj23 _ _ y655 t658 _ ?side1 ?side2 ?side3 A38.out).mono ?_); (case side1 => exact Gl.below HG.out (bAt HB.out)); (case side2 => exact CAt ((Kd.R_reads' HO657.out).2.2)); (case side3 => exact (Kd.R_reads' HO657.out).2.1); rintro e w56 ⟨v659, rfl, ho0, hb⟩; refine ⟨_, rfl, ?_⟩; replace HO_6 := Aside0.mk (Kd.V_elder' (VAt HO_6.out) (Kd.N_base ho0) hb); replace HO630 := Aside0.mk (Kd.V_elder' (VAt HO630.out) (Kd.N_base ho0) hb); replace HO642 := Aside0.mk (Kd.V_elder' (VAt HO642.out) (Kd.N_base ho0) hb); replace HO654 := Aside0.mk (Kd.V_elder' (VAt HO654.out) (Kd.N_base ho0) hb); have HO660 := Aside0.mk (Kd.N_lower (Kd.N_mono (ok' := fun k_ => some k_ ≠ (.slice Ao44 y634.length co44 : Value).ownBlock ∧ some k_ ≠ (v638 : Value).ownBlock ∧ some k_ ≠ (v644 : Value).ownBlock ∧ some k_ ≠ (.slice Ao55 y655.length co55 : Value).ownBlock) ho0 (fun k_ hk_ => ⟨(Kd.fresh' (Kd.R_lt (RAt HO636.out)) k_ hk_), (Kd.fresh' (Kd.N_lt (NAt HO639.out)) k_ hk_), (Kd.fresh' (Kd.N_lt (NAt HO645.out)) k_ hk_), (Kd.fresh' (Kd.R_lt (RAt HO657.out)) k_ hk_)⟩)) (below_size (bAt HB.out))); replace HO636 := Aside0.mk (Kd.R_below (RAt HO636.out) hb); replace HO639 := Aside0.mk (Kd.N_elder' (NAt HO639.out) (Kd.N_base ho0) hb); replace HO645 := Aside0.mk (Kd.N_elder' (NAt HO645.out) (Kd.N_base ho0) hb); replace HO657 := Aside0.mk (Kd.R_below (RAt HO657.out) hb); replace HB := Aside0.mk (below_step (bAt HB.out) hb); (try clear hb); (try clear hb2); (try clear hk); (try clear hi); (try clear ho0)))
               go_loopg [14, 15] kj23 (fun kq v14 v15 w' => ∃ (x14_3 : Int) (x15_3 : Int), v14 = .int .i64 x14_3 ∧ v15 = .int .i64 x15_3 ∧ Aside0 (tmesislaw10_SplitJoins.l1 kq t611 y634 t637 t643 t658 x14_3 x15_3 = some r) ∧ Aside0 (kq ≤ kj23) ∧ Aside0 (Kd.R (Kd.int .u8) 5 w' w.heap.size (fun _ => True) (.slice Ao44 y634.length co44) y634) ∧ Aside0 (Kd.N k25 25 w' w.heap.size (fun k_ => some k_ ≠ ((.slice Ao44 y634.length co44) : Value).ownBlock ∧ some k_ ≠ (v644 : Value).ownBlock ∧ some k_ ≠ (v659 : Value).ownBlock) v638 t637) ∧ Aside0 (Kd.N k25 25 w' w.heap.size (fun k_ => some k_ ≠ ((.slice Ao44 y634.length co44) : Value).ownBlock ∧ some k_ ≠ (v638 : Value).ownBlock ∧ some k_ ≠ (v659 : Value).ownBlock) v644 t643) ∧ Aside0 (Kd.N k25 25 w' w.heap.size (fun k_ => some k_ ≠ ((.slice Ao44 y634.length co44) : Value).ownBlock ∧ some k_ ≠ (v638 : Value).ownBlock ∧ some k_ ≠ (v644 : Value).ownBlock) v659 t658) ∧ Aside0 (Below w.heap.size w w'))
               case atStart => exact ⟨(0), (0), sR, sR, H', ⟨Nat.le_refl _⟩, ⟨RAt (Kd.R_mono HO636.out (fun _ hk => trivial))⟩, ⟨NAt (Kd.N_mono HO639.out (fun _ hk => ⟨hk.1.1.1, ⟨hk.1.1.2, hk.2⟩⟩))⟩, ⟨NAt (Kd.N_mono HO645.out (fun _ hk => ⟨hk.1.1.1, ⟨hk.1.1.2, hk.2⟩⟩))⟩, ⟨NAt (Kd.N_mono HO660.out (fun _ hk => ⟨hk.1, ⟨hk.2.1, hk.2.2.1⟩⟩))⟩, ⟨bAt HB.out⟩⟩
               case round =>
                clear H'
                try clear c1
                try clear c2
                try clear p2
                try clear c3
                try clear q4
                try clear c6
                try clear p6
                try clear q6
                try clear hx6
                try clear c7
                try clear c8
                try clear c10
                try clear c10b0
                try clear c13
                try clear c14
                try clear c14b0
                try clear c15
                try clear c15b0 c15b1
                try clear c17
                try clear c17b0
                try clear c18
                try clear c18b0
                try clear c21
                try clear c22
                try clear c22b0
                try clear c23
                try clear c23b0
                try clear c26
                try clear c26b0
                try clear c27
                try clear c28
                try clear c28b0 c28b1
                try clear c29
                try clear c29b0 c29b1
                try clear c30
                try clear c31
                try clear c35
                try clear c37
                try clear q41
                try clear hx618_0
                try clear hx618_1
                try clear hx618_2
                try clear hx618_3
                try clear hx619_0
                try clear hx619_1
                try clear hx619_2
                try clear hx619_3
                try clear hx620_0
                try clear hx620_1
                try clear hx620_2
                try clear hx620_3
                try clear hx621_0
                try clear hx621_1
                try clear hx621_2
                try clear hx621_3
                try clear hx621_4
                try clear hx622_0
                try clear hx622_1
                try clear hx622_2
                try clear hx622_3
                try clear p2
                try clear p6
                try clear p618
                try clear p619
                try clear p620
                try clear p621
                try clear p622
                try clear q41
                try clear q6
                try clear q618
                try clear q619
                try clear q620
                try clear q621
                try clear q622
                obtain ⟨x14_3, x15_3, rfl, rfl, HA, HK3, HO_10, HO_11, HO_12, HO_13, HB⟩ := hrel
                cases gk with
                | zero => exact absurd HA.out (by simp [tmesislaw10_SplitJoins.l1])
                | succ k3 =>
                 have H := HA.out
                 clear HA
                 simp only [tmesislaw10_SplitJoins.l1] at H
                 by_cases c57 : x15_3 < (t637.length : Int)
                 ·rw [if_pos c57] at H
                  have c57b0 := decide_eq_true c57
                  clear c57
                  by_cases c58 : 0 ≤ x15_3
                  ·rw [if_pos c58] at H
                   have c58b0 := decide_eq_true c58
                   clear c58
                   as_aux_lemma =>
                    have H' := Aside0.mk H
                    clear H
                    obtain ⟨Ao59, co59, eo59⟩ := Kd.N_slice HO_11.out
                    subst eo59
                    have p661 : 0 ≤ (x15_3 : Int) := dt
                    have q661 : x15_3 < (t637.length : Int) := dt
                    obtain ⟨ad661, A661_3, c661_3, e661, hx661_0, hx661_1, hx661_2, hx661_3, hl661_3, hi661_3⟩ := at_T25 (Kd.N_reads' HO_11.out).2.2 x15_3 p661 q661
                    cases e661
                    obtain ⟨ce661, hce661, hMe661, hcc661⟩ := Kd.N_get HO_11.out z25 x15_3 p661 (by first | exact q661 | exact dt | (have e_ := (Kd.N_reads' HO_11.out).1; omega))
                    obtain ⟨ua661_3, uc661_3, rfl, ul661_3, ge661_3⟩ := k25_openF hMe661
                    have hv661_3 := hcc661 3 _ rfl
                    rw [add_field _ _ 3 (by omega)] at hv661_3
                    replace hv661_3 := Option.some.inj (hv661_3.symm.trans hx661_3)
                    injection hv661_3 with hva_ hvn_ hvc_
                    rw [hva_] at ge661_3
                    rw [hvc_] at ul661_3
                    have HL661_3 := Aside0.mk (show Kd.V k38 38 _ w.heap.size _ _ ((rd_T25 t637 x15_3).f3) from Kd.V_mk ul661_3 ge661_3)
                    clear hva_ hvn_ hvc_ ge661_3 ul661_3 hcc661 hce661
                    have HR661_3 := Aside0.mk hi661_3
                    have HC661_3 := Aside0.mk hl661_3
                    clear hi661_3 hl661_3
                    replace p661 := eq_true p661
                    replace q661 := eq_true q661
                    go_wp2
                    go_roundg k3
                    case measure => have := HK1.out; have := HJ23.out; have := HK3.out; omega
                    case rel => exact ⟨(wrap64 (x14_3 + (((rd_T25 t637 x15_3).f3).length : Int))), (wrap64 (x15_3 + 1)), sR, sR, H', ⟨by have := HK1.out; have := HJ23.out; have := HK3.out; omega⟩, ⟨RAt HO_10.out⟩, ⟨NAt HO_11.out⟩, ⟨NAt HO_12.out⟩, ⟨NAt HO_13.out⟩, ⟨bAt HB.out⟩⟩
                  · exact nB H c58
                 ·rw [if_neg c57] at H
                  have c57b0 := decide_eq_false c57
                  clear c57
                  have HC60 := Aside0.mk H
                  clear H
                  obtain ⟨Ao61, co61, eo61⟩ := Kd.N_slice HO_11.out
                  subst eo61
                  go_upto_region 21 with (fail)
                  go_cut [112] (fun v112 wc => ∃ (kq : Nat) (x112_59 : Bool), v112 = .bool x112_59 ∧ Aside0 (tmesislaw10_SplitJoins.j5 kq y634 t637 t643 t658 x14_3 x112_59 = some r) ∧ Aside0 (kq ≤ k3) ∧ Aside0 (Kd.R (Kd.int .u8) 5 wc w.heap.size (fun _ => True) (.slice Ao44 y634.length co44) y634) ∧ Aside0 (Kd.N k25 25 wc w.heap.size (fun k_ => some k_ ≠ ((.slice Ao44 y634.length co44) : Value).ownBlock ∧ some k_ ≠ (v644 : Value).ownBlock ∧ some k_ ≠ (v659 : Value).ownBlock) (.slice Ao61 t637.length co61) t637) ∧ Aside0 (Kd.N k25 25 wc w.heap.size (fun k_ => some k_ ≠ ((.slice Ao44 y634.length co44) : Value).ownBlock ∧ some k_ ≠ ((.slice Ao61 t637.length co61) : Value).ownBlock ∧ some k_ ≠ (v659 : Value).ownBlock) v644 t643) ∧ Aside0 (Kd.N k25 25 wc w.heap.size (fun k_ => some k_ ≠ ((.slice Ao44 y634.length co44) : Value).ownBlock ∧ some k_ ≠ ((.slice Ao61 t637.length co61) : Value).ownBlock ∧ some k_ ≠ (v644 : Value).ownBlock) v659 t658) ∧ Aside0 (Below w.heap.size w wc))
                  case first =>
                   have H := HC60.out
                   clear HC60
                   by_cases c62 : t611 = true
                   ·subst c62
                    replace H := tP H
                    as_aux_lemma =>
                     have H' := Aside0.mk H
                     clear H
                     obtain ⟨Ao63, co63, eo63⟩ := Kd.N_slice HO_13.out
                     subst eo63
                     obtain ⟨Ao64, co64, eo64⟩ := Kd.N_slice HO_12.out
                     subst eo64
                     go_wp2
                     go_meet
                     case rel => exact ⟨_, (((t658.length : Int) != (wrap64 ((t637.length : Int) + (t643.length : Int))))), sR, H', ⟨by have := HK1.out; have := HJ23.out; have := HK3.out; first | omega | exact Nat.le_refl _⟩, ⟨RAt HO_10.out⟩, ⟨NAt HO_11.out⟩, ⟨NAt HO_12.out⟩, ⟨NAt HO_13.out⟩, ⟨bAt HB.out⟩⟩
                   ·replace c62 := Bool.eq_false_iff.mpr c62
                    subst c62
                    replace H := fP H
                    as_aux_lemma =>
                     have H' := Aside0.mk H
                     clear H
                     go_wp2
                     go_meet
                     case rel => exact ⟨_, (true), sR, H', ⟨by have := HK1.out; have := HJ23.out; have := HK3.out; first | omega | exact Nat.le_refl _⟩, ⟨RAt HO_10.out⟩, ⟨NAt HO_11.out⟩, ⟨NAt HO_12.out⟩, ⟨NAt HO_13.out⟩, ⟨bAt HB.out⟩⟩
                  case rest =>
                    as_aux_lemma =>
                     clear HC60
                     try clear c1
                     try clear c2
                     try clear p2
                     try clear c3
                     try clear q4
                     try clear c5
                     try clear c6
                     try clear p6
                     try clear q6
                     try clear hx6
                     try clear c7
                     try clear c8
                     try clear c10
                     try clear c10b0
                     try clear c13
                     try clear c14
                     try clear c14b0
                     try clear c15
                     try clear c15b0 c15b1
                     try clear c17
                     try clear c17b0
                     try clear c18
                     try clear c18b0
                     try clear c21
                     try clear c22
                     try clear c22b0
                     try clear c23
                     try clear c23b0
                     try clear c26
                     try clear c26b0
                     try clear c27
                     try clear c28
                     try clear c28b0 c28b1
                     try clear c29
                     try clear c29b0 c29b1
                     try clear c30
                     try clear c31
                     try clear c35
                     try clear c37
                     try clear q41
                     try clear c57
                     try clear c57b0
                     try clear c58
                     try clear c58b0
                     try clear p61
                     try clear q61
                     try clear hx61
                     try clear c62
                     try clear p62
                     try clear q62
                     try clear hx62
                     try clear p64
                     try clear hx618_0
                     try clear hx618_1
                     try clear hx618_2
                     try clear hx618_3
                     try clear hx619_0
                     try clear hx619_1
                     try clear hx619_2
                     try clear hx619_3
                     try clear hx620_0
                     try clear hx620_1
                     try clear hx620_2
                     try clear hx620_3
                     try clear hx621_0
                     try clear hx621_1
                     try clear hx621_2
                     try clear hx621_3
                     try clear hx621_4
                     try clear hx622_0
                     try clear hx622_1
                     try clear hx622_2
                     try clear hx622_3
                     try clear hx661_0
                     try clear hx661_1
                     try clear hx661_2
                     try clear hx661_3
                     try clear p2
                     try clear p6
                     try clear p618
                     try clear p619
                     try clear p620
                     try clear p621
                     try clear p622
                     try clear p661
                     try clear q4
                     try clear q41
                     try clear q6
                     try clear q618
                     try clear q619
                     try clear q620
                     try clear q621
                     try clear q622
                     try clear q661
                     obtain ⟨kq, x112_59, rfl, HA, HJ59, HO_10, HO_11, HO_12, HO_13, HB⟩ := hcut
                     cases kq with
                     | zero => exact absurd HA.out (by simp [tmesislaw10_SplitJoins.j5])
                     | succ kj59 =>
                      have H := HA.out
                      clear HA
                      simp only [tmesislaw10_SplitJoins.j5] at H
                      by_cases c65 : x112_59 = true
                      ·subst c65
                       replace H := tP H
                       as_aux_lemma =>
                        obtain rfl := Option.some.inj H
                        go_wp2
                        go_ret
                        exact ⟨eR, bAt HB.out⟩
                      ·replace c65 := Bool.eq_false_iff.mpr c65
                       subst c65
                       replace H := fP H
                       have H' := Aside0.mk H
                       clear H
                       go_wp2
                       go_loopg [16] kj59 (fun kq v16 w' => ∃ (x16_5 : Int), v16 = .int .i64 x16_5 ∧ Aside0 (tmesislaw10_SplitJoins.l2 kq y634 t637 t643 t658 x14_3 x16_5 = some r) ∧ Aside0 (kq ≤ kj59) ∧ Aside0 (Kd.R (Kd.int .u8) 5 w' w.heap.size (fun _ => True) (.slice Ao44 y634.length co44) y634) ∧ Aside0 (Kd.N k25 25 w' w.heap.size (fun k_ => some k_ ≠ ((.slice Ao44 y634.length co44) : Value).ownBlock ∧ some k_ ≠ (v644 : Value).ownBlock ∧ some k_ ≠ (v659 : Value).ownBlock) (.slice Ao61 t637.length co61) t637) ∧ Aside0 (Kd.N k25 25 w' w.heap.size (fun k_ => some k_ ≠ ((.slice Ao44 y634.length co44) : Value).ownBlock ∧ some k_ ≠ ((.slice Ao61 t637.length co61) : Value).ownBlock ∧ some k_ ≠ (v659 : Value).ownBlock) v644 t643) ∧ Aside0 (Kd.N k25 25 w' w.heap.size (fun k_ => some k_ ≠ ((.slice Ao44 y634.length co44) : Value).ownBlock ∧ some k_ ≠ ((.slice Ao61 t637.length co61) : Value).ownBlock ∧ some k_ ≠ (v644 : Value).ownBlock) v659 t658) ∧ Aside0 (Below w.heap.size w w'))
                       case atStart => exact ⟨(0), sR, H', ⟨Nat.le_refl _⟩, ⟨RAt HO_10.out⟩, ⟨NAt HO_11.out⟩, ⟨NAt HO_12.out⟩, ⟨NAt HO_13.out⟩, ⟨bAt HB.out⟩⟩
                       case round =>
                        clear H'
                        try clear c1
                        try clear c2
                        try clear p2
                        try clear c3
                        try clear q4
                        try clear c5
                        try clear c6
                        try clear p6
                        try clear q6
                        try clear hx6
                        try clear c7
                        try clear c8
                        try clear c10
                        try clear c10b0
                        try clear c13
                        try clear c14
                        try clear c14b0
                        try clear c15
                        try clear c15b0 c15b1
                        try clear c17
                        try clear c17b0
                        try clear c18
                        try clear c18b0
                        try clear c21
                        try clear c22
                        try clear c22b0
                        try clear c23
                        try clear c23b0
                        try clear c26
                        try clear c26b0
                        try clear c27
                        try clear c28
                        try clear c28b0 c28b1
                        try clear c29
                        try clear c29b0 c29b1
                        try clear c30
                        try clear c31
                        try clear c35
                        try clear c37
                        try clear q41
                        try clear c57
                        try clear c57b0
                        try clear c58
                        try clear c58b0
                        try clear p61
                        try clear q61
                        try clear hx61
                        try clear c62
                        try clear p62
                        try clear q62
                        try clear hx62
                        try clear p64
                        try clear c65
                        try clear hx618_0
                        try clear hx618_1
                        try clear hx618_2
                        try clear hx618_3
                        try clear hx619_0
                        try clear hx619_1
                        try clear hx619_2
                        try clear hx619_3
                        try clear hx620_0
                        try clear hx620_1
                        try clear hx620_2
                        try clear hx620_3
                        try clear hx621_0
                        try clear hx621_1
                        try clear hx621_2
                        try clear hx621_3
                        try clear hx621_4
                        try clear hx622_0
                        try clear hx622_1
                        try clear hx622_2
                        try clear hx622_3
                        try clear hx661_0
                        try clear hx661_1
                        try clear hx661_2
                        try clear hx661_3
                        try clear p2
                        try clear p6
                        try clear p61
                        try clear p618
                        try clear p619
                        try clear p62
                        try clear p620
                        try clear p621
                        try clear p622
                        try clear p64
                        try clear p661
                        try clear q4
                        try clear q41
                        try clear q6
                        try clear q61
                        try clear q618
                        try clear q619
                        try clear q62
                        try clear q620
                        try clear q621
                        try clear q622
                        try clear q661
                        obtain ⟨x16_5, rfl, HA, HK5, HO_10, HO_11, HO_12, HO_13, HB⟩ := hrel
                        cases gk with
                        | zero => exact absurd HA.out (by simp [tmesislaw10_SplitJoins.l2])
                        | succ k5 =>
                         have H := HA.out
                         clear HA
                         simp only [tmesislaw10_SplitJoins.l2] at H
                         by_cases c66 : x16_5 < (t637.length : Int)
                         ·rw [if_pos c66] at H
                          have c66b0 := decide_eq_true c66
                          clear c66
                          have HC67 := Aside0.mk H
                          clear H
                          go_upto_region 26 with (fail)
                          go_cut [156] (fun v156 wc => ∃ (kq : Nat) (x156_66 : Bool), v156 = .bool x156_66 ∧ Aside0 (tmesislaw10_SplitJoins.j7 kq y634 t637 t643 t658 x14_3 x16_5 x156_66 = some r) ∧ Aside0 (kq ≤ k5) ∧ Aside0 (Kd.R (Kd.int .u8) 5 wc w.heap.size (fun _ => True) (.slice Ao44 y634.length co44) y634) ∧ Aside0 (Kd.N k25 25 wc w.heap.size (fun k_ => some k_ ≠ ((.slice Ao44 y634.length co44) : Value).ownBlock ∧ some k_ ≠ (v644 : Value).ownBlock ∧ some k_ ≠ (v659 : Value).ownBlock) (.slice Ao61 t637.length co61) t637) ∧ Aside0 (Kd.N k25 25 wc w.heap.size (fun k_ => some k_ ≠ ((.slice Ao44 y634.length co44) : Value).ownBlock ∧ some k_ ≠ ((.slice Ao61 t637.length co61) : Value).ownBlock ∧ some k_ ≠ (v659 : Value).ownBlock) v644 t643) ∧ Aside0 (Kd.N k25 25 wc w.heap.size (fun k_ => some k_ ≠ ((.slice Ao44 y634.length co44) : Value).ownBlock ∧ some k_ ≠ ((.slice Ao61 t637.length co61) : Value).ownBlock ∧ some k_ ≠ (v644 : Value).ownBlock) v659 t658) ∧ Aside0 (Below w.heap.size w wc))
                          case first =>
                           have H := HC67.out
                           clear HC67
                           by_cases c68 : 0 ≤ x16_5
                           ·rw [if_pos c68] at H
                            have c68b0 := decide_eq_true c68
                            clear c68
                            (first | rw [c68b0] | (simp only [i64_w, i32_w]; rw [c68b0]) | skip)
                            by_cases c69 : x16_5 < (t658.length : Int)
                            ·rw [if_pos c69] at H
                             have c69b0 := decide_eq_true c69
                             clear c69
                             obtain ⟨t664, A70, H⟩ := bE H
                             by_cases c71 : t664 = true
                             ·subst c71
                              replace H := tP H
                              by_cases c72 : ((rd_T25 t637 x16_5).f0) = ((rd_T25 t658 x16_5).f0)
                              ·rw [if_pos c72] at H
                               obtain ⟨c72b0, c72b1⟩ := eqB c72
                               clear c72
                               as_aux_lemma =>
                                have H' := Aside0.mk H
                                clear H
                                try go_wp2
                                replace HO_10 := Aside0.mk (Kd.R_drew HO_10.out)
                                replace HO_11 := Aside0.mk (Kd.N_drew HO_11.out)
                                replace HO_12 := Aside0.mk (Kd.N_drew HO_12.out)
                                replace HO_13 := Aside0.mk (Kd.N_drew HO_13.out)
                                replace HB := Aside0.mk (below_drew1 HB.out)
                                have p662 : 0 ≤ (x16_5 : Int) := dt
                                have q662 : x16_5 < (t637.length : Int) := dt
                                obtain ⟨ad662, A662_3, c662_3, e662, hx662_0, hx662_1, hx662_2, hx662_3, hl662_3, hi662_3⟩ := at_T25 (Kd.N_reads' HO_11.out).2.2 x16_5 p662 q662
                                cases e662
                                obtain ⟨ce662, hce662, hMe662, hcc662⟩ := Kd.N_get HO_11.out z25 x16_5 p662 (by first | exact q662 | exact dt | (have e_ := (Kd.N_reads' HO_11.out).1; omega))
                                obtain ⟨ua662_3, uc662_3, rfl, ul662_3, ge662_3⟩ := k25_openF hMe662
                                have hv662_3 := hcc662 3 _ rfl
                                rw [add_field _ _ 3 (by omega)] at hv662_3
                                replace hv662_3 := Option.some.inj (hv662_3.symm.trans hx662_3)
                                injection hv662_3 with hva_ hvn_ hvc_
                                rw [hva_] at ge662_3
                                rw [hvc_] at ul662_3
                                have HL662_3 := Aside0.mk (show Kd.V k38 38 _ w.heap.size _ _ ((rd_T25 t637 x16_5).f3) from Kd.V_mk ul662_3 ge662_3)
                                clear hva_ hvn_ hvc_ ge662_3 ul662_3 hcc662 hce662
                                have HR662_3 := Aside0.mk hi662_3
                                have HC662_3 := Aside0.mk hl662_3
                                clear hi662_3 hl662_3
                                replace p662 := eq_true p662
                                replace q662 := eq_true q662
                                obtain ⟨Ao74, co74, eo74⟩ := Kd.N_slice HO_13.out
                                (first | subst eo74 | (injection eo74 with f1_ f2_ f3_; have f4_ := f1_.symm; have f5_ := f3_.symm; clear f1_ f2_ f3_; subst f4_; subst f5_))
                                have p663 : 0 ≤ (x16_5 : Int) := dt
                                have q663 : x16_5 < (t658.length : Int) := dt
                                obtain ⟨ad663, A663_3, c663_3, e663, hx663_0, hx663_1, hx663_2, hx663_3, hl663_3, hi663_3⟩ := at_T25 (Kd.N_reads' HO_13.out).2.2 x16_5 p663 q663
                                cases e663
                                obtain ⟨ce663, hce663, hMe663, hcc663⟩ := Kd.N_get HO_13.out z25 x16_5 p663 (by first | exact q663 | exact dt | (have e_ := (Kd.N_reads' HO_13.out).1; omega))
                                obtain ⟨ua663_3, uc663_3, rfl, ul663_3, ge663_3⟩ := k25_openF hMe663
                                have hv663_3 := hcc663 3 _ rfl
                                rw [add_field _ _ 3 (by omega)] at hv663_3
                                replace hv663_3 := Option.some.inj (hv663_3.symm.trans hx663_3)
                                injection hv663_3 with hva_ hvn_ hvc_
                                rw [hva_] at ge663_3
                                rw [hvc_] at ul663_3
                                have HL663_3 := Aside0.mk (show Kd.V k38 38 _ w.heap.size _ _ ((rd_T25 t658 x16_5).f3) from Kd.V_mk ul663_3 ge663_3)
                                clear hva_ hvn_ hvc_ ge663_3 ul663_3 hcc663 hce663
                                have HR663_3 := Aside0.mk hi663_3
                                have HC663_3 := Aside0.mk hl663_3
                                clear hi663_3 hl663_3
                                replace p663 := eq_true p663
                                replace q663 := eq_true q663
                                have p665 : 0 ≤ (x16_5 : Int) := dt
                                have q665 : x16_5 < (t637.length : Int) := dt
                                obtain ⟨ad665, A665_3, c665_3, e665, hx665_0, hx665_1, hx665_2, hx665_3, hl665_3, hi665_3⟩ := at_T25 (Kd.N_reads' HO_11.out).2.2 x16_5 p665 q665
                                obtain rfl : ad662 = ad665 := (by injection e665)
                                obtain ⟨ce665, hce665, hMe665, hcc665⟩ := Kd.N_get HO_11.out z25 x16_5 p665 (by first | exact q665 | exact dt | (have e_ := (Kd.N_reads' HO_11.out).1; omega))
                                obtain ⟨ua665_3, uc665_3, rfl, ul665_3, ge665_3⟩ := k25_openF hMe665
                                have hv665_3 := hcc665 3 _ rfl
                                rw [add_field _ _ 3 (by omega)] at hv665_3
                                replace hv665_3 := Option.some.inj (hv665_3.symm.trans hx665_3)
                                injection hv665_3 with hva_ hvn_ hvc_
                                rw [hva_] at ge665_3
                                rw [hvc_] at ul665_3
                                have HL665_3 := Aside0.mk (show Kd.V k38 38 _ w.heap.size _ _ ((rd_T25 t637 x16_5).f3) from Kd.V_mk ul665_3 ge665_3)
                                clear hva_ hvn_ hvc_ ge665_3 ul665_3 hcc665 hce665
                                have HR665_3 := Aside0.mk hi665_3
                                have HC665_3 := Aside0.mk hl665_3
                                clear hi665_3 hl665_3
                                replace p665 := eq_true p665
                                replace q665 := eq_true q665
                                have ea_ := Option.some.inj (hx662_3.symm.trans hx665_3)
                                injection ea_ with ea_ en_ ec_
                                subst ea_
                                subst ec_
                                clear en_
                                have p666 : 0 ≤ (x16_5 : Int) := dt
                                have q666 : x16_5 < (t658.length : Int) := dt
                                obtain ⟨ad666, A666_3, c666_3, e666, hx666_0, hx666_1, hx666_2, hx666_3, hl666_3, hi666_3⟩ := at_T25 (Kd.N_reads' HO_13.out).2.2 x16_5 p666 q666
                                obtain rfl : ad663 = ad666 := (by injection e666)
                                obtain ⟨ce666, hce666, hMe666, hcc666⟩ := Kd.N_get HO_13.out z25 x16_5 p666 (by first | exact q666 | exact dt | (have e_ := (Kd.N_reads' HO_13.out).1; omega))
                                obtain ⟨ua666_3, uc666_3, rfl, ul666_3, ge666_3⟩ := k25_openF hMe666
                                have hv666_3 := hcc666 3 _ rfl
                                rw [add_field _ _ 3 (by omega)] at hv666_3
                                replace hv666_3 := Option.some.inj (hv666_3.symm.trans hx666_3)
                                injection hv666_3 with hva_ hvn_ hvc_
                                rw [hva_] at ge666_3
                                rw [hvc_] at ul666_3
                                have HL666_3 := Aside0.mk (show Kd.V k38 38 _ w.heap.size _ _ ((rd_T25 t658 x16_5).f3) from Kd.V_mk ul666_3 ge666_3)
                                clear hva_ hvn_ hvc_ ge666_3 ul666_3 hcc666 hce666
                                have HR666_3 := Aside0.mk hi666_3
                                have HC666_3 := Aside0.mk hl666_3
                                clear hi666_3 hl666_3
                                replace p666 := eq_true p666
                                replace q666 := eq_true q666
                                have ea_ := Option.some.inj (hx663_3.symm.trans hx666_3)
                                injection ea_ with ea_ en_ ec_
                                subst ea_
                                subst ec_
                                clear en_
                                have p667 : 0 ≤ (x16_5 : Int) := dt
                                have q667 : x16_5 < (t637.length : Int) := dt
                                obtain ⟨ad667, A667_3, c667_3, e667, hx667_0, hx667_1, hx667_2, hx667_3, hl667_3, hi667_3⟩ := at_T25 (Kd.N_reads' HO_11.out).2.2 x16_5 p667 q667
                                obtain rfl : ad662 = ad667 := (by injection e667)
                                obtain ⟨ce667, hce667, hMe667, hcc667⟩ := Kd.N_get HO_11.out z25 x16_5 p667 (by first | exact q667 | exact dt | (have e_ := (Kd.N_reads' HO_11.out).1; omega))
                                obtain ⟨ua667_3, uc667_3, rfl, ul667_3, ge667_3⟩ := k25_openF hMe667
                                have hv667_3 := hcc667 3 _ rfl
                                rw [add_field _ _ 3 (by omega)] at hv667_3
                                replace hv667_3 := Option.some.inj (hv667_3.symm.trans hx667_3)
                                injection hv667_3 with hva_ hvn_ hvc_
                                rw [hva_] at ge667_3
                                rw [hvc_] at ul667_3
                                have HL667_3 := Aside0.mk (show Kd.V k38 38 _ w.heap.size _ _ ((rd_T25 t637 x16_5).f3) from Kd.V_mk ul667_3 ge667_3)
                                clear hva_ hvn_ hvc_ ge667_3 ul667_3 hcc667 hce667
                                have HR667_3 := Aside0.mk hi667_3
                                have HC667_3 := Aside0.mk hl667_3
                                clear hi667_3 hl667_3
                                replace p667 := eq_true p667
                                replace q667 := eq_true q667
                                have ea_ := Option.some.inj (hx662_3.symm.trans hx667_3)
                                injection ea_ with ea_ en_ ec_
                                subst ea_
                                subst ec_
                                clear en_
                                have p668 : 0 ≤ (x16_5 : Int) := dt
                                have q668 : x16_5 < (t658.length : Int) := dt
                                obtain ⟨ad668, A668_3, c668_3, e668, hx668_0, hx668_1, hx668_2, hx668_3, hl668_3, hi668_3⟩ := at_T25 (Kd.N_reads' HO_13.out).2.2 x16_5 p668 q668
                                obtain rfl : ad663 = ad668 := (by injection e668)
                                obtain ⟨ce668, hce668, hMe668, hcc668⟩ := Kd.N_get HO_13.out z25 x16_5 p668 (by first | exact q668 | exact dt | (have e_ := (Kd.N_reads' HO_13.out).1; omega))
                                obtain ⟨ua668_3, uc668_3, rfl, ul668_3, ge668_3⟩ := k25_openF hMe668
                                have hv668_3 := hcc668 3 _ rfl
                                rw [add_field _ _ 3 (by omega)] at hv668_3
                                replace hv668_3 := Option.some.inj (hv668_3.symm.trans hx668_3)
                                injection hv668_3 with hva_ hvn_ hvc_
                                rw [hva_] at ge668_3
                                rw [hvc_] at ul668_3
                                have HL668_3 := Aside0.mk (show Kd.V k38 38 _ w.heap.size _ _ ((rd_T25 t658 x16_5).f3) from Kd.V_mk ul668_3 ge668_3)
                                clear hva_ hvn_ hvc_ ge668_3 ul668_3 hcc668 hce668
                                have HR668_3 := Aside0.mk hi668_3
                                have HC668_3 := Aside0.mk hl668_3
                                clear hi668_3 hl668_3
                                replace p668 := eq_true p668
                                replace q668 := eq_true q668
                                have ea_ := Option.some.inj (hx663_3.symm.trans hx668_3)
                                injection ea_ with ea_ en_ ec_
                                subst ea_
                                subst ec_
                                clear en_
                                refine start_ (n := 38) (S := fun w' => w'.cell? (ad662.add ((x16_5).toNat * 4)) = some (.int .i64 ((rd_T25 t637 x16_5).f0)) ∧ w'.cell? ⟨(ad662.add ((x16_5).toNat * 4)).block, (ad662.add ((x16_5).toNat * 4)).off + 1, none⟩ = some (.int .i64 ((rd_T25 t637 x16_5).f1)) ∧ w'.cell? ⟨(ad662.add ((x16_5).toNat * 4)).block, (ad662.add ((x16_5).toNat * 4)).off + 2, none⟩ = some (.int .i64 ((rd_T25 t637 x16_5).f2)) ∧ w'.cell? ⟨(ad662.add ((x16_5).toNat * 4)).block, (ad662.add ((x16_5).toNat * 4)).off + 3, none⟩ = some (.slice A662_3 ((rd_T25 t637 x16_5).f3).length c662_3) ∧ w'.cell? (ad663.add ((x16_5).toNat * 4)) = some (.int .i64 ((rd_T25 t658 x16_5).f0)) ∧ w'.cell? ⟨(ad663.add ((x16_5).toNat * 4)).block, (ad663.add ((x16_5).toNat * 4)).off + 1, none⟩ = some (.int .i64 ((rd_T25 t658 x16_5).f1)) ∧ w'.cell? ⟨(ad663.add ((x16_5).toNat * 4)).block, (ad663.add ((x16_5).toNat * 4)).off + 2, none⟩ = some (.int .i64 ((rd_T25 t658 x16_5).f2)) ∧ w'.cell? ⟨(ad663.add ((x16_5).toNat * 4)).block, (ad663.add ((x16_5).toNat * 4)).off + 3, none⟩ = some (.slice A663_3 ((rd_T25 t658 x16_5).f3).length c663_3) ∧ w'.cell? (ad662.add ((x16_5).toNat * 4)) = some (.int .i64 ((rd_T25 t637 x16_5).f0)) ∧ w'.cell? ⟨(ad662.add ((x16_5).toNat * 4)).block, (ad662.add ((x16_5).toNat * 4)).off + 1, none⟩ = some (.int .i64 ((rd_T25 t637 x16_5).f1)) ∧ w'.cell? ⟨(ad662.add ((x16_5).toNat * 4)).block, (ad662.add ((x16_5).toNat * 4)).off + 2, none⟩ = some (.int .i64 ((rd_T25 t637 x16_5).f2)) ∧ w'.cell? ⟨(ad662.add ((x16_5).toNat * 4)).block, (ad662.add ((x16_5).toNat * 4)).off + 3, none⟩ = some (.slice A662_3 ((rd_T25 t637 x16_5).f3).length c662_3) ∧ w'.cell? (ad663.add ((x16_5).toNat * 4)) = some (.int .i64 ((rd_T25 t658 x16_5).f0)) ∧ w'.cell? ⟨(ad663.add ((x16_5).toNat * 4)).block, (ad663.add ((x16_5).toNat * 4)).off + 1, none⟩ = some (.int .i64 ((rd_T25 t658 x16_5).f1)) ∧ w'.cell? ⟨(ad663.add ((x16_5).toNat * 4)).block, (ad663.add ((x16_5).toNat * 4)).off + 2, none⟩ = some (.int .i64 ((rd_T25 t658 x16_5).f2)) ∧ w'.cell? ⟨(ad663.add ((x16_5).toNat * 4)).block, (ad663.add ((x16_5).toNat * 4)).off + 3, none⟩ = some (.slice A663_3 ((rd_T25 t658 x16_5).f3).length c663_3) ∧ w'.cell? (ad662.add ((x16_5).toNat * 4)) = some (.int .i64 ((rd_T25 t637 x16_5).f0)) ∧ w'.cell? ⟨(ad662.add ((x16_5).toNat * 4)).block, (ad662.add ((x16_5).toNat * 4)).off + 1, none⟩ = some (.int .i64 ((rd_T25 t637 x16_5).f1)) ∧ w'.cell? ⟨(ad662.add ((x16_5).toNat * 4)).block, (ad662.add ((x16_5).toNat * 4)).off + 2, none⟩ = some (.int .i64 ((rd_T25 t637 x16_5).f2)) ∧ w'.cell? ⟨(ad662.add ((x16_5).toNat * 4)).block, (ad662.add ((x16_5).toNat * 4)).off + 3, none⟩ = some (.slice A662_3 ((rd_T25 t637 x16_5).f3).length c662_3) ∧ w'.cell? (ad663.add ((x16_5).toNat * 4)) = some (.int .i64 ((rd_T25 t658 x16_5).f0)) ∧ w'.cell? ⟨(ad663.add ((x16_5).toNat * 4)).block, (ad663.add ((x16_5).toNat * 4)).off + 1, none⟩ = some (.int .i64 ((rd_T25 t658 x16_5).f1)) ∧ w'.cell? ⟨(ad663.add ((x16_5).toNat * 4)).block, (ad663.add ((x16_5).toNat * 4)).off + 2, none⟩ = some (.int .i64 ((rd_T25 t658 x16_5).f2)) ∧ w'.cell? ⟨(ad663.add ((x16_5).toNat * 4)).block, (ad663.add ((x16_5).toNat * 4)).off + 3, none⟩ = some (.slice A663_3 ((rd_T25 t658 x16_5).f3).length c663_3)) (ds := []) (bm 38 0) (by kernel_rfl) rfl rfl ⟨hx662_0, hx662_1, hx662_2, hx662_3, hx663_0, hx663_1, hx663_2, hx663_3, hx665_0, hx665_1, hx665_2, hx665_3, hx666_0, hx666_1, hx666_2, hx666_3, hx667_0, hx667_1, hx667_2, hx667_3, hx668_0, hx668_1, hx668_2, hx668_3⟩ (fun hHeld => ?_); refine with_tabW tmesislaw10_SplitJoins.tab26 tmesislaw10_SplitJoins.bits26 (fun HT_ HW_ => ?_)
                                generalize wr.drew = w73 at HO_10 HO_11 HO_12 HO_13 HB HL662_3 HL663_3 HL665_3 HL666_3 HL667_3 HL668_3 HR662_3 HR663_3 HR665_3 HR666_3 HR667_3 HR668_3 hx662_0 hx662_1 hx662_2 hx662_3 hx663_0 hx663_1 hx663_2 hx663_3 hx665_0 hx665_1 hx665_2 hx665_3 hx666_0 hx666_1 hx666_2 hx666_3 hx667_0 hx667_1 hx667_2 hx667_3 hx668_0 hx668_1 hx668_2 hx668_3 hHeld ⊢
                                refine pv_ 0 (some 119) (bm 38 1) HT_.out ?_
                                refine pv_ 1 (some 120) (bm 38 3) HT_.out ?_
                                refine pv_ 2 (some 121) (bm 38 7) HT_.out ?_
                                refine pv_ 3 (some 122) (bm 38 15) HT_.out ?_
                                refine pv_ 5 (some 124) (bm 38 47) HT_.out ?_
                                refine pv_ 6 (some 125) (bm 38 111) HT_.out ?_
                                refine pv_ 7 (some 126) (bm 38 239) HT_.out ?_
                                refine pv_ 8 (some 127) (bm 38 495) HT_.out ?_
                                refine tk_ 4 (some 123) (bm 38 511) HT_.out HW_.out hHeld ?_
                                refine tk_ 9 (some 128) (bm 38 1023) HT_.out HW_.out hHeld ?_
                                refine one_ (i := 10) (N := some 129) (bm 38 2047) rfl rfl (one_of HT_.out (by kernel_rfl)) (by decide) (fun K hK => ?_)
                                refine goes_ Tryd.func18 (by kernel_rfl) rfl #[.slice A662_3 ((rd_T25 t637 x16_5).f3).length c662_3, .slice A663_3 ((rd_T25 t658 x16_5).f3).length c663_3] (by rfl) rfl rfl gA ?_
                                with_reducible refine (tmesisref07_Same.calls k5 _ _ ((rd_T25 t637 x16_5).f3) _ _ ((rd_T25 t658 x16_5).f3) true _ ?side1 ?side2 ?side3 ?side4 A70.out).mono ?_
                                (case side1 => repeat (first | exact (CAt HR662_3.out) | (with_reducible refine Kd.C_alloc ?_ _) | (with_reducible refine Kd.C_drewN ?_ _) | (with_reducible refine Kd.C_drew ?_)))
                                (case side2 => exact HC662_3.out)
                                (case side3 => repeat (first | exact (CAt HR663_3.out) | (with_reducible refine Kd.C_alloc ?_ _) | (with_reducible refine Kd.C_drewN ?_ _) | (with_reducible refine Kd.C_drew ?_)))
                                (case side4 => exact HC663_3.out)
                                rintro e w' ⟨rfl, ⟨nd, rfl⟩⟩
                                refine ⟨_, rfl, ?_⟩
                                refine hK.out _ _ ⟨hHeld.1, hHeld.2.1, hHeld.2.2.1, hHeld.2.2.2.1, hHeld.2.2.2.2.1, hHeld.2.2.2.2.2.1, hHeld.2.2.2.2.2.2.1, hHeld.2.2.2.2.2.2.2.1, hHeld.2.2.2.2.2.2.2.2.1, hHeld.2.2.2.2.2.2.2.2.2.1, hHeld.2.2.2.2.2.2.2.2.2.2.1, hHeld.2.2.2.2.2.2.2.2.2.2.2.1, hHeld.2.2.2.2.2.2.2.2.2.2.2.2.1, hHeld.2.2.2.2.2.2.2.2.2.2.2.2.2.1, hHeld.2.2.2.2.2.2.2.2.2.2.2.2.2.2.1, hHeld.2.2.2.2.2.2.2.2.2.2.2.2.2.2.2.1, hHeld.2.2.2.2.2.2.2.2.2.2.2.2.2.2.2.2.1, hHeld.2.2.2.2.2.2.2.2.2.2.2.2.2.2.2.2.2.1, hHeld.2.2.2.2.2.2.2.2.2.2.2.2.2.2.2.2.2.2.1, hHeld.2.2.2.2.2.2.2.2.2.2.2.2.2.2.2.2.2.2.2.1, hHeld.2.2.2.2.2.2.2.2.2.2.2.2.2.2.2.2.2.2.2.2.1, hHeld.2.2.2.2.2.2.2.2.2.2.2.2.2.2.2.2.2.2.2.2.2.1, hHeld.2.2.2.2.2.2.2.2.2.2.2.2.2.2.2.2.2.2.2.2.2.2.1, hHeld.2.2.2.2.2.2.2.2.2.2.2.2.2.2.2.2.2.2.2.2.2.2.2⟩ (fun hHeld => ?_)
                                clear hK K
                                refine norm_ (a' := ?_) ?_ ?_
                                rotate_left
                                ·show Act.put _ (some 129) _ = _
                                 simp only [Act.put, List.setIfInBounds_toArray, List.set_cons_zero, List.set_cons_succ, i64_w, i32_w]
                                 rfl
                                refine pv_ 11 (some 130) (bm 38 4095) HT_.out ?_
                                refine pv_ 12 (some 131) (bm 38 8191) HT_.out ?_
                                refine pv_ 13 (some 132) (bm 38 16383) HT_.out ?_
                                refine pv_ 14 (some 133) (bm 38 32767) HT_.out ?_
                                refine pv_ 15 (some 134) (bm 38 65535) HT_.out ?_
                                refine pv_ 16 (some 135) (bm 38 131071) HT_.out ?_
                                refine pv_ 18 (some 137) (bm 38 393215) HT_.out ?_
                                refine pv_ 19 (some 138) (bm 38 917503) HT_.out ?_
                                refine pv_ 20 (some 139) (bm 38 1966079) HT_.out ?_
                                refine pv_ 21 (some 140) (bm 38 4063231) HT_.out ?_
                                refine tk_ 17 (some 136) (bm 38 4194303) HT_.out HW_.out hHeld ?_
                                refine tk_ 22 (some 141) (bm 38 8388607) HT_.out HW_.out hHeld ?_
                                refine pv_ 23 (some 142) (bm 38 16777215) HT_.out ?_
                                refine pv_ 24 (some 143) (bm 38 33554431) HT_.out ?_
                                refine pv_ 25 (some 144) (bm 38 67108863) HT_.out ?_
                                refine pv_ 26 (some 145) (bm 38 134217727) HT_.out ?_
                                refine pv_ 27 (some 146) (bm 38 268435455) HT_.out ?_
                                refine pv_ 28 (some 147) (bm 38 536870911) HT_.out ?_
                                refine pv_ 29 (some 148) (bm 38 1073741823) HT_.out ?_
                                refine pv_ 31 (some 150) (bm 38 3221225471) HT_.out ?_
                                refine pv_ 32 (some 151) (bm 38 7516192767) HT_.out ?_
                                refine pv_ 33 (some 152) (bm 38 16106127359) HT_.out ?_
                                refine pv_ 34 (some 153) (bm 38 33285996543) HT_.out ?_
                                refine tk_ 30 (some 149) (bm 38 34359738367) HT_.out HW_.out hHeld ?_
                                refine tk_ 35 (some 154) (bm 38 68719476735) HT_.out HW_.out hHeld ?_
                                refine pv_ 36 (some 155) (bm 38 137438953471) HT_.out ?_
                                refine pv_ 37 (some 156) (bm 38 274877906943) HT_.out ?_
                                refine done_ (done_of HT_.out (by kernel_rfl)) ?_
                                try go_wp2
                                go_meet
                                case rel => exact ⟨_, ((((rd_T25 t637 x16_5).f2) != ((rd_T25 t658 x16_5).f2))), sR, H', ⟨by have := HK1.out; have := HJ23.out; have := HK3.out; have := HJ59.out; have := HK5.out; first | omega | exact Nat.le_refl _⟩, ⟨RAt HO_10.out⟩, ⟨NAt HO_11.out⟩, ⟨NAt HO_12.out⟩, ⟨NAt HO_13.out⟩, ⟨bAt HB.out⟩⟩
                              ·rw [if_neg c72] at H
                               obtain ⟨c72b0, c72b1⟩ := neB c72
                               as_aux_lemma =>
                                have H' := Aside0.mk H
                                clear H
                                try go_wp2
                                replace HO_10 := Aside0.mk (Kd.R_drew HO_10.out)
                                replace HO_11 := Aside0.mk (Kd.N_drew HO_11.out)
                                replace HO_12 := Aside0.mk (Kd.N_drew HO_12.out)
                                replace HO_13 := Aside0.mk (Kd.N_drew HO_13.out)
                                replace HB := Aside0.mk (below_drew1 HB.out)
                                have p662 : 0 ≤ (x16_5 : Int) := dt
                                have q662 : x16_5 < (t637.length : Int) := dt
                                obtain ⟨ad662, A662_3, c662_3, e662, hx662_0, hx662_1, hx662_2, hx662_3, hl662_3, hi662_3⟩ := at_T25 (Kd.N_reads' HO_11.out).2.2 x16_5 p662 q662
                                cases e662
                                obtain ⟨ce662, hce662, hMe662, hcc662⟩ := Kd.N_get HO_11.out z25 x16_5 p662 (by first | exact q662 | exact dt | (have e_ := (Kd.N_reads' HO_11.out).1; omega))
                                obtain ⟨ua662_3, uc662_3, rfl, ul662_3, ge662_3⟩ := k25_openF hMe662
                                have hv662_3 := hcc662 3 _ rfl
                                rw [add_field _ _ 3 (by omega)] at hv662_3
                                replace hv662_3 := Option.some.inj (hv662_3.symm.trans hx662_3)
                                injection hv662_3 with hva_ hvn_ hvc_
                                rw [hva_] at ge662_3
                                rw [hvc_] at ul662_3
                                have HL662_3 := Aside0.mk (show Kd.V k38 38 _ w.heap.size _ _ ((rd_T25 t637 x16_5).f3) from Kd.V_mk ul662_3 ge662_3)
                                clear hva_ hvn_ hvc_ ge662_3 ul662_3 hcc662 hce662
                                have HR662_3 := Aside0.mk hi662_3
                                have HC662_3 := Aside0.mk hl662_3
                                clear hi662_3 hl662_3
                                replace p662 := eq_true p662
                                replace q662 := eq_true q662
                                obtain ⟨Ao76, co76, eo76⟩ := Kd.N_slice HO_13.out
                                (first | subst eo76 | (injection eo76 with f1_ f2_ f3_; have f4_ := f1_.symm; have f5_ := f3_.symm; clear f1_ f2_ f3_; subst f4_; subst f5_))
                                have p663 : 0 ≤ (x16_5 : Int) := dt
                                have q663 : x16_5 < (t658.length : Int) := dt
                                obtain ⟨ad663, A663_3, c663_3, e663, hx663_0, hx663_1, hx663_2, hx663_3, hl663_3, hi663_3⟩ := at_T25 (Kd.N_reads' HO_13.out).2.2 x16_5 p663 q663
                                cases e663
                                obtain ⟨ce663, hce663, hMe663, hcc663⟩ := Kd.N_get HO_13.out z25 x16_5 p663 (by first | exact q663 | exact dt | (have e_ := (Kd.N_reads' HO_13.out).1; omega))
                                obtain ⟨ua663_3, uc663_3, rfl, ul663_3, ge663_3⟩ := k25_openF hMe663
                                have hv663_3 := hcc663 3 _ rfl
                                rw [add_field _ _ 3 (by omega)] at hv663_3
                                replace hv663_3 := Option.some.inj (hv663_3.symm.trans hx663_3)
                                injection hv663_3 with hva_ hvn_ hvc_
                                rw [hva_] at ge663_3
                                rw [hvc_] at ul663_3
                                have HL663_3 := Aside0.mk (show Kd.V k38 38 _ w.heap.size _ _ ((rd_T25 t658 x16_5).f3) from Kd.V_mk ul663_3 ge663_3)
                                clear hva_ hvn_ hvc_ ge663_3 ul663_3 hcc663 hce663
                                have HR663_3 := Aside0.mk hi663_3
                                have HC663_3 := Aside0.mk hl663_3
                                clear hi663_3 hl663_3
                                replace p663 := eq_true p663
                                replace q663 := eq_true q663
                                have p665 : 0 ≤ (x16_5 : Int) := dt
                                have q665 : x16_5 < (t637.length : Int) := dt
                                obtain ⟨ad665, A665_3, c665_3, e665, hx665_0, hx665_1, hx665_2, hx665_3, hl665_3, hi665_3⟩ := at_T25 (Kd.N_reads' HO_11.out).2.2 x16_5 p665 q665
                                obtain rfl : ad662 = ad665 := (by injection e665)
                                obtain ⟨ce665, hce665, hMe665, hcc665⟩ := Kd.N_get HO_11.out z25 x16_5 p665 (by first | exact q665 | exact dt | (have e_ := (Kd.N_reads' HO_11.out).1; omega))
                                obtain ⟨ua665_3, uc665_3, rfl, ul665_3, ge665_3⟩ := k25_openF hMe665
                                have hv665_3 := hcc665 3 _ rfl
                                rw [add_field _ _ 3 (by omega)] at hv665_3
                                replace hv665_3 := Option.some.inj (hv665_3.symm.trans hx665_3)
                                injection hv665_3 with hva_ hvn_ hvc_
                                rw [hva_] at ge665_3
                                rw [hvc_] at ul665_3
                                have HL665_3 := Aside0.mk (show Kd.V k38 38 _ w.heap.size _ _ ((rd_T25 t637 x16_5).f3) from Kd.V_mk ul665_3 ge665_3)
                                clear hva_ hvn_ hvc_ ge665_3 ul665_3 hcc665 hce665
                                have HR665_3 := Aside0.mk hi665_3
                                have HC665_3 := Aside0.mk hl665_3
                                clear hi665_3 hl665_3
                                replace p665 := eq_true p665
                                replace q665 := eq_true q665
                                have ea_ := Option.some.inj (hx662_3.symm.trans hx665_3)
                                injection ea_ with ea_ en_ ec_
                                subst ea_
                                subst ec_
                                clear en_
                                have p666 : 0 ≤ (x16_5 : Int) := dt
                                have q666 : x16_5 < (t658.length : Int) := dt
                                obtain ⟨ad666, A666_3, c666_3, e666, hx666_0, hx666_1, hx666_2, hx666_3, hl666_3, hi666_3⟩ := at_T25 (Kd.N_reads' HO_13.out).2.2 x16_5 p666 q666
                                obtain rfl : ad663 = ad666 := (by injection e666)
                                obtain ⟨ce666, hce666, hMe666, hcc666⟩ := Kd.N_get HO_13.out z25 x16_5 p666 (by first | exact q666 | exact dt | (have e_ := (Kd.N_reads' HO_13.out).1; omega))
                                obtain ⟨ua666_3, uc666_3, rfl, ul666_3, ge666_3⟩ := k25_openF hMe666
                                have hv666_3 := hcc666 3 _ rfl
                                rw [add_field _ _ 3 (by omega)] at hv666_3
                                replace hv666_3 := Option.some.inj (hv666_3.symm.trans hx666_3)
                                injection hv666_3 with hva_ hvn_ hvc_
                                rw [hva_] at ge666_3
                                rw [hvc_] at ul666_3
                                have HL666_3 := Aside0.mk (show Kd.V k38 38 _ w.heap.size _ _ ((rd_T25 t658 x16_5).f3) from Kd.V_mk ul666_3 ge666_3)
                                clear hva_ hvn_ hvc_ ge666_3 ul666_3 hcc666 hce666
                                have HR666_3 := Aside0.mk hi666_3
                                have HC666_3 := Aside0.mk hl666_3
                                clear hi666_3 hl666_3
                                replace p666 := eq_true p666
                                replace q666 := eq_true q666
                                have ea_ := Option.some.inj (hx663_3.symm.trans hx666_3)
                                injection ea_ with ea_ en_ ec_
                                subst ea_
                                subst ec_
                                clear en_
                                refine start_ (n := 38) (S := fun w' => w'.cell? (ad662.add ((x16_5).toNat * 4)) = some (.int .i64 ((rd_T25 t637 x16_5).f0)) ∧ w'.cell? ⟨(ad662.add ((x16_5).toNat * 4)).block, (ad662.add ((x16_5).toNat * 4)).off + 1, none⟩ = some (.int .i64 ((rd_T25 t637 x16_5).f1)) ∧ w'.cell? ⟨(ad662.add ((x16_5).toNat * 4)).block, (ad662.add ((x16_5).toNat * 4)).off + 2, none⟩ = some (.int .i64 ((rd_T25 t637 x16_5).f2)) ∧ w'.cell? ⟨(ad662.add ((x16_5).toNat * 4)).block, (ad662.add ((x16_5).toNat * 4)).off + 3, none⟩ = some (.slice A662_3 ((rd_T25 t637 x16_5).f3).length c662_3) ∧ w'.cell? (ad663.add ((x16_5).toNat * 4)) = some (.int .i64 ((rd_T25 t658 x16_5).f0)) ∧ w'.cell? ⟨(ad663.add ((x16_5).toNat * 4)).block, (ad663.add ((x16_5).toNat * 4)).off + 1, none⟩ = some (.int .i64 ((rd_T25 t658 x16_5).f1)) ∧ w'.cell? ⟨(ad663.add ((x16_5).toNat * 4)).block, (ad663.add ((x16_5).toNat * 4)).off + 2, none⟩ = some (.int .i64 ((rd_T25 t658 x16_5).f2)) ∧ w'.cell? ⟨(ad663.add ((x16_5).toNat * 4)).block, (ad663.add ((x16_5).toNat * 4)).off + 3, none⟩ = some (.slice A663_3 ((rd_T25 t658 x16_5).f3).length c663_3) ∧ w'.cell? (ad662.add ((x16_5).toNat * 4)) = some (.int .i64 ((rd_T25 t637 x16_5).f0)) ∧ w'.cell? ⟨(ad662.add ((x16_5).toNat * 4)).block, (ad662.add ((x16_5).toNat * 4)).off + 1, none⟩ = some (.int .i64 ((rd_T25 t637 x16_5).f1)) ∧ w'.cell? ⟨(ad662.add ((x16_5).toNat * 4)).block, (ad662.add ((x16_5).toNat * 4)).off + 2, none⟩ = some (.int .i64 ((rd_T25 t637 x16_5).f2)) ∧ w'.cell? ⟨(ad662.add ((x16_5).toNat * 4)).block, (ad662.add ((x16_5).toNat * 4)).off + 3, none⟩ = some (.slice A662_3 ((rd_T25 t637 x16_5).f3).length c662_3) ∧ w'.cell? (ad663.add ((x16_5).toNat * 4)) = some (.int .i64 ((rd_T25 t658 x16_5).f0)) ∧ w'.cell? ⟨(ad663.add ((x16_5).toNat * 4)).block, (ad663.add ((x16_5).toNat * 4)).off + 1, none⟩ = some (.int .i64 ((rd_T25 t658 x16_5).f1)) ∧ w'.cell? ⟨(ad663.add ((x16_5).toNat * 4)).block, (ad663.add ((x16_5).toNat * 4)).off + 2, none⟩ = some (.int .i64 ((rd_T25 t658 x16_5).f2)) ∧ w'.cell? ⟨(ad663.add ((x16_5).toNat * 4)).block, (ad663.add ((x16_5).toNat * 4)).off + 3, none⟩ = some (.slice A663_3 ((rd_T25 t658 x16_5).f3).length c663_3)) (ds := []) (bm 38 0) (by kernel_rfl) rfl rfl ⟨hx662_0, hx662_1, hx662_2, hx662_3, hx663_0, hx663_1, hx663_2, hx663_3, hx665_0, hx665_1, hx665_2, hx665_3, hx666_0, hx666_1, hx666_2, hx666_3⟩ (fun hHeld => ?_); refine with_tabW tmesislaw10_SplitJoins.tab26 tmesislaw10_SplitJoins.bits26 (fun HT_ HW_ => ?_)
                                generalize wr.drew = w75 at HO_10 HO_11 HO_12 HO_13 HB HL662_3 HL663_3 HL665_3 HL666_3 HR662_3 HR663_3 HR665_3 HR666_3 hx662_0 hx662_1 hx662_2 hx662_3 hx663_0 hx663_1 hx663_2 hx663_3 hx665_0 hx665_1 hx665_2 hx665_3 hx666_0 hx666_1 hx666_2 hx666_3 hHeld ⊢
                                refine pv_ 0 (some 119) (bm 38 1) HT_.out ?_
                                refine pv_ 1 (some 120) (bm 38 3) HT_.out ?_
                                refine pv_ 2 (some 121) (bm 38 7) HT_.out ?_
                                refine pv_ 3 (some 122) (bm 38 15) HT_.out ?_
                                refine pv_ 5 (some 124) (bm 38 47) HT_.out ?_
                                refine pv_ 6 (some 125) (bm 38 111) HT_.out ?_
                                refine pv_ 7 (some 126) (bm 38 239) HT_.out ?_
                                refine pv_ 8 (some 127) (bm 38 495) HT_.out ?_
                                refine tk_ 4 (some 123) (bm 38 511) HT_.out HW_.out hHeld ?_
                                refine tk_ 9 (some 128) (bm 38 1023) HT_.out HW_.out hHeld ?_
                                refine one_ (i := 10) (N := some 129) (bm 38 2047) rfl rfl (one_of HT_.out (by kernel_rfl)) (by decide) (fun K hK => ?_)
                                refine goes_ Tryd.func18 (by kernel_rfl) rfl #[.slice A662_3 ((rd_T25 t637 x16_5).f3).length c662_3, .slice A663_3 ((rd_T25 t658 x16_5).f3).length c663_3] (by rfl) rfl rfl gA ?_
                                with_reducible refine (tmesisref07_Same.calls k5 _ _ ((rd_T25 t637 x16_5).f3) _ _ ((rd_T25 t658 x16_5).f3) true _ ?side1 ?side2 ?side3 ?side4 A70.out).mono ?_
                                (case side1 => repeat (first | exact (CAt HR662_3.out) | (with_reducible refine Kd.C_alloc ?_ _) | (with_reducible refine Kd.C_drewN ?_ _) | (with_reducible refine Kd.C_drew ?_)))
                                (case side2 => exact HC662_3.out)
                                (case side3 => repeat (first | exact (CAt HR663_3.out) | (with_reducible refine Kd.C_alloc ?_ _) | (with_reducible refine Kd.C_drewN ?_ _) | (with_reducible refine Kd.C_drew ?_)))
                                (case side4 => exact HC663_3.out)
                                rintro e w' ⟨rfl, ⟨nd, rfl⟩⟩
                                refine ⟨_, rfl, ?_⟩
                                refine hK.out _ _ ⟨hHeld.1, hHeld.2.1, hHeld.2.2.1, hHeld.2.2.2.1, hHeld.2.2.2.2.1, hHeld.2.2.2.2.2.1, hHeld.2.2.2.2.2.2.1, hHeld.2.2.2.2.2.2.2.1, hHeld.2.2.2.2.2.2.2.2.1, hHeld.2.2.2.2.2.2.2.2.2.1, hHeld.2.2.2.2.2.2.2.2.2.2.1, hHeld.2.2.2.2.2.2.2.2.2.2.2.1, hHeld.2.2.2.2.2.2.2.2.2.2.2.2.1, hHeld.2.2.2.2.2.2.2.2.2.2.2.2.2.1, hHeld.2.2.2.2.2.2.2.2.2.2.2.2.2.2.1, hHeld.2.2.2.2.2.2.2.2.2.2.2.2.2.2.2⟩ (fun hHeld => ?_)
                                clear hK K
                                refine norm_ (a' := ?_) ?_ ?_
                                rotate_left
                                ·show Act.put _ (some 129) _ = _
                                 simp only [Act.put, List.setIfInBounds_toArray, List.set_cons_zero, List.set_cons_succ, i64_w, i32_w]
                                 rfl
                                refine pv_ 11 (some 130) (bm 38 4095) HT_.out ?_
                                refine pv_ 12 (some 131) (bm 38 8191) HT_.out ?_
                                refine pv_ 13 (some 132) (bm 38 16383) HT_.out ?_
                                refine pv_ 14 (some 133) (bm 38 32767) HT_.out ?_
                                refine pv_ 15 (some 134) (bm 38 65535) HT_.out ?_
                                refine pv_ 16 (some 135) (bm 38 131071) HT_.out ?_
                                refine pv_ 18 (some 137) (bm 38 393215) HT_.out ?_
                                refine pv_ 19 (some 138) (bm 38 917503) HT_.out ?_
                                refine pv_ 20 (some 139) (bm 38 1966079) HT_.out ?_
                                refine pv_ 21 (some 140) (bm 38 4063231) HT_.out ?_
                                refine tk_ 17 (some 136) (bm 38 4194303) HT_.out HW_.out hHeld ?_
                                refine tk_ 22 (some 141) (bm 38 8388607) HT_.out HW_.out hHeld ?_
                                refine pv_ 23 (some 142) (bm 38 16777215) HT_.out ?_
                                refine pv_ 24 (some 143) (bm 38 33554431) HT_.out ?_
                                refine pv_ 25 (some 144) (bm 38 67108863) HT_.out ?_
                                refine pu_ 26 (some 145) (bm 38 134217727) HT_.out ?_
                                refine pu_ 27 (some 146) (bm 38 268435455) HT_.out ?_
                                refine pu_ 28 (some 147) (bm 38 536870911) HT_.out ?_
                                refine pu_ 29 (some 148) (bm 38 1073741823) HT_.out ?_
                                refine pu_ 30 (some 149) (bm 38 2147483647) HT_.out ?_
                                refine pu_ 31 (some 150) (bm 38 4294967295) HT_.out ?_
                                refine pu_ 32 (some 151) (bm 38 8589934591) HT_.out ?_
                                refine pu_ 33 (some 152) (bm 38 17179869183) HT_.out ?_
                                refine pu_ 34 (some 153) (bm 38 34359738367) HT_.out ?_
                                refine pu_ 35 (some 154) (bm 38 68719476735) HT_.out ?_
                                refine pu_ 36 (some 155) (bm 38 137438953471) HT_.out ?_
                                refine pv_ 37 (some 156) (bm 38 274877906943) HT_.out ?_
                                refine done_ (done_of HT_.out (by kernel_rfl)) ?_
                                try go_wp2
                                go_meet
                                case rel => exact ⟨_, (true), sR, H', ⟨by have := HK1.out; have := HJ23.out; have := HK3.out; have := HJ59.out; have := HK5.out; first | omega | exact Nat.le_refl _⟩, ⟨RAt HO_10.out⟩, ⟨NAt HO_11.out⟩, ⟨NAt HO_12.out⟩, ⟨NAt HO_13.out⟩, ⟨bAt HB.out⟩⟩
                             ·replace c71 := Bool.eq_false_iff.mpr c71
                              subst c71
                              replace H := fP H
                              as_aux_lemma =>
                               have H' := Aside0.mk H
                               clear H
                               try go_wp2
                               replace HO_10 := Aside0.mk (Kd.R_drew HO_10.out)
                               replace HO_11 := Aside0.mk (Kd.N_drew HO_11.out)
                               replace HO_12 := Aside0.mk (Kd.N_drew HO_12.out)
                               replace HO_13 := Aside0.mk (Kd.N_drew HO_13.out)
                               replace HB := Aside0.mk (below_drew1 HB.out)
                               have p662 : 0 ≤ (x16_5 : Int) := dt
                               have q662 : x16_5 < (t637.length : Int) := dt
                               obtain ⟨ad662, A662_3, c662_3, e662, hx662_0, hx662_1, hx662_2, hx662_3, hl662_3, hi662_3⟩ := at_T25 (Kd.N_reads' HO_11.out).2.2 x16_5 p662 q662
                               cases e662
                               obtain ⟨ce662, hce662, hMe662, hcc662⟩ := Kd.N_get HO_11.out z25 x16_5 p662 (by first | exact q662 | exact dt | (have e_ := (Kd.N_reads' HO_11.out).1; omega))
                               obtain ⟨ua662_3, uc662_3, rfl, ul662_3, ge662_3⟩ := k25_openF hMe662
                               have hv662_3 := hcc662 3 _ rfl
                               rw [add_field _ _ 3 (by omega)] at hv662_3
                               replace hv662_3 := Option.some.inj (hv662_3.symm.trans hx662_3)
                               injection hv662_3 with hva_ hvn_ hvc_
                               rw [hva_] at ge662_3
                               rw [hvc_] at ul662_3
                               have HL662_3 := Aside0.mk (show Kd.V k38 38 _ w.heap.size _ _ ((rd_T25 t637 x16_5).f3) from Kd.V_mk ul662_3 ge662_3)
                               clear hva_ hvn_ hvc_ ge662_3 ul662_3 hcc662 hce662
                               have HR662_3 := Aside0.mk hi662_3
                               have HC662_3 := Aside0.mk hl662_3
                               clear hi662_3 hl662_3
                               replace p662 := eq_true p662
                               replace q662 := eq_true q662
                               obtain ⟨Ao78, co78, eo78⟩ := Kd.N_slice HO_13.out
                               (first | subst eo78 | (injection eo78 with f1_ f2_ f3_; have f4_ := f1_.symm; have f5_ := f3_.symm; clear f1_ f2_ f3_; subst f4_; subst f5_))
                               have p663 : 0 ≤ (x16_5 : Int) := dt
                               have q663 : x16_5 < (t658.length : Int) := dt
                               obtain ⟨ad663, A663_3, c663_3, e663, hx663_0, hx663_1, hx663_2, hx663_3, hl663_3, hi663_3⟩ := at_T25 (Kd.N_reads' HO_13.out).2.2 x16_5 p663 q663
                               cases e663
                               obtain ⟨ce663, hce663, hMe663, hcc663⟩ := Kd.N_get HO_13.out z25 x16_5 p663 (by first | exact q663 | exact dt | (have e_ := (Kd.N_reads' HO_13.out).1; omega))
                               obtain ⟨ua663_3, uc663_3, rfl, ul663_3, ge663_3⟩ := k25_openF hMe663
                               have hv663_3 := hcc663 3 _ rfl
                               rw [add_field _ _ 3 (by omega)] at hv663_3
                               replace hv663_3 := Option.some.inj (hv663_3.symm.trans hx663_3)
                               injection hv663_3 with hva_ hvn_ hvc_
                               rw [hva_] at ge663_3
                               rw [hvc_] at ul663_3
                               have HL663_3 := Aside0.mk (show Kd.V k38 38 _ w.heap.size _ _ ((rd_T25 t658 x16_5).f3) from Kd.V_mk ul663_3 ge663_3)
                               clear hva_ hvn_ hvc_ ge663_3 ul663_3 hcc663 hce663
                               have HR663_3 := Aside0.mk hi663_3
                               have HC663_3 := Aside0.mk hl663_3
                               clear hi663_3 hl663_3
                               replace p663 := eq_true p663
                               replace q663 := eq_true q663
                               refine start_ (n := 38) (S := fun w' => w'.cell? (ad662.add ((x16_5).toNat * 4)) = some (.int .i64 ((rd_T25 t637 x16_5).f0)) ∧ w'.cell? ⟨(ad662.add ((x16_5).toNat * 4)).block, (ad662.add ((x16_5).toNat * 4)).off + 1, none⟩ = some (.int .i64 ((rd_T25 t637 x16_5).f1)) ∧ w'.cell? ⟨(ad662.add ((x16_5).toNat * 4)).block, (ad662.add ((x16_5).toNat * 4)).off + 2, none⟩ = some (.int .i64 ((rd_T25 t637 x16_5).f2)) ∧ w'.cell? ⟨(ad662.add ((x16_5).toNat * 4)).block, (ad662.add ((x16_5).toNat * 4)).off + 3, none⟩ = some (.slice A662_3 ((rd_T25 t637 x16_5).f3).length c662_3) ∧ w'.cell? (ad663.add ((x16_5).toNat * 4)) = some (.int .i64 ((rd_T25 t658 x16_5).f0)) ∧ w'.cell? ⟨(ad663.add ((x16_5).toNat * 4)).block, (ad663.add ((x16_5).toNat * 4)).off + 1, none⟩ = some (.int .i64 ((rd_T25 t658 x16_5).f1)) ∧ w'.cell? ⟨(ad663.add ((x16_5).toNat * 4)).block, (ad663.add ((x16_5).toNat * 4)).off + 2, none⟩ = some (.int .i64 ((rd_T25 t658 x16_5).f2)) ∧ w'.cell? ⟨(ad663.add ((x16_5).toNat * 4)).block, (ad663.add ((x16_5).toNat * 4)).off + 3, none⟩ = some (.slice A663_3 ((rd_T25 t658 x16_5).f3).length c663_3)) (ds := []) (bm 38 0) (by kernel_rfl) rfl rfl ⟨hx662_0, hx662_1, hx662_2, hx662_3, hx663_0, hx663_1, hx663_2, hx663_3⟩ (fun hHeld => ?_); refine with_tabW tmesislaw10_SplitJoins.tab26 tmesislaw10_SplitJoins.bits26 (fun HT_ HW_ => ?_)
                               generalize wr.drew = w77 at HO_10 HO_11 HO_12 HO_13 HB HL662_3 HL663_3 HR662_3 HR663_3 hx662_0 hx662_1 hx662_2 hx662_3 hx663_0 hx663_1 hx663_2 hx663_3 hHeld ⊢
                               refine pv_ 0 (some 119) (bm 38 1) HT_.out ?_
                               refine pv_ 1 (some 120) (bm 38 3) HT_.out ?_
                               refine pv_ 2 (some 121) (bm 38 7) HT_.out ?_
                               refine pv_ 3 (some 122) (bm 38 15) HT_.out ?_
                               refine pv_ 5 (some 124) (bm 38 47) HT_.out ?_
                               refine pv_ 6 (some 125) (bm 38 111) HT_.out ?_
                               refine pv_ 7 (some 126) (bm 38 239) HT_.out ?_
                               refine pv_ 8 (some 127) (bm 38 495) HT_.out ?_
                               refine tk_ 4 (some 123) (bm 38 511) HT_.out HW_.out hHeld ?_
                               refine tk_ 9 (some 128) (bm 38 1023) HT_.out HW_.out hHeld ?_
                               refine one_ (i := 10) (N := some 129) (bm 38 2047) rfl rfl (one_of HT_.out (by kernel_rfl)) (by decide) (fun K hK => ?_)
                               refine goes_ Tryd.func18 (by kernel_rfl) rfl #[.slice A662_3 ((rd_T25 t637 x16_5).f3).length c662_3, .slice A663_3 ((rd_T25 t658 x16_5).f3).length c663_3] (by rfl) rfl rfl gA ?_
                               with_reducible refine (tmesisref07_Same.calls k5 _ _ ((rd_T25 t637 x16_5).f3) _ _ ((rd_T25 t658 x16_5).f3) false _ ?side1 ?side2 ?side3 ?side4 A70.out).mono ?_
                               (case side1 => repeat (first | exact (CAt HR662_3.out) | (with_reducible refine Kd.C_alloc ?_ _) | (with_reducible refine Kd.C_drewN ?_ _) | (with_reducible refine Kd.C_drew ?_)))
                               (case side2 => exact HC662_3.out)
                               (case side3 => repeat (first | exact (CAt HR663_3.out) | (with_reducible refine Kd.C_alloc ?_ _) | (with_reducible refine Kd.C_drewN ?_ _) | (with_reducible refine Kd.C_drew ?_)))
                               (case side4 => exact HC663_3.out)
                               rintro e w' ⟨rfl, ⟨nd, rfl⟩⟩
                               refine ⟨_, rfl, ?_⟩
                               refine hK.out _ _ ⟨hHeld.1, hHeld.2.1, hHeld.2.2.1, hHeld.2.2.2.1, hHeld.2.2.2.2.1, hHeld.2.2.2.2.2.1, hHeld.2.2.2.2.2.2.1, hHeld.2.2.2.2.2.2.2⟩ (fun hHeld => ?_)
                               clear hK K
                               refine norm_ (a' := ?_) ?_ ?_
                               rotate_left
                               ·show Act.put _ (some 129) _ = _
                                simp only [Act.put, List.setIfInBounds_toArray, List.set_cons_zero, List.set_cons_succ, i64_w, i32_w]
                                rfl
                               refine pv_ 11 (some 130) (bm 38 4095) HT_.out ?_
                               refine pv_ 12 (some 131) (bm 38 8191) HT_.out ?_
                               refine pu_ 13 (some 132) (bm 38 16383) HT_.out ?_
                               refine pu_ 14 (some 133) (bm 38 32767) HT_.out ?_
                               refine pu_ 15 (some 134) (bm 38 65535) HT_.out ?_
                               refine pu_ 16 (some 135) (bm 38 131071) HT_.out ?_
                               refine pu_ 17 (some 136) (bm 38 262143) HT_.out ?_
                               refine pu_ 18 (some 137) (bm 38 524287) HT_.out ?_
                               refine pu_ 19 (some 138) (bm 38 1048575) HT_.out ?_
                               refine pu_ 20 (some 139) (bm 38 2097151) HT_.out ?_
                               refine pu_ 21 (some 140) (bm 38 4194303) HT_.out ?_
                               refine pu_ 22 (some 141) (bm 38 8388607) HT_.out ?_
                               refine pu_ 23 (some 142) (bm 38 16777215) HT_.out ?_
                               refine pv_ 24 (some 143) (bm 38 33554431) HT_.out ?_
                               refine pv_ 25 (some 144) (bm 38 67108863) HT_.out ?_
                               refine pu_ 26 (some 145) (bm 38 134217727) HT_.out ?_
                               refine pu_ 27 (some 146) (bm 38 268435455) HT_.out ?_
                               refine pu_ 28 (some 147) (bm 38 536870911) HT_.out ?_
                               refine pu_ 29 (some 148) (bm 38 1073741823) HT_.out ?_
                               refine pu_ 30 (some 149) (bm 38 2147483647) HT_.out ?_
                               refine pu_ 31 (some 150) (bm 38 4294967295) HT_.out ?_
                               refine pu_ 32 (some 151) (bm 38 8589934591) HT_.out ?_
                               refine pu_ 33 (some 152) (bm 38 17179869183) HT_.out ?_
                               refine pu_ 34 (some 153) (bm 38 34359738367) HT_.out ?_
                               refine pu_ 35 (some 154) (bm 38 68719476735) HT_.out ?_
                               refine pu_ 36 (some 155) (bm 38 137438953471) HT_.out ?_
                               refine pv_ 37 (some 156) (bm 38 274877906943) HT_.out ?_
                               refine done_ (done_of HT_.out (by kernel_rfl)) ?_
                               try go_wp2
                               go_meet
                               case rel => exact ⟨_, (true), sR, H', ⟨by have := HK1.out; have := HJ23.out; have := HK3.out; have := HJ59.out; have := HK5.out; first | omega | exact Nat.le_refl _⟩, ⟨RAt HO_10.out⟩, ⟨NAt HO_11.out⟩, ⟨NAt HO_12.out⟩, ⟨NAt HO_13.out⟩, ⟨bAt HB.out⟩⟩
                            · exact nB H c69
                           · exact nB H c68
                          case rest =>
                            as_aux_lemma =>
                             clear HC67
                             try clear c1
                             try clear p2
                             try clear c6
                             try clear p6
                             try clear q6
                             try clear hx6
                             try clear c7
                             try clear c18
                             try clear c66
                             try clear p66
                             try clear q66
                             try clear hx66
                             try clear c68
                             try clear c69
                             try clear c71
                             try clear hx662_0
                             try clear hx662_1
                             try clear hx662_2
                             try clear hx662_3
                             try clear hx663_0
                             try clear hx663_1
                             try clear hx663_2
                             try clear hx663_3
                             try clear hx665_0
                             try clear hx665_1
                             try clear hx665_2
                             try clear hx665_3
                             try clear hx666_0
                             try clear hx666_1
                             try clear hx666_2
                             try clear hx666_3
                             try clear p662
                             try clear p663
                             try clear p666
                             try clear q662
                             try clear q663
                             try clear q666
                             obtain ⟨kq, x156_66, rfl, HA, HJ66, HO_10, HO_11, HO_12, HO_13, HB⟩ := hcut
                             cases kq with
                             | zero => exact absurd HA.out (by simp [tmesislaw10_SplitJoins.j7])
                             | succ kj66 =>
                              have H := HA.out
                              clear HA
                              simp only [tmesislaw10_SplitJoins.j7] at H
                              by_cases c79 : x156_66 = true
                              ·subst c79
                               replace H := tP H
                               as_aux_lemma =>
                                obtain rfl := Option.some.inj H
                                go_wp2
                                go_ret
                                exact ⟨eR, bAt HB.out⟩
                              ·replace c79 := Bool.eq_false_iff.mpr c79
                               subst c79
                               replace H := fP H
                               as_aux_lemma =>
                                have H' := Aside0.mk H
                                clear H
                                go_wp2
                                go_roundg kj66
                                case measure => have := HK1.out; have := HJ23.out; have := HK3.out; have := HJ59.out; have := HK5.out; have := HJ66.out; omega
                                case rel => exact ⟨(wrap64 (x16_5 + 1)), sR, H', ⟨by have := HK1.out; have := HJ23.out; have := HK3.out; have := HJ59.out; have := HK5.out; have := HJ66.out; omega⟩, ⟨RAt HO_10.out⟩, ⟨NAt HO_11.out⟩, ⟨NAt HO_12.out⟩, ⟨NAt HO_13.out⟩, ⟨bAt HB.out⟩⟩
                         ·rw [if_neg c66] at H
                          have c66b0 := decide_eq_false c66
                          clear c66
                          have H' := Aside0.mk H
                          clear H
                          go_wp2
                          go_loopg [17] k5 (fun kq v17 w' => ∃ (x17_6 : Int), v17 = .int .i64 x17_6 ∧ Aside0 (tmesislaw10_SplitJoins.l3 kq y634 t637 t643 t658 x14_3 x17_6 = some r) ∧ Aside0 (kq ≤ k5) ∧ Aside0 (Kd.R (Kd.int .u8) 5 w' w.heap.size (fun _ => True) (.slice Ao44 y634.length co44) y634) ∧ Aside0 (Kd.N k25 25 w' w.heap.size (fun k_ => some k_ ≠ ((.slice Ao44 y634.length co44) : Value).ownBlock ∧ some k_ ≠ (v644 : Value).ownBlock ∧ some k_ ≠ (v659 : Value).ownBlock) (.slice Ao61 t637.length co61) t637) ∧ Aside0 (Kd.N k25 25 w' w.heap.size (fun k_ => some k_ ≠ ((.slice Ao44 y634.length co44) : Value).ownBlock ∧ some k_ ≠ ((.slice Ao61 t637.length co61) : Value).ownBlock ∧ some k_ ≠ (v659 : Value).ownBlock) v644 t643) ∧ Aside0 (Kd.N k25 25 w' w.heap.size (fun k_ => some k_ ≠ ((.slice Ao44 y634.length co44) : Value).ownBlock ∧ some k_ ≠ ((.slice Ao61 t637.length co61) : Value).ownBlock ∧ some k_ ≠ (v644 : Value).ownBlock) v659 t658) ∧ Aside0 (Below w.heap.size w w'))
                          case atStart => exact ⟨(0), sR, H', ⟨Nat.le_refl _⟩, ⟨RAt HO_10.out⟩, ⟨NAt HO_11.out⟩, ⟨NAt HO_12.out⟩, ⟨NAt HO_13.out⟩, ⟨bAt HB.out⟩⟩
                          case round =>
                           clear H'
                           try clear c1
                           try clear p2
                           try clear c6
                           try clear p6
                           try clear q6
                           try clear hx6
                           try clear c7
                           try clear c18
                           try clear p64
                           try clear c66
                           try clear c66b0
                           try clear p66
                           try clear q66
                           try clear hx66
                           try clear c68
                           try clear c69
                           try clear c71
                           try clear c79
                           try clear hx662_0
                           try clear hx662_1
                           try clear hx662_2
                           try clear hx662_3
                           try clear hx663_0
                           try clear hx663_1
                           try clear hx663_2
                           try clear hx663_3
                           try clear hx665_0
                           try clear hx665_1
                           try clear hx665_2
                           try clear hx665_3
                           try clear hx666_0
                           try clear hx666_1
                           try clear hx666_2
                           try clear hx666_3
                           try clear p2
                           try clear p6
                           try clear p66
                           try clear p662
                           try clear p663
                           try clear p666
                           try clear q6
                           try clear q66
                           try clear q662
                           try clear q663
                           try clear q666
                           obtain ⟨x17_6, rfl, HA, HK6, HO_10, HO_11, HO_12, HO_13, HB⟩ := hrel
                           cases gk with
                           | zero => exact absurd HA.out (by simp [tmesislaw10_SplitJoins.l3])
                           | succ k6 =>
                            have H := HA.out
                            clear HA
                            simp only [tmesislaw10_SplitJoins.l3] at H
                            by_cases c80 : x17_6 < (t643.length : Int)
                            ·rw [if_pos c80] at H
                             have c80b0 := decide_eq_true c80
                             clear c80
                             obtain ⟨ji81, hji81⟩ : ∃ j_ : Int, (wrap64 ((t637.length : Int) + x17_6)) = j_ := ⟨_, rfl⟩
                             replace H : (if 0 ≤ (ji81) then (if (ji81) < (t658.length : Int) then (if 0 ≤ x17_6 then (if ((rd_T25 t658 (ji81)).f0) = (wrap64 (((rd_T25 t643 x17_6).f0) + (y634.length : Int))) then (if ((rd_T25 t658 (ji81)).f1) = (wrap64 (((rd_T25 t643 x17_6).f1) + (y634.length : Int))) then (if ((rd_T25 t658 (ji81)).f2) = (wrap64 (((rd_T25 t643 x17_6).f2) + x14_3)) then ((tmesisref07_Alike.f k6 ((rd_T25 t658 (ji81)).f3) ((rd_T25 t643 x17_6).f3)).bind fun t675 => (if t675 = true then (tmesislaw10_SplitJoins.j9 k6 y634 t637 t643 t658 x14_3 x17_6 false) else ((tmesislaw10_bad.f k6 ((rd_T25 t658 (ji81)).f3)).bind fun t676 => (tmesislaw10_SplitJoins.j9 k6 y634 t637 t643 t658 x14_3 x17_6 (!t676))))) else (tmesislaw10_SplitJoins.j9 k6 y634 t637 t643 t658 x14_3 x17_6 true)) else (tmesislaw10_SplitJoins.j9 k6 y634 t637 t643 t658 x14_3 x17_6 true)) else (tmesislaw10_SplitJoins.j9 k6 y634 t637 t643 t658 x14_3 x17_6 true)) else (none)) else (none)) else (none)) = some r := by first | (rw [hji81] at H; exact H) | (simp only [hji81] at H ⊢; exact H)
                             have hji81w : (IntKind.i64.wrap ((t637.length : Int) + x17_6)) = ji81 := (i64_w _).trans hji81
                             by_cases c82 : 0 ≤ (ji81)
                             ·rw [if_pos c82] at H
                              have c82b0 := decide_eq_true c82
                              clear c82
                              by_cases c83 : (ji81) < (t658.length : Int)
                              ·rw [if_pos c83] at H
                               have c83b0 := decide_eq_true c83
                               clear c83
                               have HC84 := Aside0.mk H
                               clear H
                               obtain ⟨Ao85, co85, eo85⟩ := Kd.N_slice HO_12.out
                               subst eo85
                               obtain ⟨Ao86, co86, eo86⟩ := Kd.N_slice HO_13.out
                               subst eo86
                               have p669 : 0 ≤ ((ji81) : Int) := dt
                               have q669 : (ji81) < (t658.length : Int) := dt
                               obtain ⟨ad669, A669_3, c669_3, e669, hx669_0, hx669_1, hx669_2, hx669_3, hl669_3, hi669_3⟩ := at_T25 (Kd.N_reads' HO_13.out).2.2 (ji81) p669 q669
                               cases e669
                               obtain ⟨ce669, hce669, hMe669, hcc669⟩ := Kd.N_get HO_13.out z25 (ji81) p669 (by first | exact q669 | exact dt | (have e_ := (Kd.N_reads' HO_13.out).1; omega))
                               obtain ⟨ua669_3, uc669_3, rfl, ul669_3, ge669_3⟩ := k25_openF hMe669
                               have hv669_3 := hcc669 3 _ rfl
                               rw [add_field _ _ 3 (by omega)] at hv669_3
                               replace hv669_3 := Option.some.inj (hv669_3.symm.trans hx669_3)
                               injection hv669_3 with hva_ hvn_ hvc_
                               rw [hva_] at ge669_3
                               rw [hvc_] at ul669_3
                               have HL669_3 := Aside0.mk (show Kd.V k38 38 _ w.heap.size _ _ ((rd_T25 t658 (ji81)).f3) from Kd.V_mk ul669_3 ge669_3)
                               clear hva_ hvn_ hvc_ ge669_3 ul669_3 hcc669 hce669
                               have HR669_3 := Aside0.mk hi669_3
                               have HC669_3 := Aside0.mk hl669_3
                               clear hi669_3 hl669_3
                               replace p669 := eq_true p669
                               replace q669 := eq_true q669
                               go_upto_region 32 with (first | ((with_reducible refine gate_dst (N := 18) rfl ?_); (try (refine gate_guard (by rfl) ?_; dsimp only)); refine box_event ?hg (N := 18) ?hd (cs := #[.int .i64 0, .int .i64 0, .int .i64 0, .slice none 0 0]) (t := 25) ?hr ?_; (case hd => rfl); (case hg => rfl); (case hr => first | (go_simp; done) | (go_simp; rfl)); intro gb670 hg w87 hbox hb; replace HO_10 := Aside0.mk (Kd.R_below (RAt HO_10.out) hb); replace HO_11 := Aside0.mk (Kd.N_below (Kd.N_elderB (NAt HO_11.out) gb670 (Nat.le_of_eq hg.symm)) hb); replace HO_12 := Aside0.mk (Kd.N_below (Kd.N_elderB (NAt HO_12.out) gb670 (Nat.le_of_eq hg.symm)) hb); replace HO_13 := Aside0.mk (Kd.N_below (Kd.N_elderB (NAt HO_13.out) gb670 (Nat.le_of_eq hg.symm)) hb); replace HL669_3 := Aside0.mk (Kd.V_below (Kd.V_elderB (VAt HL669_3.out) gb670 (Nat.le_of_eq hg.symm)) hb); replace HR669_3 := Aside0.mk (Kd.C_below (CAt HR669_3.out) hb); have BK670 := Aside0.mk (hbox); have GW670 := Aside0.mk (gE (g := gb670) hg HB.out); have GE670 := Aside0.mk (gE (g := gb670) hg HB.out); replace HB := Aside0.mk (below_step (bAt HB.out) hb); clear hb hbox hg; obtain ⟨hcz88_0, hcz88_1, hcz88_2, hcz88_3, hfz88_0, hfz88_1, hfz88_2, hfz88_3⟩ := blk4 BK670.out))
                               (try simp only [Act.put, List.setIfInBounds_toArray, List.set_cons_zero, List.set_cons_succ])
                               go_cut [222] (fun v222 wc => ∃ (kq : Nat) (x222_83 : Bool), v222 = .bool x222_83 ∧ Aside0 (tmesislaw10_SplitJoins.j9 kq y634 t637 t643 t658 x14_3 x17_6 x222_83 = some r) ∧ Aside0 (kq ≤ k6) ∧ Aside0 (Kd.R (Kd.int .u8) 5 wc w.heap.size (fun _ => True) (.slice Ao44 y634.length co44) y634) ∧ Aside0 (Kd.N k25 25 wc w.heap.size (fun k_ => some k_ ≠ ((.slice Ao44 y634.length co44) : Value).ownBlock ∧ some k_ ≠ ((.slice Ao85 t643.length co85) : Value).ownBlock ∧ some k_ ≠ ((.slice (some ad669) t658.length co86) : Value).ownBlock) (.slice Ao61 t637.length co61) t637) ∧ Aside0 (Kd.N k25 25 wc w.heap.size (fun k_ => some k_ ≠ ((.slice Ao44 y634.length co44) : Value).ownBlock ∧ some k_ ≠ ((.slice Ao61 t637.length co61) : Value).ownBlock ∧ some k_ ≠ ((.slice (some ad669) t658.length co86) : Value).ownBlock) (.slice Ao85 t643.length co85) t643) ∧ Aside0 (Kd.N k25 25 wc w.heap.size (fun k_ => some k_ ≠ ((.slice Ao44 y634.length co44) : Value).ownBlock ∧ some k_ ≠ ((.slice Ao61 t637.length co61) : Value).ownBlock ∧ some k_ ≠ ((.slice Ao85 t643.length co85) : Value).ownBlock) (.slice (some ad669) t658.length co86) t658) ∧ Aside0 (Below w.heap.size w wc))
                               case first =>
                                have H := HC84.out
                                clear HC84
                                by_cases c89 : 0 ≤ x17_6
                                ·rw [if_pos c89] at H
                                 have c89b0 := decide_eq_true c89
                                 clear c89
                                 (first | rw [c89b0] | (simp only [i64_w, i32_w]; rw [c89b0]) | skip)
                                 by_cases c90 : ((rd_T25 t658 (ji81)).f0) = (wrap64 (((rd_T25 t643 x17_6).f0) + (y634.length : Int)))
                                 ·rw [if_pos c90] at H
                                  obtain ⟨c90b0, c90b1⟩ := eqB c90
                                  clear c90
                                  by_cases c91 : ((rd_T25 t658 (ji81)).f1) = (wrap64 (((rd_T25 t643 x17_6).f1) + (y634.length : Int)))
                                  ·rw [if_pos c91] at H
                                   obtain ⟨c91b0, c91b1⟩ := eqB c91
                                   clear c91
                                   by_cases c92 : ((rd_T25 t658 (ji81)).f2) = (wrap64 (((rd_T25 t643 x17_6).f2) + x14_3))
                                   ·rw [if_pos c92] at H
                                    obtain ⟨c92b0, c92b1⟩ := eqB c92
                                    clear c92
                                    obtain ⟨t675, A93, H⟩ := bE H
                                    by_cases c94 : t675 = true
                                    ·subst c94
                                     replace H := tP H
                                     as_aux_lemma =>
                                      have H' := Aside0.mk H
                                      clear H
                                      try go_wp2
                                      have n0_ : Aside0 (Kd.R (Kd.int .u8) 5 ((((w87.setCell ⟨gb670, 0, none⟩ (.int .i64 ((rd_T25 t658 (ji81)).f0))).setCell ⟨gb670, 1, none⟩ (.int .i64 ((rd_T25 t658 (ji81)).f1))).setCell ⟨gb670, 2, none⟩ (.int .i64 ((rd_T25 t658 (ji81)).f2))).setCell ⟨gb670, 3, none⟩ (.slice A669_3 ((rd_T25 t658 (ji81)).f3).length c669_3)) w.heap.size (fun _ => True) (.slice Ao44 y634.length co44) y634) := ⟨RAt (Kd.R_mono (Kd.R_far (p := ⟨gb670, 3, none⟩) (Kd.R_far (p := ⟨gb670, 2, none⟩) (Kd.R_far (p := ⟨gb670, 1, none⟩) (Kd.R_far (p := ⟨gb670, 0, none⟩) (Kd.R_types HO_10.out BK670.out (by decide)) (fun _ hk => hk.2) (.int .i64 ((rd_T25 t658 (ji81)).f0))) (fun _ hk => hk.2) (.int .i64 ((rd_T25 t658 (ji81)).f1))) (fun _ hk => hk.2) (.int .i64 ((rd_T25 t658 (ji81)).f2))) (fun _ hk => hk.2) (.slice A669_3 ((rd_T25 t658 (ji81)).f3).length c669_3)) (fun _ hk => trivial))⟩
                                      have n1_ : Aside0 (Kd.N k25 25 ((((w87.setCell ⟨gb670, 0, none⟩ (.int .i64 ((rd_T25 t658 (ji81)).f0))).setCell ⟨gb670, 1, none⟩ (.int .i64 ((rd_T25 t658 (ji81)).f1))).setCell ⟨gb670, 2, none⟩ (.int .i64 ((rd_T25 t658 (ji81)).f2))).setCell ⟨gb670, 3, none⟩ (.slice A669_3 ((rd_T25 t658 (ji81)).f3).length c669_3)) w.heap.size (fun k_ => some k_ ≠ (.slice Ao44 y634.length co44 : Value).ownBlock ∧ some k_ ≠ (.slice Ao85 t643.length co85 : Value).ownBlock ∧ some k_ ≠ (.slice (some ad669) t658.length co86 : Value).ownBlock ∧ k_ ≠ gb670) (.slice Ao61 t637.length co61) t637) := ⟨NAt (Kd.N_mono (Kd.N_far (p := ⟨gb670, 3, none⟩) (Kd.N_far (p := ⟨gb670, 2, none⟩) (Kd.N_far (p := ⟨gb670, 1, none⟩) (Kd.N_far (p := ⟨gb670, 0, none⟩) (Kd.N_mono HO_11.out (fun k_ hk => (⟨hk, hk.2⟩ : _ ∧ k_ ≠ gb670))) (fun _ hk => hk.2) (.int .i64 ((rd_T25 t658 (ji81)).f0))) (fun _ hk => hk.2) (.int .i64 ((rd_T25 t658 (ji81)).f1))) (fun _ hk => hk.2) (.int .i64 ((rd_T25 t658 (ji81)).f2))) (fun _ hk => hk.2) (.slice A669_3 ((rd_T25 t658 (ji81)).f3).length c669_3)) (fun _ hk => ⟨hk.1.1.1, ⟨hk.1.1.2.1, ⟨hk.1.1.2.2, hk.1.2⟩⟩⟩))⟩
                                      have n2_ : Aside0 (Kd.N k25 25 ((((w87.setCell ⟨gb670, 0, none⟩ (.int .i64 ((rd_T25 t658 (ji81)).f0))).setCell ⟨gb670, 1, none⟩ (.int .i64 ((rd_T25 t658 (ji81)).f1))).setCell ⟨gb670, 2, none⟩ (.int .i64 ((rd_T25 t658 (ji81)).f2))).setCell ⟨gb670, 3, none⟩ (.slice A669_3 ((rd_T25 t658 (ji81)).f3).length c669_3)) w.heap.size (fun k_ => some k_ ≠ (.slice Ao44 y634.length co44 : Value).ownBlock ∧ some k_ ≠ (.slice Ao61 t637.length co61 : Value).ownBlock ∧ some k_ ≠ (.slice (some ad669) t658.length co86 : Value).ownBlock ∧ k_ ≠ gb670) (.slice Ao85 t643.length co85) t643) := ⟨NAt (Kd.N_mono (Kd.N_far (p := ⟨gb670, 3, none⟩) (Kd.N_far (p := ⟨gb670, 2, none⟩) (Kd.N_far (p := ⟨gb670, 1, none⟩) (Kd.N_far (p := ⟨gb670, 0, none⟩) (Kd.N_mono HO_12.out (fun k_ hk => (⟨hk, hk.2⟩ : _ ∧ k_ ≠ gb670))) (fun _ hk => hk.2) (.int .i64 ((rd_T25 t658 (ji81)).f0))) (fun _ hk => hk.2) (.int .i64 ((rd_T25 t658 (ji81)).f1))) (fun _ hk => hk.2) (.int .i64 ((rd_T25 t658 (ji81)).f2))) (fun _ hk => hk.2) (.slice A669_3 ((rd_T25 t658 (ji81)).f3).length c669_3)) (fun _ hk => ⟨hk.1.1.1, ⟨hk.1.1.2.1, ⟨hk.1.1.2.2, hk.1.2⟩⟩⟩))⟩
                                      have n3_ : Aside0 (Kd.N k25 25 ((((w87.setCell ⟨gb670, 0, none⟩ (.int .i64 ((rd_T25 t658 (ji81)).f0))).setCell ⟨gb670, 1, none⟩ (.int .i64 ((rd_T25 t658 (ji81)).f1))).setCell ⟨gb670, 2, none⟩ (.int .i64 ((rd_T25 t658 (ji81)).f2))).setCell ⟨gb670, 3, none⟩ (.slice A669_3 ((rd_T25 t658 (ji81)).f3).length c669_3)) w.heap.size (fun k_ => some k_ ≠ (.slice Ao44 y634.length co44 : Value).ownBlock ∧ some k_ ≠ (.slice Ao61 t637.length co61 : Value).ownBlock ∧ some k_ ≠ (.slice Ao85 t643.length co85 : Value).ownBlock ∧ k_ ≠ gb670) (.slice (some ad669) t658.length co86) t658) := ⟨NAt (Kd.N_mono (Kd.N_far (p := ⟨gb670, 3, none⟩) (Kd.N_far (p := ⟨gb670, 2, none⟩) (Kd.N_far (p := ⟨gb670, 1, none⟩) (Kd.N_far (p := ⟨gb670, 0, none⟩) (Kd.N_mono HO_13.out (fun k_ hk => (⟨hk, hk.2⟩ : _ ∧ k_ ≠ gb670))) (fun _ hk => hk.2) (.int .i64 ((rd_T25 t658 (ji81)).f0))) (fun _ hk => hk.2) (.int .i64 ((rd_T25 t658 (ji81)).f1))) (fun _ hk => hk.2) (.int .i64 ((rd_T25 t658 (ji81)).f2))) (fun _ hk => hk.2) (.slice A669_3 ((rd_T25 t658 (ji81)).f3).length c669_3)) (fun _ hk => ⟨hk.1.1.1, ⟨hk.1.1.2.1, ⟨hk.1.1.2.2, hk.1.2⟩⟩⟩))⟩
                                      have n4_ : Aside0 (Kd.V k38 38 ((((w87.setCell ⟨gb670, 0, none⟩ (.int .i64 ((rd_T25 t658 (ji81)).f0))).setCell ⟨gb670, 1, none⟩ (.int .i64 ((rd_T25 t658 (ji81)).f1))).setCell ⟨gb670, 2, none⟩ (.int .i64 ((rd_T25 t658 (ji81)).f2))).setCell ⟨gb670, 3, none⟩ (.slice A669_3 ((rd_T25 t658 (ji81)).f3).length c669_3)) w.heap.size (fun k_ => some k_ ≠ (.slice Ao44 y634.length co44 : Value).ownBlock ∧ some k_ ≠ (.slice Ao61 t637.length co61 : Value).ownBlock ∧ some k_ ≠ (.slice Ao85 t643.length co85 : Value).ownBlock ∧ some k_ ≠ (.slice (some ad669) t658.length co86 : Value).ownBlock ∧ k_ ≠ gb670) (.slice A669_3 ((rd_T25 t658 (ji81)).f3).length c669_3) ((rd_T25 t658 (ji81)).f3)) := ⟨VAt (Kd.V_mono (Kd.V_far (p := ⟨gb670, 3, none⟩) (Kd.V_far (p := ⟨gb670, 2, none⟩) (Kd.V_far (p := ⟨gb670, 1, none⟩) (Kd.V_far (p := ⟨gb670, 0, none⟩) (Kd.V_mono HL669_3.out (fun k_ hk => (⟨hk, hk.2⟩ : _ ∧ k_ ≠ gb670))) (fun _ hk => hk.2) (.int .i64 ((rd_T25 t658 (ji81)).f0))) (fun _ hk => hk.2) (.int .i64 ((rd_T25 t658 (ji81)).f1))) (fun _ hk => hk.2) (.int .i64 ((rd_T25 t658 (ji81)).f2))) (fun _ hk => hk.2) (.slice A669_3 ((rd_T25 t658 (ji81)).f3).length c669_3)) (fun _ hk => ⟨hk.1.1.1.1, ⟨hk.1.1.1.2.1, ⟨hk.1.1.1.2.2, ⟨hk.1.1.2, hk.1.2⟩⟩⟩⟩))⟩
                                      have n5_ : Aside0 (((((w87.setCell ⟨gb670, 0, none⟩ (.int .i64 ((rd_T25 t658 (ji81)).f0))).setCell ⟨gb670, 1, none⟩ (.int .i64 ((rd_T25 t658 (ji81)).f1))).setCell ⟨gb670, 2, none⟩ (.int .i64 ((rd_T25 t658 (ji81)).f2))).setCell ⟨gb670, 3, none⟩ (.slice A669_3 ((rd_T25 t658 (ji81)).f3).length c669_3)).heap[gb670]? = some (.cells #[.int .i64 ((rd_T25 t658 (ji81)).f0), .int .i64 ((rd_T25 t658 (ji81)).f1), .int .i64 ((rd_T25 t658 (ji81)).f2), .slice A669_3 ((rd_T25 t658 (ji81)).f3).length c669_3] 25 (0, 0))) := ⟨by refine bP #[.int .i64 ((rd_T25 t658 (ji81)).f0), .int .i64 ((rd_T25 t658 (ji81)).f1), .int .i64 ((rd_T25 t658 (ji81)).f2), .slice none 0 0] 3 ?_; refine bP #[.int .i64 ((rd_T25 t658 (ji81)).f0), .int .i64 ((rd_T25 t658 (ji81)).f1), .int .i64 0, .slice none 0 0] 2 ?_; refine bP #[.int .i64 ((rd_T25 t658 (ji81)).f0), .int .i64 0, .int .i64 0, .slice none 0 0] 1 ?_; refine bP #[.int .i64 0, .int .i64 0, .int .i64 0, .slice none 0 0] 0 ?_; (with_reducible repeat (first | refine blk_drewN ?_ _ | refine blk_drew ?_ | refine blk_alloc ?_ _)); exact BK670.out⟩
                                      have n6_ : Aside0 (Below w.heap.size w ((((w87.setCell ⟨gb670, 0, none⟩ (.int .i64 ((rd_T25 t658 (ji81)).f0))).setCell ⟨gb670, 1, none⟩ (.int .i64 ((rd_T25 t658 (ji81)).f1))).setCell ⟨gb670, 2, none⟩ (.int .i64 ((rd_T25 t658 (ji81)).f2))).setCell ⟨gb670, 3, none⟩ (.slice A669_3 ((rd_T25 t658 (ji81)).f3).length c669_3))) := ⟨bAt HB.out⟩
                                      (try clear HO_10)
                                      (try clear HO_11)
                                      (try clear HO_12)
                                      (try clear HO_13)
                                      (try clear HL669_3)
                                      (try clear BK670)
                                      (try clear HB)
                                      generalize ((((w87.setCell ⟨gb670, 0, none⟩ (.int .i64 ((rd_T25 t658 (ji81)).f0))).setCell ⟨gb670, 1, none⟩ (.int .i64 ((rd_T25 t658 (ji81)).f1))).setCell ⟨gb670, 2, none⟩ (.int .i64 ((rd_T25 t658 (ji81)).f2))).setCell ⟨gb670, 3, none⟩ (.slice A669_3 ((rd_T25 t658 (ji81)).f3).length c669_3)) = w95 at n0_ n1_ n2_ n3_ n4_ n5_ n6_ ⊢
                                      have HO_10 := n0_
                                      have HO_11 := n1_
                                      have HO_12 := n2_
                                      have HO_13 := n3_
                                      have HL669_3 := n4_
                                      have BK670 := n5_
                                      have HB := n6_
                                      clear n0_ n1_ n2_ n3_ n4_ n5_ n6_
                                      replace HO_10 := Aside0.mk (Kd.R_drew HO_10.out)
                                      replace HO_11 := Aside0.mk (Kd.N_drew HO_11.out)
                                      replace HO_12 := Aside0.mk (Kd.N_drew HO_12.out)
                                      replace HO_13 := Aside0.mk (Kd.N_drew HO_13.out)
                                      replace HL669_3 := Aside0.mk (Kd.V_drew HL669_3.out)
                                      replace BK670 := Aside0.mk (blk_drew BK670.out)
                                      replace HB := Aside0.mk (below_drew1 HB.out)
                                      have p671 : 0 ≤ (x17_6 : Int) := dt
                                      have q671 : x17_6 < (t643.length : Int) := dt
                                      obtain ⟨ad671, A671_3, c671_3, e671, hx671_0, hx671_1, hx671_2, hx671_3, hl671_3, hi671_3⟩ := at_T25 (Kd.N_reads' HO_12.out).2.2 x17_6 p671 q671
                                      cases e671
                                      obtain ⟨ce671, hce671, hMe671, hcc671⟩ := Kd.N_get HO_12.out z25 x17_6 p671 (by first | exact q671 | exact dt | (have e_ := (Kd.N_reads' HO_12.out).1; omega))
                                      obtain ⟨ua671_3, uc671_3, rfl, ul671_3, ge671_3⟩ := k25_openF hMe671
                                      have hv671_3 := hcc671 3 _ rfl
                                      rw [add_field _ _ 3 (by omega)] at hv671_3
                                      replace hv671_3 := Option.some.inj (hv671_3.symm.trans hx671_3)
                                      injection hv671_3 with hva_ hvn_ hvc_
                                      rw [hva_] at ge671_3
                                      rw [hvc_] at ul671_3
                                      have HL671_3 := Aside0.mk (show Kd.V k38 38 _ w.heap.size _ _ ((rd_T25 t643 x17_6).f3) from Kd.V_mk ul671_3 ge671_3)
                                      clear hva_ hvn_ hvc_ ge671_3 ul671_3 hcc671 hce671
                                      have HR671_3 := Aside0.mk hi671_3
                                      have HC671_3 := Aside0.mk hl671_3
                                      clear hi671_3 hl671_3
                                      replace p671 := eq_true p671
                                      replace q671 := eq_true q671
                                      have p672 : 0 ≤ (x17_6 : Int) := dt
                                      have q672 : x17_6 < (t643.length : Int) := dt
                                      obtain ⟨ad672, A672_3, c672_3, e672, hx672_0, hx672_1, hx672_2, hx672_3, hl672_3, hi672_3⟩ := at_T25 (Kd.N_reads' HO_12.out).2.2 x17_6 p672 q672
                                      obtain rfl : ad671 = ad672 := (by injection e672)
                                      obtain ⟨ce672, hce672, hMe672, hcc672⟩ := Kd.N_get HO_12.out z25 x17_6 p672 (by first | exact q672 | exact dt | (have e_ := (Kd.N_reads' HO_12.out).1; omega))
                                      obtain ⟨ua672_3, uc672_3, rfl, ul672_3, ge672_3⟩ := k25_openF hMe672
                                      have hv672_3 := hcc672 3 _ rfl
                                      rw [add_field _ _ 3 (by omega)] at hv672_3
                                      replace hv672_3 := Option.some.inj (hv672_3.symm.trans hx672_3)
                                      injection hv672_3 with hva_ hvn_ hvc_
                                      rw [hva_] at ge672_3
                                      rw [hvc_] at ul672_3
                                      have HL672_3 := Aside0.mk (show Kd.V k38 38 _ w.heap.size _ _ ((rd_T25 t643 x17_6).f3) from Kd.V_mk ul672_3 ge672_3)
                                      clear hva_ hvn_ hvc_ ge672_3 ul672_3 hcc672 hce672
                                      have HR672_3 := Aside0.mk hi672_3
                                      have HC672_3 := Aside0.mk hl672_3
                                      clear hi672_3 hl672_3
                                      replace p672 := eq_true p672
                                      replace q672 := eq_true q672
                                      have ea_ := Option.some.inj (hx671_3.symm.trans hx672_3)
                                      injection ea_ with ea_ en_ ec_
                                      subst ea_
                                      subst ec_
                                      clear en_
                                      have p673 : 0 ≤ (x17_6 : Int) := dt
                                      have q673 : x17_6 < (t643.length : Int) := dt
                                      obtain ⟨ad673, A673_3, c673_3, e673, hx673_0, hx673_1, hx673_2, hx673_3, hl673_3, hi673_3⟩ := at_T25 (Kd.N_reads' HO_12.out).2.2 x17_6 p673 q673
                                      obtain rfl : ad671 = ad673 := (by injection e673)
                                      obtain ⟨ce673, hce673, hMe673, hcc673⟩ := Kd.N_get HO_12.out z25 x17_6 p673 (by first | exact q673 | exact dt | (have e_ := (Kd.N_reads' HO_12.out).1; omega))
                                      obtain ⟨ua673_3, uc673_3, rfl, ul673_3, ge673_3⟩ := k25_openF hMe673
                                      have hv673_3 := hcc673 3 _ rfl
                                      rw [add_field _ _ 3 (by omega)] at hv673_3
                                      replace hv673_3 := Option.some.inj (hv673_3.symm.trans hx673_3)
                                      injection hv673_3 with hva_ hvn_ hvc_
                                      rw [hva_] at ge673_3
                                      rw [hvc_] at ul673_3
                                      have HL673_3 := Aside0.mk (show Kd.V k38 38 _ w.heap.size _ _ ((rd_T25 t643 x17_6).f3) from Kd.V_mk ul673_3 ge673_3)
                                      clear hva_ hvn_ hvc_ ge673_3 ul673_3 hcc673 hce673
                                      have HR673_3 := Aside0.mk hi673_3
                                      have HC673_3 := Aside0.mk hl673_3
                                      clear hi673_3 hl673_3
                                      replace p673 := eq_true p673
                                      replace q673 := eq_true q673
                                      have ea_ := Option.some.inj (hx671_3.symm.trans hx673_3)
                                      injection ea_ with ea_ en_ ec_
                                      subst ea_
                                      subst ec_
                                      clear en_
                                      have p674 : 0 ≤ (x17_6 : Int) := dt
                                      have q674 : x17_6 < (t643.length : Int) := dt
                                      obtain ⟨ad674, A674_3, c674_3, e674, hx674_0, hx674_1, hx674_2, hx674_3, hl674_3, hi674_3⟩ := at_T25 (Kd.N_reads' HO_12.out).2.2 x17_6 p674 q674
                                      obtain rfl : ad671 = ad674 := (by injection e674)
                                      obtain ⟨ce674, hce674, hMe674, hcc674⟩ := Kd.N_get HO_12.out z25 x17_6 p674 (by first | exact q674 | exact dt | (have e_ := (Kd.N_reads' HO_12.out).1; omega))
                                      obtain ⟨ua674_3, uc674_3, rfl, ul674_3, ge674_3⟩ := k25_openF hMe674
                                      have hv674_3 := hcc674 3 _ rfl
                                      rw [add_field _ _ 3 (by omega)] at hv674_3
                                      replace hv674_3 := Option.some.inj (hv674_3.symm.trans hx674_3)
                                      injection hv674_3 with hva_ hvn_ hvc_
                                      rw [hva_] at ge674_3
                                      rw [hvc_] at ul674_3
                                      have HL674_3 := Aside0.mk (show Kd.V k38 38 _ w.heap.size _ _ ((rd_T25 t643 x17_6).f3) from Kd.V_mk ul674_3 ge674_3)
                                      clear hva_ hvn_ hvc_ ge674_3 ul674_3 hcc674 hce674
                                      have HR674_3 := Aside0.mk hi674_3
                                      have HC674_3 := Aside0.mk hl674_3
                                      clear hi674_3 hl674_3
                                      replace p674 := eq_true p674
                                      replace q674 := eq_true q674
                                      have ea_ := Option.some.inj (hx671_3.symm.trans hx674_3)
                                      injection ea_ with ea_ en_ ec_
                                      subst ea_
                                      subst ec_
                                      clear en_
                                      refine start_ (n := 53) (S := fun w' => w'.cell? ⟨gb670, 0, none⟩ = some (.int .i64 ((rd_T25 t658 (ji81)).f0)) ∧ w'.cell? ⟨gb670, 1, none⟩ = some (.int .i64 ((rd_T25 t658 (ji81)).f1)) ∧ w'.cell? ⟨gb670, 2, none⟩ = some (.int .i64 ((rd_T25 t658 (ji81)).f2)) ∧ w'.cell? ⟨gb670, 3, none⟩ = some (.slice A669_3 ((rd_T25 t658 (ji81)).f3).length c669_3) ∧ w'.cell? (ad671.add ((x17_6).toNat * 4)) = some (.int .i64 ((rd_T25 t643 x17_6).f0)) ∧ w'.cell? ⟨(ad671.add ((x17_6).toNat * 4)).block, (ad671.add ((x17_6).toNat * 4)).off + 1, none⟩ = some (.int .i64 ((rd_T25 t643 x17_6).f1)) ∧ w'.cell? ⟨(ad671.add ((x17_6).toNat * 4)).block, (ad671.add ((x17_6).toNat * 4)).off + 2, none⟩ = some (.int .i64 ((rd_T25 t643 x17_6).f2)) ∧ w'.cell? ⟨(ad671.add ((x17_6).toNat * 4)).block, (ad671.add ((x17_6).toNat * 4)).off + 3, none⟩ = some (.slice A671_3 ((rd_T25 t643 x17_6).f3).length c671_3) ∧ w'.cell? (ad671.add ((x17_6).toNat * 4)) = some (.int .i64 ((rd_T25 t643 x17_6).f0)) ∧ w'.cell? ⟨(ad671.add ((x17_6).toNat * 4)).block, (ad671.add ((x17_6).toNat * 4)).off + 1, none⟩ = some (.int .i64 ((rd_T25 t643 x17_6).f1)) ∧ w'.cell? ⟨(ad671.add ((x17_6).toNat * 4)).block, (ad671.add ((x17_6).toNat * 4)).off + 2, none⟩ = some (.int .i64 ((rd_T25 t643 x17_6).f2)) ∧ w'.cell? ⟨(ad671.add ((x17_6).toNat * 4)).block, (ad671.add ((x17_6).toNat * 4)).off + 3, none⟩ = some (.slice A671_3 ((rd_T25 t643 x17_6).f3).length c671_3) ∧ w'.cell? (ad671.add ((x17_6).toNat * 4)) = some (.int .i64 ((rd_T25 t643 x17_6).f0)) ∧ w'.cell? ⟨(ad671.add ((x17_6).toNat * 4)).block, (ad671.add ((x17_6).toNat * 4)).off + 1, none⟩ = some (.int .i64 ((rd_T25 t643 x17_6).f1)) ∧ w'.cell? ⟨(ad671.add ((x17_6).toNat * 4)).block, (ad671.add ((x17_6).toNat * 4)).off + 2, none⟩ = some (.int .i64 ((rd_T25 t643 x17_6).f2)) ∧ w'.cell? ⟨(ad671.add ((x17_6).toNat * 4)).block, (ad671.add ((x17_6).toNat * 4)).off + 3, none⟩ = some (.slice A671_3 ((rd_T25 t643 x17_6).f3).length c671_3) ∧ w'.cell? (ad671.add ((x17_6).toNat * 4)) = some (.int .i64 ((rd_T25 t643 x17_6).f0)) ∧ w'.cell? ⟨(ad671.add ((x17_6).toNat * 4)).block, (ad671.add ((x17_6).toNat * 4)).off + 1, none⟩ = some (.int .i64 ((rd_T25 t643 x17_6).f1)) ∧ w'.cell? ⟨(ad671.add ((x17_6).toNat * 4)).block, (ad671.add ((x17_6).toNat * 4)).off + 2, none⟩ = some (.int .i64 ((rd_T25 t643 x17_6).f2)) ∧ w'.cell? ⟨(ad671.add ((x17_6).toNat * 4)).block, (ad671.add ((x17_6).toNat * 4)).off + 3, none⟩ = some (.slice A671_3 ((rd_T25 t643 x17_6).f3).length c671_3)) (ds := []) (bm 53 0) (by kernel_rfl) rfl rfl ⟨(blk_cell BK670.out 0).trans rfl, (blk_cell BK670.out 1).trans rfl, (blk_cell BK670.out 2).trans rfl, (blk_cell BK670.out 3).trans rfl, hx671_0, hx671_1, hx671_2, hx671_3, hx672_0, hx672_1, hx672_2, hx672_3, hx673_0, hx673_1, hx673_2, hx673_3, hx674_0, hx674_1, hx674_2, hx674_3⟩ (fun hHeld => ?_); refine with_tabW tmesislaw10_SplitJoins.tab32 tmesislaw10_SplitJoins.bits32 (fun HT_ HW_ => ?_)
                                      generalize w95.drew = w96 at HO_10 HO_11 HO_12 HO_13 HL669_3 BK670 HB HL671_3 HL672_3 HL673_3 HL674_3 HR671_3 HR672_3 HR673_3 HR674_3 hx671_0 hx671_1 hx671_2 hx671_3 hx672_0 hx672_1 hx672_2 hx672_3 hx673_0 hx673_1 hx673_2 hx673_3 hx674_0 hx674_1 hx674_2 hx674_3 hHeld ⊢
                                      refine pv_ 0 (some 170) (bm 53 1) HT_.out ?_
                                      refine pv_ 2 (some 172) (bm 53 5) HT_.out ?_
                                      refine pv_ 3 (some 173) (bm 53 13) HT_.out ?_
                                      refine pv_ 4 (some 174) (bm 53 29) HT_.out ?_
                                      refine pv_ 5 (some 175) (bm 53 61) HT_.out ?_
                                      refine pv_ 7 (some 177) (bm 53 189) HT_.out ?_
                                      refine pv_ 8 (some 178) (bm 53 445) HT_.out ?_
                                      refine tk_ 1 (some 171) (bm 53 447) HT_.out HW_.out hHeld ?_
                                      refine tk_ 6 (some 176) (bm 53 511) HT_.out HW_.out hHeld ?_
                                      refine pv_ 9 (some 179) (bm 53 1023) HT_.out ?_
                                      refine pv_ 10 (some 180) (bm 53 2047) HT_.out ?_
                                      refine pv_ 11 (some 181) (bm 53 4095) HT_.out ?_
                                      refine pv_ 12 (some 182) (bm 53 8191) HT_.out ?_
                                      refine pv_ 14 (some 184) (bm 53 24575) HT_.out ?_
                                      refine pv_ 15 (some 185) (bm 53 57343) HT_.out ?_
                                      refine pv_ 16 (some 186) (bm 53 122879) HT_.out ?_
                                      refine pv_ 17 (some 187) (bm 53 253951) HT_.out ?_
                                      refine pv_ 19 (some 189) (bm 53 778239) HT_.out ?_
                                      refine pv_ 20 (some 190) (bm 53 1826815) HT_.out ?_
                                      refine tk_ 13 (some 183) (bm 53 1835007) HT_.out HW_.out hHeld ?_
                                      refine tk_ 18 (some 188) (bm 53 2097151) HT_.out HW_.out hHeld ?_
                                      refine pv_ 21 (some 191) (bm 53 4194303) HT_.out ?_
                                      refine pv_ 22 (some 192) (bm 53 8388607) HT_.out ?_
                                      refine pv_ 23 (some 193) (bm 53 16777215) HT_.out ?_
                                      refine pv_ 24 (some 194) (bm 53 33554431) HT_.out ?_
                                      refine pv_ 25 (some 195) (bm 53 67108863) HT_.out ?_
                                      refine pv_ 27 (some 197) (bm 53 201326591) HT_.out ?_
                                      refine pv_ 28 (some 198) (bm 53 469762047) HT_.out ?_
                                      refine pv_ 29 (some 199) (bm 53 1006632959) HT_.out ?_
                                      refine pv_ 30 (some 200) (bm 53 2080374783) HT_.out ?_
                                      refine pv_ 32 (some 202) (bm 53 6375342079) HT_.out ?_
                                      refine tk_ 26 (some 196) (bm 53 6442450943) HT_.out HW_.out hHeld ?_
                                      refine tk_ 31 (some 201) (bm 53 8589934591) HT_.out HW_.out hHeld ?_
                                      refine pv_ 33 (some 203) (bm 53 17179869183) HT_.out ?_
                                      refine pv_ 34 (some 204) (bm 53 34359738367) HT_.out ?_
                                      refine pv_ 35 (some 205) (bm 53 68719476735) HT_.out ?_
                                      refine pv_ 36 (some 206) (bm 53 137438953471) HT_.out ?_
                                      refine pv_ 37 (some 207) (bm 53 274877906943) HT_.out ?_
                                      refine pv_ 39 (some 209) (bm 53 824633720831) HT_.out ?_
                                      refine pv_ 40 (some 210) (bm 53 1924145348607) HT_.out ?_
                                      refine pv_ 41 (some 211) (bm 53 4123168604159) HT_.out ?_
                                      refine pv_ 42 (some 212) (bm 53 8521215115263) HT_.out ?_
                                      refine tk_ 38 (some 208) (bm 53 8796093022207) HT_.out HW_.out hHeld ?_
                                      refine tk_ 43 (some 213) (bm 53 17592186044415) HT_.out HW_.out hHeld ?_
                                      refine one_ (i := 44) (N := some 214) (bm 53 35184372088831) rfl rfl (one_of HT_.out (by kernel_rfl)) (by decide) (fun K hK => ?_)
                                      refine goes_ Tryd.func21 (by kernel_rfl) rfl #[.slice A669_3 ((rd_T25 t658 (ji81)).f3).length c669_3, .slice A671_3 ((rd_T25 t643 x17_6).f3).length c671_3] (by rfl) rfl rfl (by (try simp only [List.map_toArray, List.map_cons, List.map_nil]); first | done | (simp only [hji81]; rfl) | rfl | (simp only [List.length_drop, List.length_take]; rfl)) ?_
                                      with_reducible refine (tmesisref07_Alike.calls k6 _ _ ((rd_T25 t658 (ji81)).f3) _ _ ((rd_T25 t643 x17_6).f3) true _ ?side1 ?side2 ?side3 ?side4 A93.out).mono ?_
                                      (case side1 => first | exact CAt ((Kd.V_reads' HL669_3.out).2.2) | exact CAt ((Kd.V_reads' (VAt HL669_3.out)).2.2))
                                      (case side2 => exact HC669_3.out)
                                      (case side3 => repeat (first | exact (CAt HR674_3.out) | (with_reducible refine Kd.C_alloc ?_ _) | (with_reducible refine Kd.C_drewN ?_ _) | (with_reducible refine Kd.C_drew ?_)))
                                      (case side4 => exact HC674_3.out)
                                      rintro e w' ⟨rfl, ⟨nd, rfl⟩⟩
                                      refine ⟨_, rfl, ?_⟩
                                      refine hK.out _ _ ⟨(blk_cell BK670.out 0).trans rfl, (blk_cell BK670.out 1).trans rfl, (blk_cell BK670.out 2).trans rfl, (blk_cell BK670.out 3).trans rfl, hHeld.2.2.2.2.1, hHeld.2.2.2.2.2.1, hHeld.2.2.2.2.2.2.1, hHeld.2.2.2.2.2.2.2.1, hHeld.2.2.2.2.2.2.2.2.1, hHeld.2.2.2.2.2.2.2.2.2.1, hHeld.2.2.2.2.2.2.2.2.2.2.1, hHeld.2.2.2.2.2.2.2.2.2.2.2.1, hHeld.2.2.2.2.2.2.2.2.2.2.2.2.1, hHeld.2.2.2.2.2.2.2.2.2.2.2.2.2.1, hHeld.2.2.2.2.2.2.2.2.2.2.2.2.2.2.1, hHeld.2.2.2.2.2.2.2.2.2.2.2.2.2.2.2.1, hHeld.2.2.2.2.2.2.2.2.2.2.2.2.2.2.2.2.1, hHeld.2.2.2.2.2.2.2.2.2.2.2.2.2.2.2.2.2.1, hHeld.2.2.2.2.2.2.2.2.2.2.2.2.2.2.2.2.2.2.1, hHeld.2.2.2.2.2.2.2.2.2.2.2.2.2.2.2.2.2.2.2⟩ (fun hHeld => ?_)
                                      clear hK K
                                      refine norm_ (a' := ?_) ?_ ?_
                                      rotate_left
                                      ·show Act.put _ (some 214) _ = _
                                       simp only [Act.put, List.setIfInBounds_toArray, List.set_cons_zero, List.set_cons_succ, i64_w, i32_w]
                                       rfl
                                      refine pv_ 45 (some 215) (bm 53 70368744177663) HT_.out ?_
                                      refine pv_ 46 (some 216) (bm 53 140737488355327) HT_.out ?_
                                      refine pu_ 47 (some 217) (bm 53 281474976710655) HT_.out ?_
                                      refine pu_ 48 (some 218) (bm 53 562949953421311) HT_.out ?_
                                      refine pu_ 49 (some 219) (bm 53 1125899906842623) HT_.out ?_
                                      refine pu_ 50 (some 220) (bm 53 2251799813685247) HT_.out ?_
                                      refine pv_ 51 (some 221) (bm 53 4503599627370495) HT_.out ?_
                                      refine pv_ 52 (some 222) (bm 53 9007199254740991) HT_.out ?_
                                      refine done_ (done_of HT_.out (by kernel_rfl)) ?_
                                      try go_wp2
                                      go_meet
                                      case rel => exact ⟨_, (false), sR, H', ⟨by have := HK1.out; have := HJ23.out; have := HK3.out; have := HJ59.out; have := HK5.out; have := HK6.out; first | omega | exact Nat.le_refl _⟩, ⟨RAt HO_10.out⟩, ⟨NAt (Kd.N_mono HO_11.out (fun _ hk => ⟨hk.1, ⟨hk.2.1, hk.2.2.1⟩⟩))⟩, ⟨NAt (Kd.N_mono HO_12.out (fun _ hk => ⟨hk.1, ⟨hk.2.1, hk.2.2.1⟩⟩))⟩, ⟨NAt (Kd.N_mono HO_13.out (fun _ hk => ⟨hk.1, ⟨hk.2.1, hk.2.2.1⟩⟩))⟩, ⟨bAt HB.out⟩⟩
                                    ·replace c94 := Bool.eq_false_iff.mpr c94
                                     subst c94
                                     replace H := fP H
                                     obtain ⟨t676, A97, H⟩ := bE H
                                     as_aux_lemma =>
                                      have H' := Aside0.mk H
                                      clear H
                                      try go_wp2
                                      have n0_ : Aside0 (Kd.R (Kd.int .u8) 5 ((((w87.setCell ⟨gb670, 0, none⟩ (.int .i64 ((rd_T25 t658 (ji81)).f0))).setCell ⟨gb670, 1, none⟩ (.int .i64 ((rd_T25 t658 (ji81)).f1))).setCell ⟨gb670, 2, none⟩ (.int .i64 ((rd_T25 t658 (ji81)).f2))).setCell ⟨gb670, 3, none⟩ (.slice A669_3 ((rd_T25 t658 (ji81)).f3).length c669_3)) w.heap.size (fun _ => True) (.slice Ao44 y634.length co44) y634) := ⟨RAt (Kd.R_mono (Kd.R_far (p := ⟨gb670, 3, none⟩) (Kd.R_far (p := ⟨gb670, 2, none⟩) (Kd.R_far (p := ⟨gb670, 1, none⟩) (Kd.R_far (p := ⟨gb670, 0, none⟩) (Kd.R_types HO_10.out BK670.out (by decide)) (fun _ hk => hk.2) (.int .i64 ((rd_T25 t658 (ji81)).f0))) (fun _ hk => hk.2) (.int .i64 ((rd_T25 t658 (ji81)).f1))) (fun _ hk => hk.2) (.int .i64 ((rd_T25 t658 (ji81)).f2))) (fun _ hk => hk.2) (.slice A669_3 ((rd_T25 t658 (ji81)).f3).length c669_3)) (fun _ hk => trivial))⟩
                                      have n1_ : Aside0 (Kd.N k25 25 ((((w87.setCell ⟨gb670, 0, none⟩ (.int .i64 ((rd_T25 t658 (ji81)).f0))).setCell ⟨gb670, 1, none⟩ (.int .i64 ((rd_T25 t658 (ji81)).f1))).setCell ⟨gb670, 2, none⟩ (.int .i64 ((rd_T25 t658 (ji81)).f2))).setCell ⟨gb670, 3, none⟩ (.slice A669_3 ((rd_T25 t658 (ji81)).f3).length c669_3)) w.heap.size (fun k_ => some k_ ≠ (.slice Ao44 y634.length co44 : Value).ownBlock ∧ some k_ ≠ (.slice Ao85 t643.length co85 : Value).ownBlock ∧ some k_ ≠ (.slice (some ad669) t658.length co86 : Value).ownBlock ∧ k_ ≠ gb670) (.slice Ao61 t637.length co61) t637) := ⟨NAt (Kd.N_mono (Kd.N_far (p := ⟨gb670, 3, none⟩) (Kd.N_far (p := ⟨gb670, 2, none⟩) (Kd.N_far (p := ⟨gb670, 1, none⟩) (Kd.N_far (p := ⟨gb670, 0, none⟩) (Kd.N_mono HO_11.out (fun k_ hk => (⟨hk, hk.2⟩ : _ ∧ k_ ≠ gb670))) (fun _ hk => hk.2) (.int .i64 ((rd_T25 t658 (ji81)).f0))) (fun _ hk => hk.2) (.int .i64 ((rd_T25 t658 (ji81)).f1))) (fun _ hk => hk.2) (.int .i64 ((rd_T25 t658 (ji81)).f2))) (fun _ hk => hk.2) (.slice A669_3 ((rd_T25 t658 (ji81)).f3).length c669_3)) (fun _ hk => ⟨hk.1.1.1, ⟨hk.1.1.2.1, ⟨hk.1.1.2.2, hk.1.2⟩⟩⟩))⟩
                                      have n2_ : Aside0 (Kd.N k25 25 ((((w87.setCell ⟨gb670, 0, none⟩ (.int .i64 ((rd_T25 t658 (ji81)).f0))).setCell ⟨gb670, 1, none⟩ (.int .i64 ((rd_T25 t658 (ji81)).f1))).setCell ⟨gb670, 2, none⟩ (.int .i64 ((rd_T25 t658 (ji81)).f2))).setCell ⟨gb670, 3, none⟩ (.slice A669_3 ((rd_T25 t658 (ji81)).f3).length c669_3)) w.heap.size (fun k_ => some k_ ≠ (.slice Ao44 y634.length co44 : Value).ownBlock ∧ some k_ ≠ (.slice Ao61 t637.length co61 : Value).ownBlock ∧ some k_ ≠ (.slice (some ad669) t658.length co86 : Value).ownBlock ∧ k_ ≠ gb670) (.slice Ao85 t643.length co85) t643) := ⟨NAt (Kd.N_mono (Kd.N_far (p := ⟨gb670, 3, none⟩) (Kd.N_far (p := ⟨gb670, 2, none⟩) (Kd.N_far (p := ⟨gb670, 1, none⟩) (Kd.N_far (p := ⟨gb670, 0, none⟩) (Kd.N_mono HO_12.out (fun k_ hk => (⟨hk, hk.2⟩ : _ ∧ k_ ≠ gb670))) (fun _ hk => hk.2) (.int .i64 ((rd_T25 t658 (ji81)).f0))) (fun _ hk => hk.2) (.int .i64 ((rd_T25 t658 (ji81)).f1))) (fun _ hk => hk.2) (.int .i64 ((rd_T25 t658 (ji81)).f2))) (fun _ hk => hk.2) (.slice A669_3 ((rd_T25 t658 (ji81)).f3).length c669_3)) (fun _ hk => ⟨hk.1.1.1, ⟨hk.1.1.2.1, ⟨hk.1.1.2.2, hk.1.2⟩⟩⟩))⟩
                                      have n3_ : Aside0 (Kd.N k25 25 ((((w87.setCell ⟨gb670, 0, none⟩ (.int .i64 ((rd_T25 t658 (ji81)).f0))).setCell ⟨gb670, 1, none⟩ (.int .i64 ((rd_T25 t658 (ji81)).f1))).setCell ⟨gb670, 2, none⟩ (.int .i64 ((rd_T25 t658 (ji81)).f2))).setCell ⟨gb670, 3, none⟩ (.slice A669_3 ((rd_T25 t658 (ji81)).f3).length c669_3)) w.heap.size (fun k_ => some k_ ≠ (.slice Ao44 y634.length co44 : Value).ownBlock ∧ some k_ ≠ (.slice Ao61 t637.length co61 : Value).ownBlock ∧ some k_ ≠ (.slice Ao85 t643.length co85 : Value).ownBlock ∧ k_ ≠ gb670) (.slice (some ad669) t658.length co86) t658) := ⟨NAt (Kd.N_mono (Kd.N_far (p := ⟨gb670, 3, none⟩) (Kd.N_far (p := ⟨gb670, 2, none⟩) (Kd.N_far (p := ⟨gb670, 1, none⟩) (Kd.N_far (p := ⟨gb670, 0, none⟩) (Kd.N_mono HO_13.out (fun k_ hk => (⟨hk, hk.2⟩ : _ ∧ k_ ≠ gb670))) (fun _ hk => hk.2) (.int .i64 ((rd_T25 t658 (ji81)).f0))) (fun _ hk => hk.2) (.int .i64 ((rd_T25 t658 (ji81)).f1))) (fun _ hk => hk.2) (.int .i64 ((rd_T25 t658 (ji81)).f2))) (fun _ hk => hk.2) (.slice A669_3 ((rd_T25 t658 (ji81)).f3).length c669_3)) (fun _ hk => ⟨hk.1.1.1, ⟨hk.1.1.2.1, ⟨hk.1.1.2.2, hk.1.2⟩⟩⟩))⟩
                                      have n4_ : Aside0 (Kd.V k38 38 ((((w87.setCell ⟨gb670, 0, none⟩ (.int .i64 ((rd_T25 t658 (ji81)).f0))).setCell ⟨gb670, 1, none⟩ (.int .i64 ((rd_T25 t658 (ji81)).f1))).setCell ⟨gb670, 2, none⟩ (.int .i64 ((rd_T25 t658 (ji81)).f2))).setCell ⟨gb670, 3, none⟩ (.slice A669_3 ((rd_T25 t658 (ji81)).f3).length c669_3)) w.heap.size (fun k_ => some k_ ≠ (.slice Ao44 y634.length co44 : Value).ownBlock ∧ some k_ ≠ (.slice Ao61 t637.length co61 : Value).ownBlock ∧ some k_ ≠ (.slice Ao85 t643.length co85 : Value).ownBlock ∧ some k_ ≠ (.slice (some ad669) t658.length co86 : Value).ownBlock ∧ k_ ≠ gb670) (.slice A669_3 ((rd_T25 t658 (ji81)).f3).length c669_3) ((rd_T25 t658 (ji81)).f3)) := ⟨VAt (Kd.V_mono (Kd.V_far (p := ⟨gb670, 3, none⟩) (Kd.V_far (p := ⟨gb670, 2, none⟩) (Kd.V_far (p := ⟨gb670, 1, none⟩) (Kd.V_far (p := ⟨gb670, 0, none⟩) (Kd.V_mono HL669_3.out (fun k_ hk => (⟨hk, hk.2⟩ : _ ∧ k_ ≠ gb670))) (fun _ hk => hk.2) (.int .i64 ((rd_T25 t658 (ji81)).f0))) (fun _ hk => hk.2) (.int .i64 ((rd_T25 t658 (ji81)).f1))) (fun _ hk => hk.2) (.int .i64 ((rd_T25 t658 (ji81)).f2))) (fun _ hk => hk.2) (.slice A669_3 ((rd_T25 t658 (ji81)).f3).length c669_3)) (fun _ hk => ⟨hk.1.1.1.1, ⟨hk.1.1.1.2.1, ⟨hk.1.1.1.2.2, ⟨hk.1.1.2, hk.1.2⟩⟩⟩⟩))⟩
                                      have n5_ : Aside0 (((((w87.setCell ⟨gb670, 0, none⟩ (.int .i64 ((rd_T25 t658 (ji81)).f0))).setCell ⟨gb670, 1, none⟩ (.int .i64 ((rd_T25 t658 (ji81)).f1))).setCell ⟨gb670, 2, none⟩ (.int .i64 ((rd_T25 t658 (ji81)).f2))).setCell ⟨gb670, 3, none⟩ (.slice A669_3 ((rd_T25 t658 (ji81)).f3).length c669_3)).heap[gb670]? = some (.cells #[.int .i64 ((rd_T25 t658 (ji81)).f0), .int .i64 ((rd_T25 t658 (ji81)).f1), .int .i64 ((rd_T25 t658 (ji81)).f2), .slice A669_3 ((rd_T25 t658 (ji81)).f3).length c669_3] 25 (0, 0))) := ⟨by refine bP #[.int .i64 ((rd_T25 t658 (ji81)).f0), .int .i64 ((rd_T25 t658 (ji81)).f1), .int .i64 ((rd_T25 t658 (ji81)).f2), .slice none 0 0] 3 ?_; refine bP #[.int .i64 ((rd_T25 t658 (ji81)).f0), .int .i64 ((rd_T25 t658 (ji81)).f1), .int .i64 0, .slice none 0 0] 2 ?_; refine bP #[.int .i64 ((rd_T25 t658 (ji81)).f0), .int .i64 0, .int .i64 0, .slice none 0 0] 1 ?_; refine bP #[.int .i64 0, .int .i64 0, .int .i64 0, .slice none 0 0] 0 ?_; (with_reducible repeat (first | refine blk_drewN ?_ _ | refine blk_drew ?_ | refine blk_alloc ?_ _)); exact BK670.out⟩
                                      have n6_ : Aside0 (Below w.heap.size w ((((w87.setCell ⟨gb670, 0, none⟩ (.int .i64 ((rd_T25 t658 (ji81)).f0))).setCell ⟨gb670, 1, none⟩ (.int .i64 ((rd_T25 t658 (ji81)).f1))).setCell ⟨gb670, 2, none⟩ (.int .i64 ((rd_T25 t658 (ji81)).f2))).setCell ⟨gb670, 3, none⟩ (.slice A669_3 ((rd_T25 t658 (ji81)).f3).length c669_3))) := ⟨bAt HB.out⟩
                                      (try clear HO_10)
                                      (try clear HO_11)
                                      (try clear HO_12)
                                      (try clear HO_13)
                                      (try clear HL669_3)
                                      (try clear BK670)
                                      (try clear HB)
                                      generalize ((((w87.setCell ⟨gb670, 0, none⟩ (.int .i64 ((rd_T25 t658 (ji81)).f0))).setCell ⟨gb670, 1, none⟩ (.int .i64 ((rd_T25 t658 (ji81)).f1))).setCell ⟨gb670, 2, none⟩ (.int .i64 ((rd_T25 t658 (ji81)).f2))).setCell ⟨gb670, 3, none⟩ (.slice A669_3 ((rd_T25 t658 (ji81)).f3).length c669_3)) = w98 at n0_ n1_ n2_ n3_ n4_ n5_ n6_ ⊢
                                      have HO_10 := n0_
                                      have HO_11 := n1_
                                      have HO_12 := n2_
                                      have HO_13 := n3_
                                      have HL669_3 := n4_
                                      have BK670 := n5_
                                      have HB := n6_
                                      clear n0_ n1_ n2_ n3_ n4_ n5_ n6_
                                      replace HO_10 := Aside0.mk (Kd.R_drew HO_10.out)
                                      replace HO_11 := Aside0.mk (Kd.N_drew HO_11.out)
                                      replace HO_12 := Aside0.mk (Kd.N_drew HO_12.out)
                                      replace HO_13 := Aside0.mk (Kd.N_drew HO_13.out)
                                      replace HL669_3 := Aside0.mk (Kd.V_drew HL669_3.out)
                                      replace BK670 := Aside0.mk (blk_drew BK670.out)
                                      replace HB := Aside0.mk (below_drew1 HB.out)
                                      have p671 : 0 ≤ (x17_6 : Int) := dt
                                      have q671 : x17_6 < (t643.length : Int) := dt
                                      obtain ⟨ad671, A671_3, c671_3, e671, hx671_0, hx671_1, hx671_2, hx671_3, hl671_3, hi671_3⟩ := at_T25 (Kd.N_reads' HO_12.out).2.2 x17_6 p671 q671
                                      cases e671
                                      obtain ⟨ce671, hce671, hMe671, hcc671⟩ := Kd.N_get HO_12.out z25 x17_6 p671 (by first | exact q671 | exact dt | (have e_ := (Kd.N_reads' HO_12.out).1; omega))
                                      obtain ⟨ua671_3, uc671_3, rfl, ul671_3, ge671_3⟩ := k25_openF hMe671
                                      have hv671_3 := hcc671 3 _ rfl
                                      rw [add_field _ _ 3 (by omega)] at hv671_3
                                      replace hv671_3 := Option.some.inj (hv671_3.symm.trans hx671_3)
                                      injection hv671_3 with hva_ hvn_ hvc_
                                      rw [hva_] at ge671_3
                                      rw [hvc_] at ul671_3
                                      have HL671_3 := Aside0.mk (show Kd.V k38 38 _ w.heap.size _ _ ((rd_T25 t643 x17_6).f3) from Kd.V_mk ul671_3 ge671_3)
                                      clear hva_ hvn_ hvc_ ge671_3 ul671_3 hcc671 hce671
                                      have HR671_3 := Aside0.mk hi671_3
                                      have HC671_3 := Aside0.mk hl671_3
                                      clear hi671_3 hl671_3
                                      replace p671 := eq_true p671
                                      replace q671 := eq_true q671
                                      have p672 : 0 ≤ (x17_6 : Int) := dt
                                      have q672 : x17_6 < (t643.length : Int) := dt
                                      obtain ⟨ad672, A672_3, c672_3, e672, hx672_0, hx672_1, hx672_2, hx672_3, hl672_3, hi672_3⟩ := at_T25 (Kd.N_reads' HO_12.out).2.2 x17_6 p672 q672
                                      obtain rfl : ad671 = ad672 := (by injection e672)
                                      obtain ⟨ce672, hce672, hMe672, hcc672⟩ := Kd.N_get HO_12.out z25 x17_6 p672 (by first | exact q672 | exact dt | (have e_ := (Kd.N_reads' HO_12.out).1; omega))
                                      obtain ⟨ua672_3, uc672_3, rfl, ul672_3, ge672_3⟩ := k25_openF hMe672
                                      have hv672_3 := hcc672 3 _ rfl
                                      rw [add_field _ _ 3 (by omega)] at hv672_3
                                      replace hv672_3 := Option.some.inj (hv672_3.symm.trans hx672_3)
                                      injection hv672_3 with hva_ hvn_ hvc_
                                      rw [hva_] at ge672_3
                                      rw [hvc_] at ul672_3
                                      have HL672_3 := Aside0.mk (show Kd.V k38 38 _ w.heap.size _ _ ((rd_T25 t643 x17_6).f3) from Kd.V_mk ul672_3 ge672_3)
                                      clear hva_ hvn_ hvc_ ge672_3 ul672_3 hcc672 hce672
                                      have HR672_3 := Aside0.mk hi672_3
                                      have HC672_3 := Aside0.mk hl672_3
                                      clear hi672_3 hl672_3
                                      replace p672 := eq_true p672
                                      replace q672 := eq_true q672
                                      have ea_ := Option.some.inj (hx671_3.symm.trans hx672_3)
                                      injection ea_ with ea_ en_ ec_
                                      subst ea_
                                      subst ec_
                                      clear en_
                                      have p673 : 0 ≤ (x17_6 : Int) := dt
                                      have q673 : x17_6 < (t643.length : Int) := dt
                                      obtain ⟨ad673, A673_3, c673_3, e673, hx673_0, hx673_1, hx673_2, hx673_3, hl673_3, hi673_3⟩ := at_T25 (Kd.N_reads' HO_12.out).2.2 x17_6 p673 q673
                                      obtain rfl : ad671 = ad673 := (by injection e673)
                                      obtain ⟨ce673, hce673, hMe673, hcc673⟩ := Kd.N_get HO_12.out z25 x17_6 p673 (by first | exact q673 | exact dt | (have e_ := (Kd.N_reads' HO_12.out).1; omega))
                                      obtain ⟨ua673_3, uc673_3, rfl, ul673_3, ge673_3⟩ := k25_openF hMe673
                                      have hv673_3 := hcc673 3 _ rfl
                                      rw [add_field _ _ 3 (by omega)] at hv673_3
                                      replace hv673_3 := Option.some.inj (hv673_3.symm.trans hx673_3)
                                      injection hv673_3 with hva_ hvn_ hvc_
                                      rw [hva_] at ge673_3
                                      rw [hvc_] at ul673_3
                                      have HL673_3 := Aside0.mk (show Kd.V k38 38 _ w.heap.size _ _ ((rd_T25 t643 x17_6).f3) from Kd.V_mk ul673_3 ge673_3)
                                      clear hva_ hvn_ hvc_ ge673_3 ul673_3 hcc673 hce673
                                      have HR673_3 := Aside0.mk hi673_3
                                      have HC673_3 := Aside0.mk hl673_3
                                      clear hi673_3 hl673_3
                                      replace p673 := eq_true p673
                                      replace q673 := eq_true q673
                                      have ea_ := Option.some.inj (hx671_3.symm.trans hx673_3)
                                      injection ea_ with ea_ en_ ec_
                                      subst ea_
                                      subst ec_
                                      clear en_
                                      have p674 : 0 ≤ (x17_6 : Int) := dt
                                      have q674 : x17_6 < (t643.length : Int) := dt
                                      obtain ⟨ad674, A674_3, c674_3, e674, hx674_0, hx674_1, hx674_2, hx674_3, hl674_3, hi674_3⟩ := at_T25 (Kd.N_reads' HO_12.out).2.2 x17_6 p674 q674
                                      obtain rfl : ad671 = ad674 := (by injection e674)
                                      obtain ⟨ce674, hce674, hMe674, hcc674⟩ := Kd.N_get HO_12.out z25 x17_6 p674 (by first | exact q674 | exact dt | (have e_ := (Kd.N_reads' HO_12.out).1; omega))
                                      obtain ⟨ua674_3, uc674_3, rfl, ul674_3, ge674_3⟩ := k25_openF hMe674
                                      have hv674_3 := hcc674 3 _ rfl
                                      rw [add_field _ _ 3 (by omega)] at hv674_3
                                      replace hv674_3 := Option.some.inj (hv674_3.symm.trans hx674_3)
                                      injection hv674_3 with hva_ hvn_ hvc_
                                      rw [hva_] at ge674_3
                                      rw [hvc_] at ul674_3
                                      have HL674_3 := Aside0.mk (show Kd.V k38 38 _ w.heap.size _ _ ((rd_T25 t643 x17_6).f3) from Kd.V_mk ul674_3 ge674_3)
                                      clear hva_ hvn_ hvc_ ge674_3 ul674_3 hcc674 hce674
                                      have HR674_3 := Aside0.mk hi674_3
                                      have HC674_3 := Aside0.mk hl674_3
                                      clear hi674_3 hl674_3
                                      replace p674 := eq_true p674
                                      replace q674 := eq_true q674
                                      have ea_ := Option.some.inj (hx671_3.symm.trans hx674_3)
                                      injection ea_ with ea_ en_ ec_
                                      subst ea_
                                      subst ec_
                                      clear en_
                                      refine start_ (n := 53) (S := fun w' => w'.cell? ⟨gb670, 0, none⟩ = some (.int .i64 ((rd_T25 t658 (ji81)).f0)) ∧ w'.cell? ⟨gb670, 1, none⟩ = some (.int .i64 ((rd_T25 t658 (ji81)).f1)) ∧ w'.cell? ⟨gb670, 2, none⟩ = some (.int .i64 ((rd_T25 t658 (ji81)).f2)) ∧ w'.cell? ⟨gb670, 3, none⟩ = some (.slice A669_3 ((rd_T25 t658 (ji81)).f3).length c669_3) ∧ w'.cell? (ad671.add ((x17_6).toNat * 4)) = some (.int .i64 ((rd_T25 t643 x17_6).f0)) ∧ w'.cell? ⟨(ad671.add ((x17_6).toNat * 4)).block, (ad671.add ((x17_6).toNat * 4)).off + 1, none⟩ = some (.int .i64 ((rd_T25 t643 x17_6).f1)) ∧ w'.cell? ⟨(ad671.add ((x17_6).toNat * 4)).block, (ad671.add ((x17_6).toNat * 4)).off + 2, none⟩ = some (.int .i64 ((rd_T25 t643 x17_6).f2)) ∧ w'.cell? ⟨(ad671.add ((x17_6).toNat * 4)).block, (ad671.add ((x17_6).toNat * 4)).off + 3, none⟩ = some (.slice A671_3 ((rd_T25 t643 x17_6).f3).length c671_3) ∧ w'.cell? (ad671.add ((x17_6).toNat * 4)) = some (.int .i64 ((rd_T25 t643 x17_6).f0)) ∧ w'.cell? ⟨(ad671.add ((x17_6).toNat * 4)).block, (ad671.add ((x17_6).toNat * 4)).off + 1, none⟩ = some (.int .i64 ((rd_T25 t643 x17_6).f1)) ∧ w'.cell? ⟨(ad671.add ((x17_6).toNat * 4)).block, (ad671.add ((x17_6).toNat * 4)).off + 2, none⟩ = some (.int .i64 ((rd_T25 t643 x17_6).f2)) ∧ w'.cell? ⟨(ad671.add ((x17_6).toNat * 4)).block, (ad671.add ((x17_6).toNat * 4)).off + 3, none⟩ = some (.slice A671_3 ((rd_T25 t643 x17_6).f3).length c671_3) ∧ w'.cell? (ad671.add ((x17_6).toNat * 4)) = some (.int .i64 ((rd_T25 t643 x17_6).f0)) ∧ w'.cell? ⟨(ad671.add ((x17_6).toNat * 4)).block, (ad671.add ((x17_6).toNat * 4)).off + 1, none⟩ = some (.int .i64 ((rd_T25 t643 x17_6).f1)) ∧ w'.cell? ⟨(ad671.add ((x17_6).toNat * 4)).block, (ad671.add ((x17_6).toNat * 4)).off + 2, none⟩ = some (.int .i64 ((rd_T25 t643 x17_6).f2)) ∧ w'.cell? ⟨(ad671.add ((x17_6).toNat * 4)).block, (ad671.add ((x17_6).toNat * 4)).off + 3, none⟩ = some (.slice A671_3 ((rd_T25 t643 x17_6).f3).length c671_3) ∧ w'.cell? (ad671.add ((x17_6).toNat * 4)) = some (.int .i64 ((rd_T25 t643 x17_6).f0)) ∧ w'.cell? ⟨(ad671.add ((x17_6).toNat * 4)).block, (ad671.add ((x17_6).toNat * 4)).off + 1, none⟩ = some (.int .i64 ((rd_T25 t643 x17_6).f1)) ∧ w'.cell? ⟨(ad671.add ((x17_6).toNat * 4)).block, (ad671.add ((x17_6).toNat * 4)).off + 2, none⟩ = some (.int .i64 ((rd_T25 t643 x17_6).f2)) ∧ w'.cell? ⟨(ad671.add ((x17_6).toNat * 4)).block, (ad671.add ((x17_6).toNat * 4)).off + 3, none⟩ = some (.slice A671_3 ((rd_T25 t643 x17_6).f3).length c671_3)) (ds := []) (bm 53 0) (by kernel_rfl) rfl rfl ⟨(blk_cell BK670.out 0).trans rfl, (blk_cell BK670.out 1).trans rfl, (blk_cell BK670.out 2).trans rfl, (blk_cell BK670.out 3).trans rfl, hx671_0, hx671_1, hx671_2, hx671_3, hx672_0, hx672_1, hx672_2, hx672_3, hx673_0, hx673_1, hx673_2, hx673_3, hx674_0, hx674_1, hx674_2, hx674_3⟩ (fun hHeld => ?_); refine with_tabW tmesislaw10_SplitJoins.tab32 tmesislaw10_SplitJoins.bits32 (fun HT_ HW_ => ?_)
                                      generalize w98.drew = w99 at HO_10 HO_11 HO_12 HO_13 HL669_3 BK670 HB HL671_3 HL672_3 HL673_3 HL674_3 HR671_3 HR672_3 HR673_3 HR674_3 hx671_0 hx671_1 hx671_2 hx671_3 hx672_0 hx672_1 hx672_2 hx672_3 hx673_0 hx673_1 hx673_2 hx673_3 hx674_0 hx674_1 hx674_2 hx674_3 hHeld ⊢
                                      refine pv_ 0 (some 170) (bm 53 1) HT_.out ?_
                                      refine pv_ 2 (some 172) (bm 53 5) HT_.out ?_
                                      refine pv_ 3 (some 173) (bm 53 13) HT_.out ?_
                                      refine pv_ 4 (some 174) (bm 53 29) HT_.out ?_
                                      refine pv_ 5 (some 175) (bm 53 61) HT_.out ?_
                                      refine pv_ 7 (some 177) (bm 53 189) HT_.out ?_
                                      refine pv_ 8 (some 178) (bm 53 445) HT_.out ?_
                                      refine tk_ 1 (some 171) (bm 53 447) HT_.out HW_.out hHeld ?_
                                      refine tk_ 6 (some 176) (bm 53 511) HT_.out HW_.out hHeld ?_
                                      refine pv_ 9 (some 179) (bm 53 1023) HT_.out ?_
                                      refine pv_ 10 (some 180) (bm 53 2047) HT_.out ?_
                                      refine pv_ 11 (some 181) (bm 53 4095) HT_.out ?_
                                      refine pv_ 12 (some 182) (bm 53 8191) HT_.out ?_
                                      refine pv_ 14 (some 184) (bm 53 24575) HT_.out ?_
                                      refine pv_ 15 (some 185) (bm 53 57343) HT_.out ?_
                                      refine pv_ 16 (some 186) (bm 53 122879) HT_.out ?_
                                      refine pv_ 17 (some 187) (bm 53 253951) HT_.out ?_
                                      refine pv_ 19 (some 189) (bm 53 778239) HT_.out ?_
                                      refine pv_ 20 (some 190) (bm 53 1826815) HT_.out ?_
                                      refine tk_ 13 (some 183) (bm 53 1835007) HT_.out HW_.out hHeld ?_
                                      refine tk_ 18 (some 188) (bm 53 2097151) HT_.out HW_.out hHeld ?_
                                      refine pv_ 21 (some 191) (bm 53 4194303) HT_.out ?_
                                      refine pv_ 22 (some 192) (bm 53 8388607) HT_.out ?_
                                      refine pv_ 23 (some 193) (bm 53 16777215) HT_.out ?_
                                      refine pv_ 24 (some 194) (bm 53 33554431) HT_.out ?_
                                      refine pv_ 25 (some 195) (bm 53 67108863) HT_.out ?_
                                      refine pv_ 27 (some 197) (bm 53 201326591) HT_.out ?_
                                      refine pv_ 28 (some 198) (bm 53 469762047) HT_.out ?_
                                      refine pv_ 29 (some 199) (bm 53 1006632959) HT_.out ?_
                                      refine pv_ 30 (some 200) (bm 53 2080374783) HT_.out ?_
                                      refine pv_ 32 (some 202) (bm 53 6375342079) HT_.out ?_
                                      refine tk_ 26 (some 196) (bm 53 6442450943) HT_.out HW_.out hHeld ?_
                                      refine tk_ 31 (some 201) (bm 53 8589934591) HT_.out HW_.out hHeld ?_
                                      refine pv_ 33 (some 203) (bm 53 17179869183) HT_.out ?_
                                      refine pv_ 34 (some 204) (bm 53 34359738367) HT_.out ?_
                                      refine pv_ 35 (some 205) (bm 53 68719476735) HT_.out ?_
                                      refine pv_ 36 (some 206) (bm 53 137438953471) HT_.out ?_
                                      refine pv_ 37 (some 207) (bm 53 274877906943) HT_.out ?_
                                      refine pv_ 39 (some 209) (bm 53 824633720831) HT_.out ?_
                                      refine pv_ 40 (some 210) (bm 53 1924145348607) HT_.out ?_
                                      refine pv_ 41 (some 211) (bm 53 4123168604159) HT_.out ?_
                                      refine pv_ 42 (some 212) (bm 53 8521215115263) HT_.out ?_
                                      refine tk_ 38 (some 208) (bm 53 8796093022207) HT_.out HW_.out hHeld ?_
                                      refine tk_ 43 (some 213) (bm 53 17592186044415) HT_.out HW_.out hHeld ?_
                                      refine one_ (i := 44) (N := some 214) (bm 53 35184372088831) rfl rfl (one_of HT_.out (by kernel_rfl)) (by decide) (fun K hK => ?_)
                                      refine goes_ Tryd.func21 (by kernel_rfl) rfl #[.slice A669_3 ((rd_T25 t658 (ji81)).f3).length c669_3, .slice A671_3 ((rd_T25 t643 x17_6).f3).length c671_3] (by rfl) rfl rfl (by (try simp only [List.map_toArray, List.map_cons, List.map_nil]); first | done | (simp only [hji81]; rfl) | rfl | (simp only [List.length_drop, List.length_take]; rfl)) ?_
                                      with_reducible refine (tmesisref07_Alike.calls k6 _ _ ((rd_T25 t658 (ji81)).f3) _ _ ((rd_T25 t643 x17_6).f3) false _ ?side1 ?side2 ?side3 ?side4 A93.out).mono ?_
                                      (case side1 => first | exact CAt ((Kd.V_reads' HL669_3.out).2.2) | exact CAt ((Kd.V_reads' (VAt HL669_3.out)).2.2))
                                      (case side2 => exact HC669_3.out)
                                      (case side3 => repeat (first | exact (CAt HR674_3.out) | (with_reducible refine Kd.C_alloc ?_ _) | (with_reducible refine Kd.C_drewN ?_ _) | (with_reducible refine Kd.C_drew ?_)))
                                      (case side4 => exact HC674_3.out)
                                      rintro e w' ⟨rfl, ⟨nd, rfl⟩⟩
                                      refine ⟨_, rfl, ?_⟩
                                      refine hK.out _ _ ⟨(blk_cell BK670.out 0).trans rfl, (blk_cell BK670.out 1).trans rfl, (blk_cell BK670.out 2).trans rfl, (blk_cell BK670.out 3).trans rfl, hHeld.2.2.2.2.1, hHeld.2.2.2.2.2.1, hHeld.2.2.2.2.2.2.1, hHeld.2.2.2.2.2.2.2.1, hHeld.2.2.2.2.2.2.2.2.1, hHeld.2.2.2.2.2.2.2.2.2.1, hHeld.2.2.2.2.2.2.2.2.2.2.1, hHeld.2.2.2.2.2.2.2.2.2.2.2.1, hHeld.2.2.2.2.2.2.2.2.2.2.2.2.1, hHeld.2.2.2.2.2.2.2.2.2.2.2.2.2.1, hHeld.2.2.2.2.2.2.2.2.2.2.2.2.2.2.1, hHeld.2.2.2.2.2.2.2.2.2.2.2.2.2.2.2.1, hHeld.2.2.2.2.2.2.2.2.2.2.2.2.2.2.2.2.1, hHeld.2.2.2.2.2.2.2.2.2.2.2.2.2.2.2.2.2.1, hHeld.2.2.2.2.2.2.2.2.2.2.2.2.2.2.2.2.2.2.1, hHeld.2.2.2.2.2.2.2.2.2.2.2.2.2.2.2.2.2.2.2⟩ (fun hHeld => ?_)
                                      clear hK K
                                      refine norm_ (a' := ?_) ?_ ?_
                                      rotate_left
                                      ·show Act.put _ (some 214) _ = _
                                       simp only [Act.put, List.setIfInBounds_toArray, List.set_cons_zero, List.set_cons_succ, i64_w, i32_w]
                                       rfl
                                      refine pv_ 45 (some 215) (bm 53 70368744177663) HT_.out ?_
                                      refine pv_ 46 (some 216) (bm 53 140737488355327) HT_.out ?_
                                      refine pv_ 47 (some 217) (bm 53 281474976710655) HT_.out ?_
                                      refine tk_ 48 (some 218) (bm 53 562949953421311) HT_.out HW_.out hHeld ?_
                                      refine one_ (i := 49) (N := some 219) (bm 53 1125899906842623) rfl rfl (one_of HT_.out (by kernel_rfl)) (by decide) (fun K hK => ?_)
                                      refine goes_ Tryd.func22 (by kernel_rfl) rfl #[.slice A669_3 ((rd_T25 t658 (ji81)).f3).length c669_3] (by rfl) rfl rfl (by (try simp only [List.map_toArray, List.map_cons, List.map_nil]); first | done | (simp only [hji81]; rfl) | rfl | (simp only [List.length_drop, List.length_take]; rfl)) ?_
                                      with_reducible refine (tmesislaw10_bad.calls k6 _ _ ((rd_T25 t658 (ji81)).f3) t676 _ ?side1 ?side2 A97.out).mono ?_
                                      (case side1 => first | exact CAt ((Kd.V_reads' HL669_3.out).2.2) | exact CAt ((Kd.V_reads' (VAt HL669_3.out)).2.2))
                                      (case side2 => exact HC669_3.out)
                                      rintro e w' ⟨rfl, ⟨nd, rfl⟩⟩
                                      refine ⟨_, rfl, ?_⟩
                                      refine hK.out _ _ ⟨(blk_cell BK670.out 0).trans rfl, (blk_cell BK670.out 1).trans rfl, (blk_cell BK670.out 2).trans rfl, (blk_cell BK670.out 3).trans rfl, hHeld.2.2.2.2.1, hHeld.2.2.2.2.2.1, hHeld.2.2.2.2.2.2.1, hHeld.2.2.2.2.2.2.2.1, hHeld.2.2.2.2.2.2.2.2.1, hHeld.2.2.2.2.2.2.2.2.2.1, hHeld.2.2.2.2.2.2.2.2.2.2.1, hHeld.2.2.2.2.2.2.2.2.2.2.2.1, hHeld.2.2.2.2.2.2.2.2.2.2.2.2.1, hHeld.2.2.2.2.2.2.2.2.2.2.2.2.2.1, hHeld.2.2.2.2.2.2.2.2.2.2.2.2.2.2.1, hHeld.2.2.2.2.2.2.2.2.2.2.2.2.2.2.2.1, hHeld.2.2.2.2.2.2.2.2.2.2.2.2.2.2.2.2.1, hHeld.2.2.2.2.2.2.2.2.2.2.2.2.2.2.2.2.2.1, hHeld.2.2.2.2.2.2.2.2.2.2.2.2.2.2.2.2.2.2.1, hHeld.2.2.2.2.2.2.2.2.2.2.2.2.2.2.2.2.2.2.2⟩ (fun hHeld => ?_)
                                      clear hK K
                                      refine norm_ (a' := ?_) ?_ ?_
                                      rotate_left
                                      ·show Act.put _ (some 219) _ = _
                                       simp only [Act.put, List.setIfInBounds_toArray, List.set_cons_zero, List.set_cons_succ, i64_w, i32_w]
                                       rfl
                                      refine pv_ 50 (some 220) (bm 53 2251799813685247) HT_.out ?_
                                      refine pv_ 51 (some 221) (bm 53 4503599627370495) HT_.out ?_
                                      refine pv_ 52 (some 222) (bm 53 9007199254740991) HT_.out ?_
                                      refine done_ (done_of HT_.out (by kernel_rfl)) ?_
                                      try go_wp2
                                      go_meet
                                      case rel => exact ⟨_, (!t676), sR, H', ⟨by have := HK1.out; have := HJ23.out; have := HK3.out; have := HJ59.out; have := HK5.out; have := HK6.out; first | omega | exact Nat.le_refl _⟩, ⟨RAt HO_10.out⟩, ⟨NAt (Kd.N_mono HO_11.out (fun _ hk => ⟨hk.1, ⟨hk.2.1, hk.2.2.1⟩⟩))⟩, ⟨NAt (Kd.N_mono HO_12.out (fun _ hk => ⟨hk.1, ⟨hk.2.1, hk.2.2.1⟩⟩))⟩, ⟨NAt (Kd.N_mono HO_13.out (fun _ hk => ⟨hk.1, ⟨hk.2.1, hk.2.2.1⟩⟩))⟩, ⟨bAt HB.out⟩⟩
                                   ·rw [if_neg c92] at H
                                    obtain ⟨c92b0, c92b1⟩ := neB c92
                                    as_aux_lemma =>
                                     have H' := Aside0.mk H
                                     clear H
                                     try go_wp2
                                     have n0_ : Aside0 (Kd.R (Kd.int .u8) 5 ((((w87.setCell ⟨gb670, 0, none⟩ (.int .i64 ((rd_T25 t658 (ji81)).f0))).setCell ⟨gb670, 1, none⟩ (.int .i64 ((rd_T25 t658 (ji81)).f1))).setCell ⟨gb670, 2, none⟩ (.int .i64 ((rd_T25 t658 (ji81)).f2))).setCell ⟨gb670, 3, none⟩ (.slice A669_3 ((rd_T25 t658 (ji81)).f3).length c669_3)) w.heap.size (fun _ => True) (.slice Ao44 y634.length co44) y634) := ⟨RAt (Kd.R_mono (Kd.R_far (p := ⟨gb670, 3, none⟩) (Kd.R_far (p := ⟨gb670, 2, none⟩) (Kd.R_far (p := ⟨gb670, 1, none⟩) (Kd.R_far (p := ⟨gb670, 0, none⟩) (Kd.R_types HO_10.out BK670.out (by decide)) (fun _ hk => hk.2) (.int .i64 ((rd_T25 t658 (ji81)).f0))) (fun _ hk => hk.2) (.int .i64 ((rd_T25 t658 (ji81)).f1))) (fun _ hk => hk.2) (.int .i64 ((rd_T25 t658 (ji81)).f2))) (fun _ hk => hk.2) (.slice A669_3 ((rd_T25 t658 (ji81)).f3).length c669_3)) (fun _ hk => trivial))⟩
                                     have n1_ : Aside0 (Kd.N k25 25 ((((w87.setCell ⟨gb670, 0, none⟩ (.int .i64 ((rd_T25 t658 (ji81)).f0))).setCell ⟨gb670, 1, none⟩ (.int .i64 ((rd_T25 t658 (ji81)).f1))).setCell ⟨gb670, 2, none⟩ (.int .i64 ((rd_T25 t658 (ji81)).f2))).setCell ⟨gb670, 3, none⟩ (.slice A669_3 ((rd_T25 t658 (ji81)).f3).length c669_3)) w.heap.size (fun k_ => some k_ ≠ (.slice Ao44 y634.length co44 : Value).ownBlock ∧ some k_ ≠ (.slice Ao85 t643.length co85 : Value).ownBlock ∧ some k_ ≠ (.slice (some ad669) t658.length co86 : Value).ownBlock ∧ k_ ≠ gb670) (.slice Ao61 t637.length co61) t637) := ⟨NAt (Kd.N_mono (Kd.N_far (p := ⟨gb670, 3, none⟩) (Kd.N_far (p := ⟨gb670, 2, none⟩) (Kd.N_far (p := ⟨gb670, 1, none⟩) (Kd.N_far (p := ⟨gb670, 0, none⟩) (Kd.N_mono HO_11.out (fun k_ hk => (⟨hk, hk.2⟩ : _ ∧ k_ ≠ gb670))) (fun _ hk => hk.2) (.int .i64 ((rd_T25 t658 (ji81)).f0))) (fun _ hk => hk.2) (.int .i64 ((rd_T25 t658 (ji81)).f1))) (fun _ hk => hk.2) (.int .i64 ((rd_T25 t658 (ji81)).f2))) (fun _ hk => hk.2) (.slice A669_3 ((rd_T25 t658 (ji81)).f3).length c669_3)) (fun _ hk => ⟨hk.1.1.1, ⟨hk.1.1.2.1, ⟨hk.1.1.2.2, hk.1.2⟩⟩⟩))⟩
                                     have n2_ : Aside0 (Kd.N k25 25 ((((w87.setCell ⟨gb670, 0, none⟩ (.int .i64 ((rd_T25 t658 (ji81)).f0))).setCell ⟨gb670, 1, none⟩ (.int .i64 ((rd_T25 t658 (ji81)).f1))).setCell ⟨gb670, 2, none⟩ (.int .i64 ((rd_T25 t658 (ji81)).f2))).setCell ⟨gb670, 3, none⟩ (.slice A669_3 ((rd_T25 t658 (ji81)).f3).length c669_3)) w.heap.size (fun k_ => some k_ ≠ (.slice Ao44 y634.length co44 : Value).ownBlock ∧ some k_ ≠ (.slice Ao61 t637.length co61 : Value).ownBlock ∧ some k_ ≠ (.slice (some ad669) t658.length co86 : Value).ownBlock ∧ k_ ≠ gb670) (.slice Ao85 t643.length co85) t643) := ⟨NAt (Kd.N_mono (Kd.N_far (p := ⟨gb670, 3, none⟩) (Kd.N_far (p := ⟨gb670, 2, none⟩) (Kd.N_far (p := ⟨gb670, 1, none⟩) (Kd.N_far (p := ⟨gb670, 0, none⟩) (Kd.N_mono HO_12.out (fun k_ hk => (⟨hk, hk.2⟩ : _ ∧ k_ ≠ gb670))) (fun _ hk => hk.2) (.int .i64 ((rd_T25 t658 (ji81)).f0))) (fun _ hk => hk.2) (.int .i64 ((rd_T25 t658 (ji81)).f1))) (fun _ hk => hk.2) (.int .i64 ((rd_T25 t658 (ji81)).f2))) (fun _ hk => hk.2) (.slice A669_3 ((rd_T25 t658 (ji81)).f3).length c669_3)) (fun _ hk => ⟨hk.1.1.1, ⟨hk.1.1.2.1, ⟨hk.1.1.2.2, hk.1.2⟩⟩⟩))⟩
                                     have n3_ : Aside0 (Kd.N k25 25 ((((w87.setCell ⟨gb670, 0, none⟩ (.int .i64 ((rd_T25 t658 (ji81)).f0))).setCell ⟨gb670, 1, none⟩ (.int .i64 ((rd_T25 t658 (ji81)).f1))).setCell ⟨gb670, 2, none⟩ (.int .i64 ((rd_T25 t658 (ji81)).f2))).setCell ⟨gb670, 3, none⟩ (.slice A669_3 ((rd_T25 t658 (ji81)).f3).length c669_3)) w.heap.size (fun k_ => some k_ ≠ (.slice Ao44 y634.length co44 : Value).ownBlock ∧ some k_ ≠ (.slice Ao61 t637.length co61 : Value).ownBlock ∧ some k_ ≠ (.slice Ao85 t643.length co85 : Value).ownBlock ∧ k_ ≠ gb670) (.slice (some ad669) t658.length co86) t658) := ⟨NAt (Kd.N_mono (Kd.N_far (p := ⟨gb670, 3, none⟩) (Kd.N_far (p := ⟨gb670, 2, none⟩) (Kd.N_far (p := ⟨gb670, 1, none⟩) (Kd.N_far (p := ⟨gb670, 0, none⟩) (Kd.N_mono HO_13.out (fun k_ hk => (⟨hk, hk.2⟩ : _ ∧ k_ ≠ gb670))) (fun _ hk => hk.2) (.int .i64 ((rd_T25 t658 (ji81)).f0))) (fun _ hk => hk.2) (.int .i64 ((rd_T25 t658 (ji81)).f1))) (fun _ hk => hk.2) (.int .i64 ((rd_T25 t658 (ji81)).f2))) (fun _ hk => hk.2) (.slice A669_3 ((rd_T25 t658 (ji81)).f3).length c669_3)) (fun _ hk => ⟨hk.1.1.1, ⟨hk.1.1.2.1, ⟨hk.1.1.2.2, hk.1.2⟩⟩⟩))⟩
                                     have n4_ : Aside0 (Kd.V k38 38 ((((w87.setCell ⟨gb670, 0, none⟩ (.int .i64 ((rd_T25 t658 (ji81)).f0))).setCell ⟨gb670, 1, none⟩ (.int .i64 ((rd_T25 t658 (ji81)).f1))).setCell ⟨gb670, 2, none⟩ (.int .i64 ((rd_T25 t658 (ji81)).f2))).setCell ⟨gb670, 3, none⟩ (.slice A669_3 ((rd_T25 t658 (ji81)).f3).length c669_3)) w.heap.size (fun k_ => some k_ ≠ (.slice Ao44 y634.length co44 : Value).ownBlock ∧ some k_ ≠ (.slice Ao61 t637.length co61 : Value).ownBlock ∧ some k_ ≠ (.slice Ao85 t643.length co85 : Value).ownBlock ∧ some k_ ≠ (.slice (some ad669) t658.length co86 : Value).ownBlock ∧ k_ ≠ gb670) (.slice A669_3 ((rd_T25 t658 (ji81)).f3).length c669_3) ((rd_T25 t658 (ji81)).f3)) := ⟨VAt (Kd.V_mono (Kd.V_far (p := ⟨gb670, 3, none⟩) (Kd.V_far (p := ⟨gb670, 2, none⟩) (Kd.V_far (p := ⟨gb670, 1, none⟩) (Kd.V_far (p := ⟨gb670, 0, none⟩) (Kd.V_mono HL669_3.out (fun k_ hk => (⟨hk, hk.2⟩ : _ ∧ k_ ≠ gb670))) (fun _ hk => hk.2) (.int .i64 ((rd_T25 t658 (ji81)).f0))) (fun _ hk => hk.2) (.int .i64 ((rd_T25 t658 (ji81)).f1))) (fun _ hk => hk.2) (.int .i64 ((rd_T25 t658 (ji81)).f2))) (fun _ hk => hk.2) (.slice A669_3 ((rd_T25 t658 (ji81)).f3).length c669_3)) (fun _ hk => ⟨hk.1.1.1.1, ⟨hk.1.1.1.2.1, ⟨hk.1.1.1.2.2, ⟨hk.1.1.2, hk.1.2⟩⟩⟩⟩))⟩
                                     have n5_ : Aside0 (((((w87.setCell ⟨gb670, 0, none⟩ (.int .i64 ((rd_T25 t658 (ji81)).f0))).setCell ⟨gb670, 1, none⟩ (.int .i64 ((rd_T25 t658 (ji81)).f1))).setCell ⟨gb670, 2, none⟩ (.int .i64 ((rd_T25 t658 (ji81)).f2))).setCell ⟨gb670, 3, none⟩ (.slice A669_3 ((rd_T25 t658 (ji81)).f3).length c669_3)).heap[gb670]? = some (.cells #[.int .i64 ((rd_T25 t658 (ji81)).f0), .int .i64 ((rd_T25 t658 (ji81)).f1), .int .i64 ((rd_T25 t658 (ji81)).f2), .slice A669_3 ((rd_T25 t658 (ji81)).f3).length c669_3] 25 (0, 0))) := ⟨by refine bP #[.int .i64 ((rd_T25 t658 (ji81)).f0), .int .i64 ((rd_T25 t658 (ji81)).f1), .int .i64 ((rd_T25 t658 (ji81)).f2), .slice none 0 0] 3 ?_; refine bP #[.int .i64 ((rd_T25 t658 (ji81)).f0), .int .i64 ((rd_T25 t658 (ji81)).f1), .int .i64 0, .slice none 0 0] 2 ?_; refine bP #[.int .i64 ((rd_T25 t658 (ji81)).f0), .int .i64 0, .int .i64 0, .slice none 0 0] 1 ?_; refine bP #[.int .i64 0, .int .i64 0, .int .i64 0, .slice none 0 0] 0 ?_; (with_reducible repeat (first | refine blk_drewN ?_ _ | refine blk_drew ?_ | refine blk_alloc ?_ _)); exact BK670.out⟩
                                     have n6_ : Aside0 (Below w.heap.size w ((((w87.setCell ⟨gb670, 0, none⟩ (.int .i64 ((rd_T25 t658 (ji81)).f0))).setCell ⟨gb670, 1, none⟩ (.int .i64 ((rd_T25 t658 (ji81)).f1))).setCell ⟨gb670, 2, none⟩ (.int .i64 ((rd_T25 t658 (ji81)).f2))).setCell ⟨gb670, 3, none⟩ (.slice A669_3 ((rd_T25 t658 (ji81)).f3).length c669_3))) := ⟨bAt HB.out⟩
                                     (try clear HO_10)
                                     (try clear HO_11)
                                     (try clear HO_12)
                                     (try clear HO_13)
                                     (try clear HL669_3)
                                     (try clear BK670)
                                     (try clear HB)
                                     generalize ((((w87.setCell ⟨gb670, 0, none⟩ (.int .i64 ((rd_T25 t658 (ji81)).f0))).setCell ⟨gb670, 1, none⟩ (.int .i64 ((rd_T25 t658 (ji81)).f1))).setCell ⟨gb670, 2, none⟩ (.int .i64 ((rd_T25 t658 (ji81)).f2))).setCell ⟨gb670, 3, none⟩ (.slice A669_3 ((rd_T25 t658 (ji81)).f3).length c669_3)) = w100 at n0_ n1_ n2_ n3_ n4_ n5_ n6_ ⊢
                                     have HO_10 := n0_
                                     have HO_11 := n1_
                                     have HO_12 := n2_
                                     have HO_13 := n3_
                                     have HL669_3 := n4_
                                     have BK670 := n5_
                                     have HB := n6_
                                     clear n0_ n1_ n2_ n3_ n4_ n5_ n6_
                                     replace HO_10 := Aside0.mk (Kd.R_drew HO_10.out)
                                     replace HO_11 := Aside0.mk (Kd.N_drew HO_11.out)
                                     replace HO_12 := Aside0.mk (Kd.N_drew HO_12.out)
                                     replace HO_13 := Aside0.mk (Kd.N_drew HO_13.out)
                                     replace HL669_3 := Aside0.mk (Kd.V_drew HL669_3.out)
                                     replace BK670 := Aside0.mk (blk_drew BK670.out)
                                     replace HB := Aside0.mk (below_drew1 HB.out)
                                     have p671 : 0 ≤ (x17_6 : Int) := dt
                                     have q671 : x17_6 < (t643.length : Int) := dt
                                     obtain ⟨ad671, A671_3, c671_3, e671, hx671_0, hx671_1, hx671_2, hx671_3, hl671_3, hi671_3⟩ := at_T25 (Kd.N_reads' HO_12.out).2.2 x17_6 p671 q671
                                     cases e671
                                     obtain ⟨ce671, hce671, hMe671, hcc671⟩ := Kd.N_get HO_12.out z25 x17_6 p671 (by first | exact q671 | exact dt | (have e_ := (Kd.N_reads' HO_12.out).1; omega))
                                     obtain ⟨ua671_3, uc671_3, rfl, ul671_3, ge671_3⟩ := k25_openF hMe671
                                     have hv671_3 := hcc671 3 _ rfl
                                     rw [add_field _ _ 3 (by omega)] at hv671_3
                                     replace hv671_3 := Option.some.inj (hv671_3.symm.trans hx671_3)
                                     injection hv671_3 with hva_ hvn_ hvc_
                                     rw [hva_] at ge671_3
                                     rw [hvc_] at ul671_3
                                     have HL671_3 := Aside0.mk (show Kd.V k38 38 _ w.heap.size _ _ ((rd_T25 t643 x17_6).f3) from Kd.V_mk ul671_3 ge671_3)
                                     clear hva_ hvn_ hvc_ ge671_3 ul671_3 hcc671 hce671
                                     have HR671_3 := Aside0.mk hi671_3
                                     have HC671_3 := Aside0.mk hl671_3
                                     clear hi671_3 hl671_3
                                     replace p671 := eq_true p671
                                     replace q671 := eq_true q671
                                     have p672 : 0 ≤ (x17_6 : Int) := dt
                                     have q672 : x17_6 < (t643.length : Int) := dt
                                     obtain ⟨ad672, A672_3, c672_3, e672, hx672_0, hx672_1, hx672_2, hx672_3, hl672_3, hi672_3⟩ := at_T25 (Kd.N_reads' HO_12.out).2.2 x17_6 p672 q672
                                     obtain rfl : ad671 = ad672 := (by injection e672)
                                     obtain ⟨ce672, hce672, hMe672, hcc672⟩ := Kd.N_get HO_12.out z25 x17_6 p672 (by first | exact q672 | exact dt | (have e_ := (Kd.N_reads' HO_12.out).1; omega))
                                     obtain ⟨ua672_3, uc672_3, rfl, ul672_3, ge672_3⟩ := k25_openF hMe672
                                     have hv672_3 := hcc672 3 _ rfl
                                     rw [add_field _ _ 3 (by omega)] at hv672_3
                                     replace hv672_3 := Option.some.inj (hv672_3.symm.trans hx672_3)
                                     injection hv672_3 with hva_ hvn_ hvc_
                                     rw [hva_] at ge672_3
                                     rw [hvc_] at ul672_3
                                     have HL672_3 := Aside0.mk (show Kd.V k38 38 _ w.heap.size _ _ ((rd_T25 t643 x17_6).f3) from Kd.V_mk ul672_3 ge672_3)
                                     clear hva_ hvn_ hvc_ ge672_3 ul672_3 hcc672 hce672
                                     have HR672_3 := Aside0.mk hi672_3
                                     have HC672_3 := Aside0.mk hl672_3
                                     clear hi672_3 hl672_3
                                     replace p672 := eq_true p672
                                     replace q672 := eq_true q672
                                     have ea_ := Option.some.inj (hx671_3.symm.trans hx672_3)
                                     injection ea_ with ea_ en_ ec_
                                     subst ea_
                                     subst ec_
                                     clear en_
                                     have p673 : 0 ≤ (x17_6 : Int) := dt
                                     have q673 : x17_6 < (t643.length : Int) := dt
                                     obtain ⟨ad673, A673_3, c673_3, e673, hx673_0, hx673_1, hx673_2, hx673_3, hl673_3, hi673_3⟩ := at_T25 (Kd.N_reads' HO_12.out).2.2 x17_6 p673 q673
                                     obtain rfl : ad671 = ad673 := (by injection e673)
                                     obtain ⟨ce673, hce673, hMe673, hcc673⟩ := Kd.N_get HO_12.out z25 x17_6 p673 (by first | exact q673 | exact dt | (have e_ := (Kd.N_reads' HO_12.out).1; omega))
                                     obtain ⟨ua673_3, uc673_3, rfl, ul673_3, ge673_3⟩ := k25_openF hMe673
                                     have hv673_3 := hcc673 3 _ rfl
                                     rw [add_field _ _ 3 (by omega)] at hv673_3
                                     replace hv673_3 := Option.some.inj (hv673_3.symm.trans hx673_3)
                                     injection hv673_3 with hva_ hvn_ hvc_
                                     rw [hva_] at ge673_3
                                     rw [hvc_] at ul673_3
                                     have HL673_3 := Aside0.mk (show Kd.V k38 38 _ w.heap.size _ _ ((rd_T25 t643 x17_6).f3) from Kd.V_mk ul673_3 ge673_3)
                                     clear hva_ hvn_ hvc_ ge673_3 ul673_3 hcc673 hce673
                                     have HR673_3 := Aside0.mk hi673_3
                                     have HC673_3 := Aside0.mk hl673_3
                                     clear hi673_3 hl673_3
                                     replace p673 := eq_true p673
                                     replace q673 := eq_true q673
                                     have ea_ := Option.some.inj (hx671_3.symm.trans hx673_3)
                                     injection ea_ with ea_ en_ ec_
                                     subst ea_
                                     subst ec_
                                     clear en_
                                     refine start_ (n := 53) (S := fun w' => w'.cell? ⟨gb670, 0, none⟩ = some (.int .i64 ((rd_T25 t658 (ji81)).f0)) ∧ w'.cell? ⟨gb670, 1, none⟩ = some (.int .i64 ((rd_T25 t658 (ji81)).f1)) ∧ w'.cell? ⟨gb670, 2, none⟩ = some (.int .i64 ((rd_T25 t658 (ji81)).f2)) ∧ w'.cell? ⟨gb670, 3, none⟩ = some (.slice A669_3 ((rd_T25 t658 (ji81)).f3).length c669_3) ∧ w'.cell? (ad671.add ((x17_6).toNat * 4)) = some (.int .i64 ((rd_T25 t643 x17_6).f0)) ∧ w'.cell? ⟨(ad671.add ((x17_6).toNat * 4)).block, (ad671.add ((x17_6).toNat * 4)).off + 1, none⟩ = some (.int .i64 ((rd_T25 t643 x17_6).f1)) ∧ w'.cell? ⟨(ad671.add ((x17_6).toNat * 4)).block, (ad671.add ((x17_6).toNat * 4)).off + 2, none⟩ = some (.int .i64 ((rd_T25 t643 x17_6).f2)) ∧ w'.cell? ⟨(ad671.add ((x17_6).toNat * 4)).block, (ad671.add ((x17_6).toNat * 4)).off + 3, none⟩ = some (.slice A671_3 ((rd_T25 t643 x17_6).f3).length c671_3) ∧ w'.cell? (ad671.add ((x17_6).toNat * 4)) = some (.int .i64 ((rd_T25 t643 x17_6).f0)) ∧ w'.cell? ⟨(ad671.add ((x17_6).toNat * 4)).block, (ad671.add ((x17_6).toNat * 4)).off + 1, none⟩ = some (.int .i64 ((rd_T25 t643 x17_6).f1)) ∧ w'.cell? ⟨(ad671.add ((x17_6).toNat * 4)).block, (ad671.add ((x17_6).toNat * 4)).off + 2, none⟩ = some (.int .i64 ((rd_T25 t643 x17_6).f2)) ∧ w'.cell? ⟨(ad671.add ((x17_6).toNat * 4)).block, (ad671.add ((x17_6).toNat * 4)).off + 3, none⟩ = some (.slice A671_3 ((rd_T25 t643 x17_6).f3).length c671_3) ∧ w'.cell? (ad671.add ((x17_6).toNat * 4)) = some (.int .i64 ((rd_T25 t643 x17_6).f0)) ∧ w'.cell? ⟨(ad671.add ((x17_6).toNat * 4)).block, (ad671.add ((x17_6).toNat * 4)).off + 1, none⟩ = some (.int .i64 ((rd_T25 t643 x17_6).f1)) ∧ w'.cell? ⟨(ad671.add ((x17_6).toNat * 4)).block, (ad671.add ((x17_6).toNat * 4)).off + 2, none⟩ = some (.int .i64 ((rd_T25 t643 x17_6).f2)) ∧ w'.cell? ⟨(ad671.add ((x17_6).toNat * 4)).block, (ad671.add ((x17_6).toNat * 4)).off + 3, none⟩ = some (.slice A671_3 ((rd_T25 t643 x17_6).f3).length c671_3)) (ds := []) (bm 53 0) (by kernel_rfl) rfl rfl ⟨(blk_cell BK670.out 0).trans rfl, (blk_cell BK670.out 1).trans rfl, (blk_cell BK670.out 2).trans rfl, (blk_cell BK670.out 3).trans rfl, hx671_0, hx671_1, hx671_2, hx671_3, hx672_0, hx672_1, hx672_2, hx672_3, hx673_0, hx673_1, hx673_2, hx673_3⟩ (fun hHeld => ?_); refine with_tabW tmesislaw10_SplitJoins.tab32 tmesislaw10_SplitJoins.bits32 (fun HT_ HW_ => ?_)
                                     generalize w100.drew = w101 at HO_10 HO_11 HO_12 HO_13 HL669_3 BK670 HB HL671_3 HL672_3 HL673_3 HR671_3 HR672_3 HR673_3 hx671_0 hx671_1 hx671_2 hx671_3 hx672_0 hx672_1 hx672_2 hx672_3 hx673_0 hx673_1 hx673_2 hx673_3 hHeld ⊢
                                     refine pv_ 0 (some 170) (bm 53 1) HT_.out ?_
                                     refine pv_ 2 (some 172) (bm 53 5) HT_.out ?_
                                     refine pv_ 3 (some 173) (bm 53 13) HT_.out ?_
                                     refine pv_ 4 (some 174) (bm 53 29) HT_.out ?_
                                     refine pv_ 5 (some 175) (bm 53 61) HT_.out ?_
                                     refine pv_ 7 (some 177) (bm 53 189) HT_.out ?_
                                     refine pv_ 8 (some 178) (bm 53 445) HT_.out ?_
                                     refine tk_ 1 (some 171) (bm 53 447) HT_.out HW_.out hHeld ?_
                                     refine tk_ 6 (some 176) (bm 53 511) HT_.out HW_.out hHeld ?_
                                     refine pv_ 9 (some 179) (bm 53 1023) HT_.out ?_
                                     refine pv_ 10 (some 180) (bm 53 2047) HT_.out ?_
                                     refine pv_ 11 (some 181) (bm 53 4095) HT_.out ?_
                                     refine pv_ 12 (some 182) (bm 53 8191) HT_.out ?_
                                     refine pv_ 14 (some 184) (bm 53 24575) HT_.out ?_
                                     refine pv_ 15 (some 185) (bm 53 57343) HT_.out ?_
                                     refine pv_ 16 (some 186) (bm 53 122879) HT_.out ?_
                                     refine pv_ 17 (some 187) (bm 53 253951) HT_.out ?_
                                     refine pv_ 19 (some 189) (bm 53 778239) HT_.out ?_
                                     refine pv_ 20 (some 190) (bm 53 1826815) HT_.out ?_
                                     refine tk_ 13 (some 183) (bm 53 1835007) HT_.out HW_.out hHeld ?_
                                     refine tk_ 18 (some 188) (bm 53 2097151) HT_.out HW_.out hHeld ?_
                                     refine pv_ 21 (some 191) (bm 53 4194303) HT_.out ?_
                                     refine pv_ 22 (some 192) (bm 53 8388607) HT_.out ?_
                                     refine pv_ 23 (some 193) (bm 53 16777215) HT_.out ?_
                                     refine pv_ 24 (some 194) (bm 53 33554431) HT_.out ?_
                                     refine pv_ 25 (some 195) (bm 53 67108863) HT_.out ?_
                                     refine pv_ 27 (some 197) (bm 53 201326591) HT_.out ?_
                                     refine pv_ 28 (some 198) (bm 53 469762047) HT_.out ?_
                                     refine pv_ 29 (some 199) (bm 53 1006632959) HT_.out ?_
                                     refine pv_ 30 (some 200) (bm 53 2080374783) HT_.out ?_
                                     refine pv_ 32 (some 202) (bm 53 6375342079) HT_.out ?_
                                     refine tk_ 26 (some 196) (bm 53 6442450943) HT_.out HW_.out hHeld ?_
                                     refine tk_ 31 (some 201) (bm 53 8589934591) HT_.out HW_.out hHeld ?_
                                     refine pv_ 33 (some 203) (bm 53 17179869183) HT_.out ?_
                                     refine pv_ 34 (some 204) (bm 53 34359738367) HT_.out ?_
                                     refine pv_ 35 (some 205) (bm 53 68719476735) HT_.out ?_
                                     refine pv_ 36 (some 206) (bm 53 137438953471) HT_.out ?_
                                     refine pu_ 37 (some 207) (bm 53 274877906943) HT_.out ?_
                                     refine pu_ 38 (some 208) (bm 53 549755813887) HT_.out ?_
                                     refine pu_ 39 (some 209) (bm 53 1099511627775) HT_.out ?_
                                     refine pu_ 40 (some 210) (bm 53 2199023255551) HT_.out ?_
                                     refine pu_ 41 (some 211) (bm 53 4398046511103) HT_.out ?_
                                     refine pu_ 42 (some 212) (bm 53 8796093022207) HT_.out ?_
                                     refine pu_ 43 (some 213) (bm 53 17592186044415) HT_.out ?_
                                     refine pu_ 44 (some 214) (bm 53 35184372088831) HT_.out ?_
                                     refine pu_ 45 (some 215) (bm 53 70368744177663) HT_.out ?_
                                     refine pu_ 46 (some 216) (bm 53 140737488355327) HT_.out ?_
                                     refine pu_ 47 (some 217) (bm 53 281474976710655) HT_.out ?_
                                     refine pu_ 48 (some 218) (bm 53 562949953421311) HT_.out ?_
                                     refine pu_ 49 (some 219) (bm 53 1125899906842623) HT_.out ?_
                                     refine pu_ 50 (some 220) (bm 53 2251799813685247) HT_.out ?_
                                     refine pu_ 51 (some 221) (bm 53 4503599627370495) HT_.out ?_
                                     refine pv_ 52 (some 222) (bm 53 9007199254740991) HT_.out ?_
                                     refine done_ (done_of HT_.out (by kernel_rfl)) ?_
                                     try go_wp2
                                     go_meet
                                     case rel => exact ⟨_, (true), sR, H', ⟨by have := HK1.out; have := HJ23.out; have := HK3.out; have := HJ59.out; have := HK5.out; have := HK6.out; first | omega | exact Nat.le_refl _⟩, ⟨RAt HO_10.out⟩, ⟨NAt (Kd.N_mono HO_11.out (fun _ hk => ⟨hk.1, ⟨hk.2.1, hk.2.2.1⟩⟩))⟩, ⟨NAt (Kd.N_mono HO_12.out (fun _ hk => ⟨hk.1, ⟨hk.2.1, hk.2.2.1⟩⟩))⟩, ⟨NAt (Kd.N_mono HO_13.out (fun _ hk => ⟨hk.1, ⟨hk.2.1, hk.2.2.1⟩⟩))⟩, ⟨bAt HB.out⟩⟩
                                  ·rw [if_neg c91] at H
                                   obtain ⟨c91b0, c91b1⟩ := neB c91
                                   as_aux_lemma =>
                                    have H' := Aside0.mk H
                                    clear H
                                    try go_wp2
                                    have n0_ : Aside0 (Kd.R (Kd.int .u8) 5 ((((w87.setCell ⟨gb670, 0, none⟩ (.int .i64 ((rd_T25 t658 (ji81)).f0))).setCell ⟨gb670, 1, none⟩ (.int .i64 ((rd_T25 t658 (ji81)).f1))).setCell ⟨gb670, 2, none⟩ (.int .i64 ((rd_T25 t658 (ji81)).f2))).setCell ⟨gb670, 3, none⟩ (.slice A669_3 ((rd_T25 t658 (ji81)).f3).length c669_3)) w.heap.size (fun _ => True) (.slice Ao44 y634.length co44) y634) := ⟨RAt (Kd.R_mono (Kd.R_far (p := ⟨gb670, 3, none⟩) (Kd.R_far (p := ⟨gb670, 2, none⟩) (Kd.R_far (p := ⟨gb670, 1, none⟩) (Kd.R_far (p := ⟨gb670, 0, none⟩) (Kd.R_types HO_10.out BK670.out (by decide)) (fun _ hk => hk.2) (.int .i64 ((rd_T25 t658 (ji81)).f0))) (fun _ hk => hk.2) (.int .i64 ((rd_T25 t658 (ji81)).f1))) (fun _ hk => hk.2) (.int .i64 ((rd_T25 t658 (ji81)).f2))) (fun _ hk => hk.2) (.slice A669_3 ((rd_T25 t658 (ji81)).f3).length c669_3)) (fun _ hk => trivial))⟩
                                    have n1_ : Aside0 (Kd.N k25 25 ((((w87.setCell ⟨gb670, 0, none⟩ (.int .i64 ((rd_T25 t658 (ji81)).f0))).setCell ⟨gb670, 1, none⟩ (.int .i64 ((rd_T25 t658 (ji81)).f1))).setCell ⟨gb670, 2, none⟩ (.int .i64 ((rd_T25 t658 (ji81)).f2))).setCell ⟨gb670, 3, none⟩ (.slice A669_3 ((rd_T25 t658 (ji81)).f3).length c669_3)) w.heap.size (fun k_ => some k_ ≠ (.slice Ao44 y634.length co44 : Value).ownBlock ∧ some k_ ≠ (.slice Ao85 t643.length co85 : Value).ownBlock ∧ some k_ ≠ (.slice (some ad669) t658.length co86 : Value).ownBlock ∧ k_ ≠ gb670) (.slice Ao61 t637.length co61) t637) := ⟨NAt (Kd.N_mono (Kd.N_far (p := ⟨gb670, 3, none⟩) (Kd.N_far (p := ⟨gb670, 2, none⟩) (Kd.N_far (p := ⟨gb670, 1, none⟩) (Kd.N_far (p := ⟨gb670, 0, none⟩) (Kd.N_mono HO_11.out (fun k_ hk => (⟨hk, hk.2⟩ : _ ∧ k_ ≠ gb670))) (fun _ hk => hk.2) (.int .i64 ((rd_T25 t658 (ji81)).f0))) (fun _ hk => hk.2) (.int .i64 ((rd_T25 t658 (ji81)).f1))) (fun _ hk => hk.2) (.int .i64 ((rd_T25 t658 (ji81)).f2))) (fun _ hk => hk.2) (.slice A669_3 ((rd_T25 t658 (ji81)).f3).length c669_3)) (fun _ hk => ⟨hk.1.1.1, ⟨hk.1.1.2.1, ⟨hk.1.1.2.2, hk.1.2⟩⟩⟩))⟩
                                    have n2_ : Aside0 (Kd.N k25 25 ((((w87.setCell ⟨gb670, 0, none⟩ (.int .i64 ((rd_T25 t658 (ji81)).f0))).setCell ⟨gb670, 1, none⟩ (.int .i64 ((rd_T25 t658 (ji81)).f1))).setCell ⟨gb670, 2, none⟩ (.int .i64 ((rd_T25 t658 (ji81)).f2))).setCell ⟨gb670, 3, none⟩ (.slice A669_3 ((rd_T25 t658 (ji81)).f3).length c669_3)) w.heap.size (fun k_ => some k_ ≠ (.slice Ao44 y634.length co44 : Value).ownBlock ∧ some k_ ≠ (.slice Ao61 t637.length co61 : Value).ownBlock ∧ some k_ ≠ (.slice (some ad669) t658.length co86 : Value).ownBlock ∧ k_ ≠ gb670) (.slice Ao85 t643.length co85) t643) := ⟨NAt (Kd.N_mono (Kd.N_far (p := ⟨gb670, 3, none⟩) (Kd.N_far (p := ⟨gb670, 2, none⟩) (Kd.N_far (p := ⟨gb670, 1, none⟩) (Kd.N_far (p := ⟨gb670, 0, none⟩) (Kd.N_mono HO_12.out (fun k_ hk => (⟨hk, hk.2⟩ : _ ∧ k_ ≠ gb670))) (fun _ hk => hk.2) (.int .i64 ((rd_T25 t658 (ji81)).f0))) (fun _ hk => hk.2) (.int .i64 ((rd_T25 t658 (ji81)).f1))) (fun _ hk => hk.2) (.int .i64 ((rd_T25 t658 (ji81)).f2))) (fun _ hk => hk.2) (.slice A669_3 ((rd_T25 t658 (ji81)).f3).length c669_3)) (fun _ hk => ⟨hk.1.1.1, ⟨hk.1.1.2.1, ⟨hk.1.1.2.2, hk.1.2⟩⟩⟩))⟩
                                    have n3_ : Aside0 (Kd.N k25 25 ((((w87.setCell ⟨gb670, 0, none⟩ (.int .i64 ((rd_T25 t658 (ji81)).f0))).setCell ⟨gb670, 1, none⟩ (.int .i64 ((rd_T25 t658 (ji81)).f1))).setCell ⟨gb670, 2, none⟩ (.int .i64 ((rd_T25 t658 (ji81)).f2))).setCell ⟨gb670, 3, none⟩ (.slice A669_3 ((rd_T25 t658 (ji81)).f3).length c669_3)) w.heap.size (fun k_ => some k_ ≠ (.slice Ao44 y634.length co44 : Value).ownBlock ∧ some k_ ≠ (.slice Ao61 t637.length co61 : Value).ownBlock ∧ some k_ ≠ (.slice Ao85 t643.length co85 : Value).ownBlock ∧ k_ ≠ gb670) (.slice (some ad669) t658.length co86) t658) := ⟨NAt (Kd.N_mono (Kd.N_far (p := ⟨gb670, 3, none⟩) (Kd.N_far (p := ⟨gb670, 2, none⟩) (Kd.N_far (p := ⟨gb670, 1, none⟩) (Kd.N_far (p := ⟨gb670, 0, none⟩) (Kd.N_mono HO_13.out (fun k_ hk => (⟨hk, hk.2⟩ : _ ∧ k_ ≠ gb670))) (fun _ hk => hk.2) (.int .i64 ((rd_T25 t658 (ji81)).f0))) (fun _ hk => hk.2) (.int .i64 ((rd_T25 t658 (ji81)).f1))) (fun _ hk => hk.2) (.int .i64 ((rd_T25 t658 (ji81)).f2))) (fun _ hk => hk.2) (.slice A669_3 ((rd_T25 t658 (ji81)).f3).length c669_3)) (fun _ hk => ⟨hk.1.1.1, ⟨hk.1.1.2.1, ⟨hk.1.1.2.2, hk.1.2⟩⟩⟩))⟩
                                    have n4_ : Aside0 (Kd.V k38 38 ((((w87.setCell ⟨gb670, 0, none⟩ (.int .i64 ((rd_T25 t658 (ji81)).f0))).setCell ⟨gb670, 1, none⟩ (.int .i64 ((rd_T25 t658 (ji81)).f1))).setCell ⟨gb670, 2, none⟩ (.int .i64 ((rd_T25 t658 (ji81)).f2))).setCell ⟨gb670, 3, none⟩ (.slice A669_3 ((rd_T25 t658 (ji81)).f3).length c669_3)) w.heap.size (fun k_ => some k_ ≠ (.slice Ao44 y634.length co44 : Value).ownBlock ∧ some k_ ≠ (.slice Ao61 t637.length co61 : Value).ownBlock ∧ some k_ ≠ (.slice Ao85 t643.length co85 : Value).ownBlock ∧ some k_ ≠ (.slice (some ad669) t658.length co86 : Value).ownBlock ∧ k_ ≠ gb670) (.slice A669_3 ((rd_T25 t658 (ji81)).f3).length c669_3) ((rd_T25 t658 (ji81)).f3)) := ⟨VAt (Kd.V_mono (Kd.V_far (p := ⟨gb670, 3, none⟩) (Kd.V_far (p := ⟨gb670, 2, none⟩) (Kd.V_far (p := ⟨gb670, 1, none⟩) (Kd.V_far (p := ⟨gb670, 0, none⟩) (Kd.V_mono HL669_3.out (fun k_ hk => (⟨hk, hk.2⟩ : _ ∧ k_ ≠ gb670))) (fun _ hk => hk.2) (.int .i64 ((rd_T25 t658 (ji81)).f0))) (fun _ hk => hk.2) (.int .i64 ((rd_T25 t658 (ji81)).f1))) (fun _ hk => hk.2) (.int .i64 ((rd_T25 t658 (ji81)).f2))) (fun _ hk => hk.2) (.slice A669_3 ((rd_T25 t658 (ji81)).f3).length c669_3)) (fun _ hk => ⟨hk.1.1.1.1, ⟨hk.1.1.1.2.1, ⟨hk.1.1.1.2.2, ⟨hk.1.1.2, hk.1.2⟩⟩⟩⟩))⟩
                                    have n5_ : Aside0 (((((w87.setCell ⟨gb670, 0, none⟩ (.int .i64 ((rd_T25 t658 (ji81)).f0))).setCell ⟨gb670, 1, none⟩ (.int .i64 ((rd_T25 t658 (ji81)).f1))).setCell ⟨gb670, 2, none⟩ (.int .i64 ((rd_T25 t658 (ji81)).f2))).setCell ⟨gb670, 3, none⟩ (.slice A669_3 ((rd_T25 t658 (ji81)).f3).length c669_3)).heap[gb670]? = some (.cells #[.int .i64 ((rd_T25 t658 (ji81)).f0), .int .i64 ((rd_T25 t658 (ji81)).f1), .int .i64 ((rd_T25 t658 (ji81)).f2), .slice A669_3 ((rd_T25 t658 (ji81)).f3).length c669_3] 25 (0, 0))) := ⟨by refine bP #[.int .i64 ((rd_T25 t658 (ji81)).f0), .int .i64 ((rd_T25 t658 (ji81)).f1), .int .i64 ((rd_T25 t658 (ji81)).f2), .slice none 0 0] 3 ?_; refine bP #[.int .i64 ((rd_T25 t658 (ji81)).f0), .int .i64 ((rd_T25 t658 (ji81)).f1), .int .i64 0, .slice none 0 0] 2 ?_; refine bP #[.int .i64 ((rd_T25 t658 (ji81)).f0), .int .i64 0, .int .i64 0, .slice none 0 0] 1 ?_; refine bP #[.int .i64 0, .int .i64 0, .int .i64 0, .slice none 0 0] 0 ?_; (with_reducible repeat (first | refine blk_drewN ?_ _ | refine blk_drew ?_ | refine blk_alloc ?_ _)); exact BK670.out⟩
                                    have n6_ : Aside0 (Below w.heap.size w ((((w87.setCell ⟨gb670, 0, none⟩ (.int .i64 ((rd_T25 t658 (ji81)).f0))).setCell ⟨gb670, 1, none⟩ (.int .i64 ((rd_T25 t658 (ji81)).f1))).setCell ⟨gb670, 2, none⟩ (.int .i64 ((rd_T25 t658 (ji81)).f2))).setCell ⟨gb670, 3, none⟩ (.slice A669_3 ((rd_T25 t658 (ji81)).f3).length c669_3))) := ⟨bAt HB.out⟩
                                    (try clear HO_10)
                                    (try clear HO_11)
                                    (try clear HO_12)
                                    (try clear HO_13)
                                    (try clear HL669_3)
                                    (try clear BK670)
                                    (try clear HB)
                                    generalize ((((w87.setCell ⟨gb670, 0, none⟩ (.int .i64 ((rd_T25 t658 (ji81)).f0))).setCell ⟨gb670, 1, none⟩ (.int .i64 ((rd_T25 t658 (ji81)).f1))).setCell ⟨gb670, 2, none⟩ (.int .i64 ((rd_T25 t658 (ji81)).f2))).setCell ⟨gb670, 3, none⟩ (.slice A669_3 ((rd_T25 t658 (ji81)).f3).length c669_3)) = w102 at n0_ n1_ n2_ n3_ n4_ n5_ n6_ ⊢
                                    have HO_10 := n0_
                                    have HO_11 := n1_
                                    have HO_12 := n2_
                                    have HO_13 := n3_
                                    have HL669_3 := n4_
                                    have BK670 := n5_
                                    have HB := n6_
                                    clear n0_ n1_ n2_ n3_ n4_ n5_ n6_
                                    replace HO_10 := Aside0.mk (Kd.R_drew HO_10.out)
                                    replace HO_11 := Aside0.mk (Kd.N_drew HO_11.out)
                                    replace HO_12 := Aside0.mk (Kd.N_drew HO_12.out)
                                    replace HO_13 := Aside0.mk (Kd.N_drew HO_13.out)
                                    replace HL669_3 := Aside0.mk (Kd.V_drew HL669_3.out)
                                    replace BK670 := Aside0.mk (blk_drew BK670.out)
                                    replace HB := Aside0.mk (below_drew1 HB.out)
                                    have p671 : 0 ≤ (x17_6 : Int) := dt
                                    have q671 : x17_6 < (t643.length : Int) := dt
                                    obtain ⟨ad671, A671_3, c671_3, e671, hx671_0, hx671_1, hx671_2, hx671_3, hl671_3, hi671_3⟩ := at_T25 (Kd.N_reads' HO_12.out).2.2 x17_6 p671 q671
                                    cases e671
                                    obtain ⟨ce671, hce671, hMe671, hcc671⟩ := Kd.N_get HO_12.out z25 x17_6 p671 (by first | exact q671 | exact dt | (have e_ := (Kd.N_reads' HO_12.out).1; omega))
                                    obtain ⟨ua671_3, uc671_3, rfl, ul671_3, ge671_3⟩ := k25_openF hMe671
                                    have hv671_3 := hcc671 3 _ rfl
                                    rw [add_field _ _ 3 (by omega)] at hv671_3
                                    replace hv671_3 := Option.some.inj (hv671_3.symm.trans hx671_3)
                                    injection hv671_3 with hva_ hvn_ hvc_
                                    rw [hva_] at ge671_3
                                    rw [hvc_] at ul671_3
                                    have HL671_3 := Aside0.mk (show Kd.V k38 38 _ w.heap.size _ _ ((rd_T25 t643 x17_6).f3) from Kd.V_mk ul671_3 ge671_3)
                                    clear hva_ hvn_ hvc_ ge671_3 ul671_3 hcc671 hce671
                                    have HR671_3 := Aside0.mk hi671_3
                                    have HC671_3 := Aside0.mk hl671_3
                                    clear hi671_3 hl671_3
                                    replace p671 := eq_true p671
                                    replace q671 := eq_true q671
                                    have p672 : 0 ≤ (x17_6 : Int) := dt
                                    have q672 : x17_6 < (t643.length : Int) := dt
                                    obtain ⟨ad672, A672_3, c672_3, e672, hx672_0, hx672_1, hx672_2, hx672_3, hl672_3, hi672_3⟩ := at_T25 (Kd.N_reads' HO_12.out).2.2 x17_6 p672 q672
                                    obtain rfl : ad671 = ad672 := (by injection e672)
                                    obtain ⟨ce672, hce672, hMe672, hcc672⟩ := Kd.N_get HO_12.out z25 x17_6 p672 (by first | exact q672 | exact dt | (have e_ := (Kd.N_reads' HO_12.out).1; omega))
                                    obtain ⟨ua672_3, uc672_3, rfl, ul672_3, ge672_3⟩ := k25_openF hMe672
                                    have hv672_3 := hcc672 3 _ rfl
                                    rw [add_field _ _ 3 (by omega)] at hv672_3
                                    replace hv672_3 := Option.some.inj (hv672_3.symm.trans hx672_3)
                                    injection hv672_3 with hva_ hvn_ hvc_
                                    rw [hva_] at ge672_3
                                    rw [hvc_] at ul672_3
                                    have HL672_3 := Aside0.mk (show Kd.V k38 38 _ w.heap.size _ _ ((rd_T25 t643 x17_6).f3) from Kd.V_mk ul672_3 ge672_3)
                                    clear hva_ hvn_ hvc_ ge672_3 ul672_3 hcc672 hce672
                                    have HR672_3 := Aside0.mk hi672_3
                                    have HC672_3 := Aside0.mk hl672_3
                                    clear hi672_3 hl672_3
                                    replace p672 := eq_true p672
                                    replace q672 := eq_true q672
                                    have ea_ := Option.some.inj (hx671_3.symm.trans hx672_3)
                                    injection ea_ with ea_ en_ ec_
                                    subst ea_
                                    subst ec_
                                    clear en_
                                    refine start_ (n := 53) (S := fun w' => w'.cell? ⟨gb670, 0, none⟩ = some (.int .i64 ((rd_T25 t658 (ji81)).f0)) ∧ w'.cell? ⟨gb670, 1, none⟩ = some (.int .i64 ((rd_T25 t658 (ji81)).f1)) ∧ w'.cell? ⟨gb670, 2, none⟩ = some (.int .i64 ((rd_T25 t658 (ji81)).f2)) ∧ w'.cell? ⟨gb670, 3, none⟩ = some (.slice A669_3 ((rd_T25 t658 (ji81)).f3).length c669_3) ∧ w'.cell? (ad671.add ((x17_6).toNat * 4)) = some (.int .i64 ((rd_T25 t643 x17_6).f0)) ∧ w'.cell? ⟨(ad671.add ((x17_6).toNat * 4)).block, (ad671.add ((x17_6).toNat * 4)).off + 1, none⟩ = some (.int .i64 ((rd_T25 t643 x17_6).f1)) ∧ w'.cell? ⟨(ad671.add ((x17_6).toNat * 4)).block, (ad671.add ((x17_6).toNat * 4)).off + 2, none⟩ = some (.int .i64 ((rd_T25 t643 x17_6).f2)) ∧ w'.cell? ⟨(ad671.add ((x17_6).toNat * 4)).block, (ad671.add ((x17_6).toNat * 4)).off + 3, none⟩ = some (.slice A671_3 ((rd_T25 t643 x17_6).f3).length c671_3) ∧ w'.cell? (ad671.add ((x17_6).toNat * 4)) = some (.int .i64 ((rd_T25 t643 x17_6).f0)) ∧ w'.cell? ⟨(ad671.add ((x17_6).toNat * 4)).block, (ad671.add ((x17_6).toNat * 4)).off + 1, none⟩ = some (.int .i64 ((rd_T25 t643 x17_6).f1)) ∧ w'.cell? ⟨(ad671.add ((x17_6).toNat * 4)).block, (ad671.add ((x17_6).toNat * 4)).off + 2, none⟩ = some (.int .i64 ((rd_T25 t643 x17_6).f2)) ∧ w'.cell? ⟨(ad671.add ((x17_6).toNat * 4)).block, (ad671.add ((x17_6).toNat * 4)).off + 3, none⟩ = some (.slice A671_3 ((rd_T25 t643 x17_6).f3).length c671_3)) (ds := []) (bm 53 0) (by kernel_rfl) rfl rfl ⟨(blk_cell BK670.out 0).trans rfl, (blk_cell BK670.out 1).trans rfl, (blk_cell BK670.out 2).trans rfl, (blk_cell BK670.out 3).trans rfl, hx671_0, hx671_1, hx671_2, hx671_3, hx672_0, hx672_1, hx672_2, hx672_3⟩ (fun hHeld => ?_); refine with_tabW tmesislaw10_SplitJoins.tab32 tmesislaw10_SplitJoins.bits32 (fun HT_ HW_ => ?_)
                                    generalize w102.drew = w103 at HO_10 HO_11 HO_12 HO_13 HL669_3 BK670 HB HL671_3 HL672_3 HR671_3 HR672_3 hx671_0 hx671_1 hx671_2 hx671_3 hx672_0 hx672_1 hx672_2 hx672_3 hHeld ⊢
                                    refine pv_ 0 (some 170) (bm 53 1) HT_.out ?_
                                    refine pv_ 2 (some 172) (bm 53 5) HT_.out ?_
                                    refine pv_ 3 (some 173) (bm 53 13) HT_.out ?_
                                    refine pv_ 4 (some 174) (bm 53 29) HT_.out ?_
                                    refine pv_ 5 (some 175) (bm 53 61) HT_.out ?_
                                    refine pv_ 7 (some 177) (bm 53 189) HT_.out ?_
                                    refine pv_ 8 (some 178) (bm 53 445) HT_.out ?_
                                    refine tk_ 1 (some 171) (bm 53 447) HT_.out HW_.out hHeld ?_
                                    refine tk_ 6 (some 176) (bm 53 511) HT_.out HW_.out hHeld ?_
                                    refine pv_ 9 (some 179) (bm 53 1023) HT_.out ?_
                                    refine pv_ 10 (some 180) (bm 53 2047) HT_.out ?_
                                    refine pv_ 11 (some 181) (bm 53 4095) HT_.out ?_
                                    refine pv_ 12 (some 182) (bm 53 8191) HT_.out ?_
                                    refine pv_ 14 (some 184) (bm 53 24575) HT_.out ?_
                                    refine pv_ 15 (some 185) (bm 53 57343) HT_.out ?_
                                    refine pv_ 16 (some 186) (bm 53 122879) HT_.out ?_
                                    refine pv_ 17 (some 187) (bm 53 253951) HT_.out ?_
                                    refine pv_ 19 (some 189) (bm 53 778239) HT_.out ?_
                                    refine pv_ 20 (some 190) (bm 53 1826815) HT_.out ?_
                                    refine tk_ 13 (some 183) (bm 53 1835007) HT_.out HW_.out hHeld ?_
                                    refine tk_ 18 (some 188) (bm 53 2097151) HT_.out HW_.out hHeld ?_
                                    refine pv_ 21 (some 191) (bm 53 4194303) HT_.out ?_
                                    refine pv_ 22 (some 192) (bm 53 8388607) HT_.out ?_
                                    refine pv_ 23 (some 193) (bm 53 16777215) HT_.out ?_
                                    refine pv_ 24 (some 194) (bm 53 33554431) HT_.out ?_
                                    refine pu_ 25 (some 195) (bm 53 67108863) HT_.out ?_
                                    refine pu_ 26 (some 196) (bm 53 134217727) HT_.out ?_
                                    refine pu_ 27 (some 197) (bm 53 268435455) HT_.out ?_
                                    refine pu_ 28 (some 198) (bm 53 536870911) HT_.out ?_
                                    refine pu_ 29 (some 199) (bm 53 1073741823) HT_.out ?_
                                    refine pu_ 30 (some 200) (bm 53 2147483647) HT_.out ?_
                                    refine pu_ 31 (some 201) (bm 53 4294967295) HT_.out ?_
                                    refine pu_ 32 (some 202) (bm 53 8589934591) HT_.out ?_
                                    refine pu_ 33 (some 203) (bm 53 17179869183) HT_.out ?_
                                    refine pu_ 34 (some 204) (bm 53 34359738367) HT_.out ?_
                                    refine pv_ 35 (some 205) (bm 53 68719476735) HT_.out ?_
                                    refine pv_ 36 (some 206) (bm 53 137438953471) HT_.out ?_
                                    refine pu_ 37 (some 207) (bm 53 274877906943) HT_.out ?_
                                    refine pu_ 38 (some 208) (bm 53 549755813887) HT_.out ?_
                                    refine pu_ 39 (some 209) (bm 53 1099511627775) HT_.out ?_
                                    refine pu_ 40 (some 210) (bm 53 2199023255551) HT_.out ?_
                                    refine pu_ 41 (some 211) (bm 53 4398046511103) HT_.out ?_
                                    refine pu_ 42 (some 212) (bm 53 8796093022207) HT_.out ?_
                                    refine pu_ 43 (some 213) (bm 53 17592186044415) HT_.out ?_
                                    refine pu_ 44 (some 214) (bm 53 35184372088831) HT_.out ?_
                                    refine pu_ 45 (some 215) (bm 53 70368744177663) HT_.out ?_
                                    refine pu_ 46 (some 216) (bm 53 140737488355327) HT_.out ?_
                                    refine pu_ 47 (some 217) (bm 53 281474976710655) HT_.out ?_
                                    refine pu_ 48 (some 218) (bm 53 562949953421311) HT_.out ?_
                                    refine pu_ 49 (some 219) (bm 53 1125899906842623) HT_.out ?_
                                    refine pu_ 50 (some 220) (bm 53 2251799813685247) HT_.out ?_
                                    refine pu_ 51 (some 221) (bm 53 4503599627370495) HT_.out ?_
                                    refine pv_ 52 (some 222) (bm 53 9007199254740991) HT_.out ?_
                                    refine done_ (done_of HT_.out (by kernel_rfl)) ?_
                                    try go_wp2
                                    go_meet
                                    case rel => exact ⟨_, (true), sR, H', ⟨by have := HK1.out; have := HJ23.out; have := HK3.out; have := HJ59.out; have := HK5.out; have := HK6.out; first | omega | exact Nat.le_refl _⟩, ⟨RAt HO_10.out⟩, ⟨NAt (Kd.N_mono HO_11.out (fun _ hk => ⟨hk.1, ⟨hk.2.1, hk.2.2.1⟩⟩))⟩, ⟨NAt (Kd.N_mono HO_12.out (fun _ hk => ⟨hk.1, ⟨hk.2.1, hk.2.2.1⟩⟩))⟩, ⟨NAt (Kd.N_mono HO_13.out (fun _ hk => ⟨hk.1, ⟨hk.2.1, hk.2.2.1⟩⟩))⟩, ⟨bAt HB.out⟩⟩
                                 ·rw [if_neg c90] at H
                                  obtain ⟨c90b0, c90b1⟩ := neB c90
                                  as_aux_lemma =>
                                   have H' := Aside0.mk H
                                   clear H
                                   try go_wp2
                                   have n0_ : Aside0 (Kd.R (Kd.int .u8) 5 ((((w87.setCell ⟨gb670, 0, none⟩ (.int .i64 ((rd_T25 t658 (ji81)).f0))).setCell ⟨gb670, 1, none⟩ (.int .i64 ((rd_T25 t658 (ji81)).f1))).setCell ⟨gb670, 2, none⟩ (.int .i64 ((rd_T25 t658 (ji81)).f2))).setCell ⟨gb670, 3, none⟩ (.slice A669_3 ((rd_T25 t658 (ji81)).f3).length c669_3)) w.heap.size (fun _ => True) (.slice Ao44 y634.length co44) y634) := ⟨RAt (Kd.R_mono (Kd.R_far (p := ⟨gb670, 3, none⟩) (Kd.R_far (p := ⟨gb670, 2, none⟩) (Kd.R_far (p := ⟨gb670, 1, none⟩) (Kd.R_far (p := ⟨gb670, 0, none⟩) (Kd.R_types HO_10.out BK670.out (by decide)) (fun _ hk => hk.2) (.int .i64 ((rd_T25 t658 (ji81)).f0))) (fun _ hk => hk.2) (.int .i64 ((rd_T25 t658 (ji81)).f1))) (fun _ hk => hk.2) (.int .i64 ((rd_T25 t658 (ji81)).f2))) (fun _ hk => hk.2) (.slice A669_3 ((rd_T25 t658 (ji81)).f3).length c669_3)) (fun _ hk => trivial))⟩
                                   have n1_ : Aside0 (Kd.N k25 25 ((((w87.setCell ⟨gb670, 0, none⟩ (.int .i64 ((rd_T25 t658 (ji81)).f0))).setCell ⟨gb670, 1, none⟩ (.int .i64 ((rd_T25 t658 (ji81)).f1))).setCell ⟨gb670, 2, none⟩ (.int .i64 ((rd_T25 t658 (ji81)).f2))).setCell ⟨gb670, 3, none⟩ (.slice A669_3 ((rd_T25 t658 (ji81)).f3).length c669_3)) w.heap.size (fun k_ => some k_ ≠ (.slice Ao44 y634.length co44 : Value).ownBlock ∧ some k_ ≠ (.slice Ao85 t643.length co85 : Value).ownBlock ∧ some k_ ≠ (.slice (some ad669) t658.length co86 : Value).ownBlock ∧ k_ ≠ gb670) (.slice Ao61 t637.length co61) t637) := ⟨NAt (Kd.N_mono (Kd.N_far (p := ⟨gb670, 3, none⟩) (Kd.N_far (p := ⟨gb670, 2, none⟩) (Kd.N_far (p := ⟨gb670, 1, none⟩) (Kd.N_far (p := ⟨gb670, 0, none⟩) (Kd.N_mono HO_11.out (fun k_ hk => (⟨hk, hk.2⟩ : _ ∧ k_ ≠ gb670))) (fun _ hk => hk.2) (.int .i64 ((rd_T25 t658 (ji81)).f0))) (fun _ hk => hk.2) (.int .i64 ((rd_T25 t658 (ji81)).f1))) (fun _ hk => hk.2) (.int .i64 ((rd_T25 t658 (ji81)).f2))) (fun _ hk => hk.2) (.slice A669_3 ((rd_T25 t658 (ji81)).f3).length c669_3)) (fun _ hk => ⟨hk.1.1.1, ⟨hk.1.1.2.1, ⟨hk.1.1.2.2, hk.1.2⟩⟩⟩))⟩
                                   have n2_ : Aside0 (Kd.N k25 25 ((((w87.setCell ⟨gb670, 0, none⟩ (.int .i64 ((rd_T25 t658 (ji81)).f0))).setCell ⟨gb670, 1, none⟩ (.int .i64 ((rd_T25 t658 (ji81)).f1))).setCell ⟨gb670, 2, none⟩ (.int .i64 ((rd_T25 t658 (ji81)).f2))).setCell ⟨gb670, 3, none⟩ (.slice A669_3 ((rd_T25 t658 (ji81)).f3).length c669_3)) w.heap.size (fun k_ => some k_ ≠ (.slice Ao44 y634.length co44 : Value).ownBlock ∧ some k_ ≠ (.slice Ao61 t637.length co61 : Value).ownBlock ∧ some k_ ≠ (.slice (some ad669) t658.length co86 : Value).ownBlock ∧ k_ ≠ gb670) (.slice Ao85 t643.length co85) t643) := ⟨NAt (Kd.N_mono (Kd.N_far (p := ⟨gb670, 3, none⟩) (Kd.N_far (p := ⟨gb670, 2, none⟩) (Kd.N_far (p := ⟨gb670, 1, none⟩) (Kd.N_far (p := ⟨gb670, 0, none⟩) (Kd.N_mono HO_12.out (fun k_ hk => (⟨hk, hk.2⟩ : _ ∧ k_ ≠ gb670))) (fun _ hk => hk.2) (.int .i64 ((rd_T25 t658 (ji81)).f0))) (fun _ hk => hk.2) (.int .i64 ((rd_T25 t658 (ji81)).f1))) (fun _ hk => hk.2) (.int .i64 ((rd_T25 t658 (ji81)).f2))) (fun _ hk => hk.2) (.slice A669_3 ((rd_T25 t658 (ji81)).f3).length c669_3)) (fun _ hk => ⟨hk.1.1.1, ⟨hk.1.1.2.1, ⟨hk.1.1.2.2, hk.1.2⟩⟩⟩))⟩
                                   have n3_ : Aside0 (Kd.N k25 25 ((((w87.setCell ⟨gb670, 0, none⟩ (.int .i64 ((rd_T25 t658 (ji81)).f0))).setCell ⟨gb670, 1, none⟩ (.int .i64 ((rd_T25 t658 (ji81)).f1))).setCell ⟨gb670, 2, none⟩ (.int .i64 ((rd_T25 t658 (ji81)).f2))).setCell ⟨gb670, 3, none⟩ (.slice A669_3 ((rd_T25 t658 (ji81)).f3).length c669_3)) w.heap.size (fun k_ => some k_ ≠ (.slice Ao44 y634.length co44 : Value).ownBlock ∧ some k_ ≠ (.slice Ao61 t637.length co61 : Value).ownBlock ∧ some k_ ≠ (.slice Ao85 t643.length co85 : Value).ownBlock ∧ k_ ≠ gb670) (.slice (some ad669) t658.length co86) t658) := ⟨NAt (Kd.N_mono (Kd.N_far (p := ⟨gb670, 3, none⟩) (Kd.N_far (p := ⟨gb670, 2, none⟩) (Kd.N_far (p := ⟨gb670, 1, none⟩) (Kd.N_far (p := ⟨gb670, 0, none⟩) (Kd.N_mono HO_13.out (fun k_ hk => (⟨hk, hk.2⟩ : _ ∧ k_ ≠ gb670))) (fun _ hk => hk.2) (.int .i64 ((rd_T25 t658 (ji81)).f0))) (fun _ hk => hk.2) (.int .i64 ((rd_T25 t658 (ji81)).f1))) (fun _ hk => hk.2) (.int .i64 ((rd_T25 t658 (ji81)).f2))) (fun _ hk => hk.2) (.slice A669_3 ((rd_T25 t658 (ji81)).f3).length c669_3)) (fun _ hk => ⟨hk.1.1.1, ⟨hk.1.1.2.1, ⟨hk.1.1.2.2, hk.1.2⟩⟩⟩))⟩
                                   have n4_ : Aside0 (Kd.V k38 38 ((((w87.setCell ⟨gb670, 0, none⟩ (.int .i64 ((rd_T25 t658 (ji81)).f0))).setCell ⟨gb670, 1, none⟩ (.int .i64 ((rd_T25 t658 (ji81)).f1))).setCell ⟨gb670, 2, none⟩ (.int .i64 ((rd_T25 t658 (ji81)).f2))).setCell ⟨gb670, 3, none⟩ (.slice A669_3 ((rd_T25 t658 (ji81)).f3).length c669_3)) w.heap.size (fun k_ => some k_ ≠ (.slice Ao44 y634.length co44 : Value).ownBlock ∧ some k_ ≠ (.slice Ao61 t637.length co61 : Value).ownBlock ∧ some k_ ≠ (.slice Ao85 t643.length co85 : Value).ownBlock ∧ some k_ ≠ (.slice (some ad669) t658.length co86 : Value).ownBlock ∧ k_ ≠ gb670) (.slice A669_3 ((rd_T25 t658 (ji81)).f3).length c669_3) ((rd_T25 t658 (ji81)).f3)) := ⟨VAt (Kd.V_mono (Kd.V_far (p := ⟨gb670, 3, none⟩) (Kd.V_far (p := ⟨gb670, 2, none⟩) (Kd.V_far (p := ⟨gb670, 1, none⟩) (Kd.V_far (p := ⟨gb670, 0, none⟩) (Kd.V_mono HL669_3.out (fun k_ hk => (⟨hk, hk.2⟩ : _ ∧ k_ ≠ gb670))) (fun _ hk => hk.2) (.int .i64 ((rd_T25 t658 (ji81)).f0))) (fun _ hk => hk.2) (.int .i64 ((rd_T25 t658 (ji81)).f1))) (fun _ hk => hk.2) (.int .i64 ((rd_T25 t658 (ji81)).f2))) (fun _ hk => hk.2) (.slice A669_3 ((rd_T25 t658 (ji81)).f3).length c669_3)) (fun _ hk => ⟨hk.1.1.1.1, ⟨hk.1.1.1.2.1, ⟨hk.1.1.1.2.2, ⟨hk.1.1.2, hk.1.2⟩⟩⟩⟩))⟩
                                   have n5_ : Aside0 (((((w87.setCell ⟨gb670, 0, none⟩ (.int .i64 ((rd_T25 t658 (ji81)).f0))).setCell ⟨gb670, 1, none⟩ (.int .i64 ((rd_T25 t658 (ji81)).f1))).setCell ⟨gb670, 2, none⟩ (.int .i64 ((rd_T25 t658 (ji81)).f2))).setCell ⟨gb670, 3, none⟩ (.slice A669_3 ((rd_T25 t658 (ji81)).f3).length c669_3)).heap[gb670]? = some (.cells #[.int .i64 ((rd_T25 t658 (ji81)).f0), .int .i64 ((rd_T25 t658 (ji81)).f1), .int .i64 ((rd_T25 t658 (ji81)).f2), .slice A669_3 ((rd_T25 t658 (ji81)).f3).length c669_3] 25 (0, 0))) := ⟨by refine bP #[.int .i64 ((rd_T25 t658 (ji81)).f0), .int .i64 ((rd_T25 t658 (ji81)).f1), .int .i64 ((rd_T25 t658 (ji81)).f2), .slice none 0 0] 3 ?_; refine bP #[.int .i64 ((rd_T25 t658 (ji81)).f0), .int .i64 ((rd_T25 t658 (ji81)).f1), .int .i64 0, .slice none 0 0] 2 ?_; refine bP #[.int .i64 ((rd_T25 t658 (ji81)).f0), .int .i64 0, .int .i64 0, .slice none 0 0] 1 ?_; refine bP #[.int .i64 0, .int .i64 0, .int .i64 0, .slice none 0 0] 0 ?_; (with_reducible repeat (first | refine blk_drewN ?_ _ | refine blk_drew ?_ | refine blk_alloc ?_ _)); exact BK670.out⟩
                                   have n6_ : Aside0 (Below w.heap.size w ((((w87.setCell ⟨gb670, 0, none⟩ (.int .i64 ((rd_T25 t658 (ji81)).f0))).setCell ⟨gb670, 1, none⟩ (.int .i64 ((rd_T25 t658 (ji81)).f1))).setCell ⟨gb670, 2, none⟩ (.int .i64 ((rd_T25 t658 (ji81)).f2))).setCell ⟨gb670, 3, none⟩ (.slice A669_3 ((rd_T25 t658 (ji81)).f3).length c669_3))) := ⟨bAt HB.out⟩
                                   (try clear HO_10)
                                   (try clear HO_11)
                                   (try clear HO_12)
                                   (try clear HO_13)
                                   (try clear HL669_3)
                                   (try clear BK670)
                                   (try clear HB)
                                   generalize ((((w87.setCell ⟨gb670, 0, none⟩ (.int .i64 ((rd_T25 t658 (ji81)).f0))).setCell ⟨gb670, 1, none⟩ (.int .i64 ((rd_T25 t658 (ji81)).f1))).setCell ⟨gb670, 2, none⟩ (.int .i64 ((rd_T25 t658 (ji81)).f2))).setCell ⟨gb670, 3, none⟩ (.slice A669_3 ((rd_T25 t658 (ji81)).f3).length c669_3)) = w104 at n0_ n1_ n2_ n3_ n4_ n5_ n6_ ⊢
                                   have HO_10 := n0_
                                   have HO_11 := n1_
                                   have HO_12 := n2_
                                   have HO_13 := n3_
                                   have HL669_3 := n4_
                                   have BK670 := n5_
                                   have HB := n6_
                                   clear n0_ n1_ n2_ n3_ n4_ n5_ n6_
                                   replace HO_10 := Aside0.mk (Kd.R_drew HO_10.out)
                                   replace HO_11 := Aside0.mk (Kd.N_drew HO_11.out)
                                   replace HO_12 := Aside0.mk (Kd.N_drew HO_12.out)
                                   replace HO_13 := Aside0.mk (Kd.N_drew HO_13.out)
                                   replace HL669_3 := Aside0.mk (Kd.V_drew HL669_3.out)
                                   replace BK670 := Aside0.mk (blk_drew BK670.out)
                                   replace HB := Aside0.mk (below_drew1 HB.out)
                                   have p671 : 0 ≤ (x17_6 : Int) := dt
                                   have q671 : x17_6 < (t643.length : Int) := dt
                                   obtain ⟨ad671, A671_3, c671_3, e671, hx671_0, hx671_1, hx671_2, hx671_3, hl671_3, hi671_3⟩ := at_T25 (Kd.N_reads' HO_12.out).2.2 x17_6 p671 q671
                                   cases e671
                                   obtain ⟨ce671, hce671, hMe671, hcc671⟩ := Kd.N_get HO_12.out z25 x17_6 p671 (by first | exact q671 | exact dt | (have e_ := (Kd.N_reads' HO_12.out).1; omega))
                                   obtain ⟨ua671_3, uc671_3, rfl, ul671_3, ge671_3⟩ := k25_openF hMe671
                                   have hv671_3 := hcc671 3 _ rfl
                                   rw [add_field _ _ 3 (by omega)] at hv671_3
                                   replace hv671_3 := Option.some.inj (hv671_3.symm.trans hx671_3)
                                   injection hv671_3 with hva_ hvn_ hvc_
                                   rw [hva_] at ge671_3
                                   rw [hvc_] at ul671_3
                                   have HL671_3 := Aside0.mk (show Kd.V k38 38 _ w.heap.size _ _ ((rd_T25 t643 x17_6).f3) from Kd.V_mk ul671_3 ge671_3)
                                   clear hva_ hvn_ hvc_ ge671_3 ul671_3 hcc671 hce671
                                   have HR671_3 := Aside0.mk hi671_3
                                   have HC671_3 := Aside0.mk hl671_3
                                   clear hi671_3 hl671_3
                                   replace p671 := eq_true p671
                                   replace q671 := eq_true q671
                                   refine start_ (n := 53) (S := fun w' => w'.cell? ⟨gb670, 0, none⟩ = some (.int .i64 ((rd_T25 t658 (ji81)).f0)) ∧ w'.cell? ⟨gb670, 1, none⟩ = some (.int .i64 ((rd_T25 t658 (ji81)).f1)) ∧ w'.cell? ⟨gb670, 2, none⟩ = some (.int .i64 ((rd_T25 t658 (ji81)).f2)) ∧ w'.cell? ⟨gb670, 3, none⟩ = some (.slice A669_3 ((rd_T25 t658 (ji81)).f3).length c669_3) ∧ w'.cell? (ad671.add ((x17_6).toNat * 4)) = some (.int .i64 ((rd_T25 t643 x17_6).f0)) ∧ w'.cell? ⟨(ad671.add ((x17_6).toNat * 4)).block, (ad671.add ((x17_6).toNat * 4)).off + 1, none⟩ = some (.int .i64 ((rd_T25 t643 x17_6).f1)) ∧ w'.cell? ⟨(ad671.add ((x17_6).toNat * 4)).block, (ad671.add ((x17_6).toNat * 4)).off + 2, none⟩ = some (.int .i64 ((rd_T25 t643 x17_6).f2)) ∧ w'.cell? ⟨(ad671.add ((x17_6).toNat * 4)).block, (ad671.add ((x17_6).toNat * 4)).off + 3, none⟩ = some (.slice A671_3 ((rd_T25 t643 x17_6).f3).length c671_3)) (ds := []) (bm 53 0) (by kernel_rfl) rfl rfl ⟨(blk_cell BK670.out 0).trans rfl, (blk_cell BK670.out 1).trans rfl, (blk_cell BK670.out 2).trans rfl, (blk_cell BK670.out 3).trans rfl, hx671_0, hx671_1, hx671_2, hx671_3⟩ (fun hHeld => ?_); refine with_tabW tmesislaw10_SplitJoins.tab32 tmesislaw10_SplitJoins.bits32 (fun HT_ HW_ => ?_)
                                   generalize w104.drew = w105 at HO_10 HO_11 HO_12 HO_13 HL669_3 BK670 HB HL671_3 HR671_3 hx671_0 hx671_1 hx671_2 hx671_3 hHeld ⊢
                                   refine pv_ 0 (some 170) (bm 53 1) HT_.out ?_
                                   refine pv_ 2 (some 172) (bm 53 5) HT_.out ?_
                                   refine pv_ 3 (some 173) (bm 53 13) HT_.out ?_
                                   refine pv_ 4 (some 174) (bm 53 29) HT_.out ?_
                                   refine pv_ 5 (some 175) (bm 53 61) HT_.out ?_
                                   refine pv_ 7 (some 177) (bm 53 189) HT_.out ?_
                                   refine pv_ 8 (some 178) (bm 53 445) HT_.out ?_
                                   refine tk_ 1 (some 171) (bm 53 447) HT_.out HW_.out hHeld ?_
                                   refine tk_ 6 (some 176) (bm 53 511) HT_.out HW_.out hHeld ?_
                                   refine pv_ 9 (some 179) (bm 53 1023) HT_.out ?_
                                   refine pv_ 10 (some 180) (bm 53 2047) HT_.out ?_
                                   refine pv_ 11 (some 181) (bm 53 4095) HT_.out ?_
                                   refine pu_ 12 (some 182) (bm 53 8191) HT_.out ?_
                                   refine pu_ 13 (some 183) (bm 53 16383) HT_.out ?_
                                   refine pu_ 14 (some 184) (bm 53 32767) HT_.out ?_
                                   refine pu_ 15 (some 185) (bm 53 65535) HT_.out ?_
                                   refine pu_ 16 (some 186) (bm 53 131071) HT_.out ?_
                                   refine pu_ 17 (some 187) (bm 53 262143) HT_.out ?_
                                   refine pu_ 18 (some 188) (bm 53 524287) HT_.out ?_
                                   refine pu_ 19 (some 189) (bm 53 1048575) HT_.out ?_
                                   refine pu_ 20 (some 190) (bm 53 2097151) HT_.out ?_
                                   refine pu_ 21 (some 191) (bm 53 4194303) HT_.out ?_
                                   refine pu_ 22 (some 192) (bm 53 8388607) HT_.out ?_
                                   refine pv_ 23 (some 193) (bm 53 16777215) HT_.out ?_
                                   refine pv_ 24 (some 194) (bm 53 33554431) HT_.out ?_
                                   refine pu_ 25 (some 195) (bm 53 67108863) HT_.out ?_
                                   refine pu_ 26 (some 196) (bm 53 134217727) HT_.out ?_
                                   refine pu_ 27 (some 197) (bm 53 268435455) HT_.out ?_
                                   refine pu_ 28 (some 198) (bm 53 536870911) HT_.out ?_
                                   refine pu_ 29 (some 199) (bm 53 1073741823) HT_.out ?_
                                   refine pu_ 30 (some 200) (bm 53 2147483647) HT_.out ?_
                                   refine pu_ 31 (some 201) (bm 53 4294967295) HT_.out ?_
                                   refine pu_ 32 (some 202) (bm 53 8589934591) HT_.out ?_
                                   refine pu_ 33 (some 203) (bm 53 17179869183) HT_.out ?_
                                   refine pu_ 34 (some 204) (bm 53 34359738367) HT_.out ?_
                                   refine pv_ 35 (some 205) (bm 53 68719476735) HT_.out ?_
                                   refine pv_ 36 (some 206) (bm 53 137438953471) HT_.out ?_
                                   refine pu_ 37 (some 207) (bm 53 274877906943) HT_.out ?_
                                   refine pu_ 38 (some 208) (bm 53 549755813887) HT_.out ?_
                                   refine pu_ 39 (some 209) (bm 53 1099511627775) HT_.out ?_
                                   refine pu_ 40 (some 210) (bm 53 2199023255551) HT_.out ?_
                                   refine pu_ 41 (some 211) (bm 53 4398046511103) HT_.out ?_
                                   refine pu_ 42 (some 212) (bm 53 8796093022207) HT_.out ?_
                                   refine pu_ 43 (some 213) (bm 53 17592186044415) HT_.out ?_
                                   refine pu_ 44 (some 214) (bm 53 35184372088831) HT_.out ?_
                                   refine pu_ 45 (some 215) (bm 53 70368744177663) HT_.out ?_
                                   refine pu_ 46 (some 216) (bm 53 140737488355327) HT_.out ?_
                                   refine pu_ 47 (some 217) (bm 53 281474976710655) HT_.out ?_
                                   refine pu_ 48 (some 218) (bm 53 562949953421311) HT_.out ?_
                                   refine pu_ 49 (some 219) (bm 53 1125899906842623) HT_.out ?_
                                   refine pu_ 50 (some 220) (bm 53 2251799813685247) HT_.out ?_
                                   refine pu_ 51 (some 221) (bm 53 4503599627370495) HT_.out ?_
                                   refine pv_ 52 (some 222) (bm 53 9007199254740991) HT_.out ?_
                                   refine done_ (done_of HT_.out (by kernel_rfl)) ?_
                                   try go_wp2
                                   go_meet
                                   case rel => exact ⟨_, (true), sR, H', ⟨by have := HK1.out; have := HJ23.out; have := HK3.out; have := HJ59.out; have := HK5.out; have := HK6.out; first | omega | exact Nat.le_refl _⟩, ⟨RAt HO_10.out⟩, ⟨NAt (Kd.N_mono HO_11.out (fun _ hk => ⟨hk.1, ⟨hk.2.1, hk.2.2.1⟩⟩))⟩, ⟨NAt (Kd.N_mono HO_12.out (fun _ hk => ⟨hk.1, ⟨hk.2.1, hk.2.2.1⟩⟩))⟩, ⟨NAt (Kd.N_mono HO_13.out (fun _ hk => ⟨hk.1, ⟨hk.2.1, hk.2.2.1⟩⟩))⟩, ⟨bAt HB.out⟩⟩
                                · exact nB H c89
                               case rest =>
                                 as_aux_lemma =>
                                  clear HC84
                                  try clear p2
                                  try clear c6
                                  try clear p6
                                  try clear q6
                                  try clear hx6
                                  try clear c8
                                  try clear c9
                                  try clear p64
                                  try clear c66
                                  try clear c67
                                  try clear p67
                                  try clear q67
                                  try clear hx67
                                  try clear c89
                                  try clear c90
                                  try clear c90b0 c90b1
                                  try clear hx671_0
                                  try clear hx671_1
                                  try clear hx671_2
                                  try clear hx671_3
                                  try clear p671
                                  try clear q671
                                  obtain ⟨kq, x222_83, rfl, HA, HJ83, HO_10, HO_11, HO_12, HO_13, HB⟩ := hcut
                                  cases kq with
                                  | zero => exact absurd HA.out (by simp [tmesislaw10_SplitJoins.j9])
                                  | succ kj83 =>
                                   have H := HA.out
                                   clear HA
                                   simp only [tmesislaw10_SplitJoins.j9] at H
                                   by_cases c106 : x222_83 = true
                                   ·subst c106
                                    replace H := tP H
                                    as_aux_lemma =>
                                     obtain rfl := Option.some.inj H
                                     go_wp2
                                     go_ret
                                     exact ⟨by first | rfl | (simp [errW_none, errW_some] <;> rfl) | (simp only [← hji81]; first | rfl | (simp [errW_none, errW_some] <;> rfl)) | (simp [*, errW_none, errW_some] <;> rfl), bAt HB.out⟩
                                   ·replace c106 := Bool.eq_false_iff.mpr c106
                                    subst c106
                                    replace H := fP H
                                    as_aux_lemma =>
                                     have H' := Aside0.mk H
                                     clear H
                                     go_wp2
                                     go_roundg kj83
                                     case measure => have := HK1.out; have := HJ23.out; have := HK3.out; have := HJ59.out; have := HK5.out; have := HK6.out; have := HJ83.out; omega
                                     case rel => exact ⟨(wrap64 (x17_6 + 1)), sR, H', ⟨by have := HK1.out; have := HJ23.out; have := HK3.out; have := HJ59.out; have := HK5.out; have := HK6.out; have := HJ83.out; omega⟩, ⟨RAt HO_10.out⟩, ⟨NAt HO_11.out⟩, ⟨NAt HO_12.out⟩, ⟨NAt HO_13.out⟩, ⟨bAt HB.out⟩⟩
                              · exact nB H c83
                             · exact nB H c82
                            ·rw [if_neg c80] at H
                             have c80b0 := decide_eq_false c80
                             clear c80
                             as_aux_lemma =>
                              obtain rfl := Option.some.inj H
                              obtain ⟨Ao107, co107, eo107⟩ := Kd.N_slice HO_12.out
                              subst eo107
                              go_wp2
                              go_ret
                              exact ⟨eR, bAt HB.out⟩
              · exact nB H c37
             · exact nB H c35
            · exact nB H c31
           · exact nB H c30
          · exact nB H c29
         · exact nB H c28
/-- THE ONE PURE STATEMENT of tmesislaw10_SplitJoins: yours. -/
def tmesislaw10_SplitJoins.Pure : Prop := ∀ (l0 : List Int) (l1 : List Int), l0.length ≤ maxLen → l0.length * 1 ≤ 140737488351232 → (∀ x ∈ l0, (Lit.int .u8 x).wf = true) → l1.length ≤ maxLen → l1.length * 1 ≤ 140737488351232 → (∀ x ∈ l1, (Lit.int .u8 x).wf = true) → ∃ k, tmesislaw10_SplitJoins.f k l0 l1 = some true
theorem tmesislaw10_SplitJoins.walk (P : tmesislaw10_SplitJoins.Pure) (a0 : Option Addr) (len0 cap0 : Nat) (z0 : List Int) (a1 : Option Addr) (len1 cap1 : Nat) (z1 : List Int) (w : World) (hG : Gl w) (w0 : (a0 = none ∧ len0 = 0 ∧ cap0 = 0 ∧ z0 = []) ∨ ∃ x, a0 = some x ∧ len0 ≤ cap0 ∧ cap0 ≤ maxLen ∧ z0.length = cap0 ∧ (∀ i, i < z0.length → w.cell? (x.add i) = some (.int .u8 (z0.getD i 0))) ∧ ∀ n ∈ z0, (Lit.int .u8 n).wf = true) (y0 : len0 * 1 ≤ 140737488351232) (w1 : (a1 = none ∧ len1 = 0 ∧ cap1 = 0 ∧ z1 = []) ∨ ∃ x, a1 = some x ∧ len1 ≤ cap1 ∧ cap1 ≤ maxLen ∧ z1.length = cap1 ∧ (∀ i, i < z1.length → w.cell? (x.add i) = some (.int .u8 (z1.getD i 0))) ∧ ∀ n ∈ z1, (Lit.int .u8 n).wf = true) (y1 : len1 * 1 ≤ 140737488351232) :
  Calls Tryd.prog 7 #[.slice a0 len0 cap0, .slice a1 len1 cap1] w fun e w' => e = .returned (.bool true) ∧ Below w.heap.size w w' := by
 obtain ⟨l0, rfl, hr0, hm0, hw0, hc0⟩ := ReadsInt.ofRowC w0
 obtain ⟨l1, rfl, hr1, hm1, hw1, hc1⟩ := ReadsInt.ofRowC w1
 obtain ⟨k, h⟩ := P l0 l1 hm0 y0 hw0 hm1 y1 hw1
 refine (tmesislaw10_SplitJoins.calls k _ _ l0 _ _ l1 true w hG (Kd.C_of_reads (d := (0 : Int)) (h1 := fun _ => rfl) hr0) hc0 (Kd.C_of_reads (d := (0 : Int)) (h1 := fun _ => rfl) hr1) hc1 h).mono ?_
 rintro e w' ⟨rfl, hd⟩
 exact ⟨rfl, hd⟩
end Go.Proofs.YtpkklbdclghcfaaDoor.P
