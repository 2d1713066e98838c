/- Part of the proof: what the theorem needs of this text. -/
import Derived.Test.YtpkklbdclghcfaaDoorKHG
import Derived.Test.YtpkklbdclghcfaaDoorKPx0
import Derived.Test.YtpkklbdclghcfaaDoorKPx10
import Derived.Test.YtpkklbdclghcfaaDoorKPx22
import Derived.Test.YtpkklbdclghcfaaDoorKPx3
namespace Go.Proofs.YtpkklbdclghcfaaDoor.P
open Go.RowKit Go.Proofs.YtpkklbdclghcfaaDoorW.PrintWords Go.Proofs.YtpkklbdclghcfaaDoorW.PrintLast Go.Proofs.YtpkklbdclghcfaaDoorW.PrintMore
attribute [local go_sem] max2_int min2_int max_two min_two max_three min_three max_four min_four   -- for this text's walks alone
set_option linter.unusedVariables false
set_option linter.unusedSimpArgs false
mutual
def tmesislaw10_SplitNames.l0 : Nat → Bool → List ByteArray → Int → Int → Int → Int → List (S38) → Option (Bool)
 | 0, _, _, _, _, _, _, _ => none
 | k + 1, x3, x5, x6, x574000, x574001, x574002, x574003 => if x6 < (x5.length : Int) then (tmesislaw10_SplitNames.l1 k x3 x5 x6 false 0 x574000 x574001 x574002 x574003) else (tmesislaw10_SplitNames.l2 k x3 x5 0 x574000 x574001 x574002 x574003)
def tmesislaw10_SplitNames.l1 : Nat → Bool → List ByteArray → Int → Bool → Int → Int → Int → Int → List (S38) → Option (Bool)
 | 0, _, _, _, _, _, _, _, _, _ => none
 | k + 1, x3, x5, x6, x7, x8, x574000, x574001, x574002, x574003 => if x8 < (x574003.length : Int) then (if x7 = true then (tmesislaw10_SplitNames.j2 k x3 x5 x6 true x8 x574000 x574001 x574002 x574003) else (if 0 ≤ x8 then (if 0 ≤ x6 then (if x6 < (x5.length : Int) then (if ((rd_T38 x574003 x8).f3).toList = (rdOf ByteArray.empty x5 x6).toList then ((tmesislaw10_name.f ((rd_T38 x574003 x8).f0) ((rd_T38 x574003 x8).f1) ((rd_T38 x574003 x8).f2) ((rd_T38 x574003 x8).f3) ((rd_T38 x574003 x8).f4)).bind fun t580 => (tmesislaw10_SplitNames.j2 k x3 x5 x6 t580 x8 x574000 x574001 x574002 x574003)) else (tmesislaw10_SplitNames.j2 k x3 x5 x6 false x8 x574000 x574001 x574002 x574003)) else (none)) else (none)) else (none))) else (if x7 = true then (if x6 > 0 then (if 0 ≤ (wrap64 (x6 - 1)) then (if (wrap64 (x6 - 1)) < (x5.length : Int) then (if 0 ≤ x6 then (if x6 < (x5.length : Int) then (tmesislaw10_SplitNames.j3 k x3 x5 x6 (!(Op.bytesLess ((rdOf ByteArray.empty x5 (wrap64 (x6 - 1))).toList) ((rdOf ByteArray.empty x5 x6).toList))) x574000 x574001 x574002 x574003) else (none)) else (none)) else (none)) else (none)) else (tmesislaw10_SplitNames.j3 k x3 x5 x6 false x574000 x574001 x574002 x574003)) else (tmesislaw10_SplitNames.j3 k x3 x5 x6 true x574000 x574001 x574002 x574003))
def tmesislaw10_SplitNames.j2 : Nat → Bool → List ByteArray → Int → Bool → Int → Int → Int → Int → List (S38) → Option (Bool)
 | 0, _, _, _, _, _, _, _, _, _ => none
 | k + 1, x3, x5, x6, x7, x8, x574000, x574001, x574002, x574003 => tmesislaw10_SplitNames.l1 k x3 x5 x6 x7 (wrap64 (x8 + 1)) x574000 x574001 x574002 x574003
def tmesislaw10_SplitNames.j3 : Nat → Bool → List ByteArray → Int → Bool → Int → Int → Int → List (S38) → Option (Bool)
 | 0, _, _, _, _, _, _, _, _ => none
 | k + 1, x3, x5, x6, x69, x574000, x574001, x574002, x574003 => if x69 = true then (some false) else (tmesislaw10_SplitNames.l0 k x3 x5 (wrap64 (x6 + 1)) x574000 x574001 x574002 x574003)
def tmesislaw10_SplitNames.l2 : Nat → Bool → List ByteArray → Int → Int → Int → Int → List (S38) → Option (Bool)
 | 0, _, _, _, _, _, _, _ => none
 | k + 1, x3, x5, x9, x574000, x574001, x574002, x574003 => if x9 < (x574003.length : Int) then (tmesislaw10_SplitNames.l3 k x3 x5 x9 false 0 x574000 x574001 x574002 x574003) else (some x3)
def tmesislaw10_SplitNames.l3 : Nat → Bool → List ByteArray → Int → Bool → Int → Int → Int → Int → List (S38) → Option (Bool)
 | 0, _, _, _, _, _, _, _, _, _ => none
 | k + 1, x3, x5, x9, x10, x11, x574000, x574001, x574002, x574003 => if x11 < (x5.length : Int) then (if x10 = true then (tmesislaw10_SplitNames.j6 k x3 x5 x9 true x11 x574000 x574001 x574002 x574003) else (if 0 ≤ x9 then (if x9 < (x574003.length : Int) then (if 0 ≤ x11 then (tmesislaw10_SplitNames.j6 k x3 x5 x9 (((rd_T38 x574003 x9).f3).toList == (rdOf ByteArray.empty x5 x11).toList) x11 x574000 x574001 x574002 x574003) else (none)) else (none)) else (none))) else (if 0 ≤ x9 then (if x9 < (x574003.length : Int) then ((tmesislaw10_name.f ((rd_T38 x574003 x9).f0) ((rd_T38 x574003 x9).f1) ((rd_T38 x574003 x9).f2) ((rd_T38 x574003 x9).f3) ((rd_T38 x574003 x9).f4)).bind fun t586 => (if t586 = true then (tmesislaw10_SplitNames.j7 k x3 x5 x9 (!x10) x574000 x574001 x574002 x574003) else (tmesislaw10_SplitNames.j7 k x3 x5 x9 false x574000 x574001 x574002 x574003))) else (none)) else (none))
def tmesislaw10_SplitNames.j6 : Nat → Bool → List ByteArray → Int → Bool → Int → Int → Int → Int → List (S38) → Option (Bool)
 | 0, _, _, _, _, _, _, _, _, _ => none
 | k + 1, x3, x5, x9, x10, x11, x574000, x574001, x574002, x574003 => tmesislaw10_SplitNames.l3 k x3 x5 x9 x10 (wrap64 (x11 + 1)) x574000 x574001 x574002 x574003
def tmesislaw10_SplitNames.j7 : Nat → Bool → List ByteArray → Int → Bool → Int → Int → Int → List (S38) → Option (Bool)
 | 0, _, _, _, _, _, _, _, _ => none
 | k + 1, x3, x5, x9, x106, x574000, x574001, x574002, x574003 => if x106 = true then (some false) else (tmesislaw10_SplitNames.l2 k x3 x5 (wrap64 (x9 + 1)) x574000 x574001 x574002 x574003)
end
def tmesislaw10_SplitNames.f (k : Nat) (a0_0 : Int) (a0_1 : Int) (a0_2 : Int) (l0_3 : List (S38)) : Option (Bool) := (tmesislaw10_shown.f k).bind fun t566 => ((tmesislaw10_short.f a0_0 a0_1 a0_2 l0_3).bind fun bt567 => ((split_Names.f k bt567.1 bt567.2.1 bt567.2.2.1 bt567.2.2.2).bind fun t574 => (tmesislaw10_SplitNames.l0 k t566 t574 0 bt567.1 bt567.2.1 bt567.2.2.1 bt567.2.2.2)))
theorem tmesislaw10_SplitNames.mono_l : ∀ k, (∀ y0 y1 y2 y3 y4 y5 y6, LeO (tmesislaw10_SplitNames.l0 k y0 y1 y2 y3 y4 y5 y6) (tmesislaw10_SplitNames.l0 (k + 1) y0 y1 y2 y3 y4 y5 y6)) ∧ (∀ y0 y1 y2 y3 y4 y5 y6 y7 y8, LeO (tmesislaw10_SplitNames.l1 k y0 y1 y2 y3 y4 y5 y6 y7 y8) (tmesislaw10_SplitNames.l1 (k + 1) y0 y1 y2 y3 y4 y5 y6 y7 y8)) ∧ (∀ y0 y1 y2 y3 y4 y5 y6 y7 y8, LeO (tmesislaw10_SplitNames.j2 k y0 y1 y2 y3 y4 y5 y6 y7 y8) (tmesislaw10_SplitNames.j2 (k + 1) y0 y1 y2 y3 y4 y5 y6 y7 y8)) ∧ (∀ y0 y1 y2 y3 y4 y5 y6 y7, LeO (tmesislaw10_SplitNames.j3 k y0 y1 y2 y3 y4 y5 y6 y7) (tmesislaw10_SplitNames.j3 (k + 1) y0 y1 y2 y3 y4 y5 y6 y7)) ∧ (∀ y0 y1 y2 y3 y4 y5 y6, LeO (tmesislaw10_SplitNames.l2 k y0 y1 y2 y3 y4 y5 y6) (tmesislaw10_SplitNames.l2 (k + 1) y0 y1 y2 y3 y4 y5 y6)) ∧ (∀ y0 y1 y2 y3 y4 y5 y6 y7 y8, LeO (tmesislaw10_SplitNames.l3 k y0 y1 y2 y3 y4 y5 y6 y7 y8) (tmesislaw10_SplitNames.l3 (k + 1) y0 y1 y2 y3 y4 y5 y6 y7 y8)) ∧ (∀ y0 y1 y2 y3 y4 y5 y6 y7 y8, LeO (tmesislaw10_SplitNames.j6 k y0 y1 y2 y3 y4 y5 y6 y7 y8) (tmesislaw10_SplitNames.j6 (k + 1) y0 y1 y2 y3 y4 y5 y6 y7 y8)) ∧ (∀ y0 y1 y2 y3 y4 y5 y6 y7, LeO (tmesislaw10_SplitNames.j7 k y0 y1 y2 y3 y4 y5 y6 y7) (tmesislaw10_SplitNames.j7 (k + 1) y0 y1 y2 y3 y4 y5 y6 y7))
 | 0 => ⟨fun _ _ _ _ _ _ _ r h => by simp [tmesislaw10_SplitNames.l0] at h, fun _ _ _ _ _ _ _ _ _ r h => by simp [tmesislaw10_SplitNames.l1] at h, fun _ _ _ _ _ _ _ _ _ r h => by simp [tmesislaw10_SplitNames.j2] at h, fun _ _ _ _ _ _ _ _ r h => by simp [tmesislaw10_SplitNames.j3] at h, fun _ _ _ _ _ _ _ r h => by simp [tmesislaw10_SplitNames.l2] at h, fun _ _ _ _ _ _ _ _ _ r h => by simp [tmesislaw10_SplitNames.l3] at h, fun _ _ _ _ _ _ _ _ _ r h => by simp [tmesislaw10_SplitNames.j6] at h, fun _ _ _ _ _ _ _ _ r h => by simp [tmesislaw10_SplitNames.j7] at h⟩
 | k + 1 => by
  obtain ⟨ih0, ih1, ih2, ih3, ih4, ih5, ih6, ih7⟩ := tmesislaw10_SplitNames.mono_l k
  refine ⟨?_, ?_, ?_, ?_, ?_, ?_, ?_, ?_⟩
  ·intro y0 y1 y2 y3 y4 y5 y6
   unfold tmesislaw10_SplitNames.l0
   repeat' first
   | (with_reducible exact ih0 _ _ _ _ _ _ _)
   | (with_reducible exact ih1 _ _ _ _ _ _ _ _ _)
   | (with_reducible exact ih2 _ _ _ _ _ _ _ _ _)
   | (with_reducible exact ih3 _ _ _ _ _ _ _ _)
   | (with_reducible exact ih4 _ _ _ _ _ _ _)
   | (with_reducible exact ih5 _ _ _ _ _ _ _ _ _)
   | (with_reducible exact ih6 _ _ _ _ _ _ _ _ _)
   | (with_reducible exact ih7 _ _ _ _ _ _ _ _)
   | (with_reducible exact split_Names.mono _ _ _ _ _)
   | (with_reducible exact tmesislaw10_shown.mono _)
   | (with_reducible exact LeO.refl _)
   | (with_reducible exact LeO.none _)
   | (with_reducible refine LeO.ite ?_ ?_)
   | (with_reducible refine LeO.bind ?_ (fun _ => ?_))
   | exact ih0 _ _ _ _ _ _ _
   | exact ih1 _ _ _ _ _ _ _ _ _
   | exact ih2 _ _ _ _ _ _ _ _ _
   | exact ih3 _ _ _ _ _ _ _ _
   | exact ih4 _ _ _ _ _ _ _
   | exact ih5 _ _ _ _ _ _ _ _ _
   | exact ih6 _ _ _ _ _ _ _ _ _
   | exact ih7 _ _ _ _ _ _ _ _
   | exact split_Names.mono _ _ _ _ _
   | exact tmesislaw10_shown.mono _
   | exact LeO.none _
   | refine LeO.ite ?_ ?_
   | refine LeO.bind ?_ (fun _ => ?_)
  ·intro y0 y1 y2 y3 y4 y5 y6 y7 y8
   unfold tmesislaw10_SplitNames.l1
   repeat' first
   | (with_reducible exact ih0 _ _ _ _ _ _ _)
   | (with_reducible exact ih1 _ _ _ _ _ _ _ _ _)
   | (with_reducible exact ih2 _ _ _ _ _ _ _ _ _)
   | (with_reducible exact ih3 _ _ _ _ _ _ _ _)
   | (with_reducible exact ih4 _ _ _ _ _ _ _)
   | (with_reducible exact ih5 _ _ _ _ _ _ _ _ _)
   | (with_reducible exact ih6 _ _ _ _ _ _ _ _ _)
   | (with_reducible exact ih7 _ _ _ _ _ _ _ _)
   | (with_reducible exact split_Names.mono _ _ _ _ _)
   | (with_reducible exact tmesislaw10_shown.mono _)
   | (with_reducible exact LeO.refl _)
   | (with_reducible exact LeO.none _)
   | (with_reducible refine LeO.ite ?_ ?_)
   | (with_reducible refine LeO.bind ?_ (fun _ => ?_))
   | exact ih0 _ _ _ _ _ _ _
   | exact ih1 _ _ _ _ _ _ _ _ _
   | exact ih2 _ _ _ _ _ _ _ _ _
   | exact ih3 _ _ _ _ _ _ _ _
   | exact ih4 _ _ _ _ _ _ _
   | exact ih5 _ _ _ _ _ _ _ _ _
   | exact ih6 _ _ _ _ _ _ _ _ _
   | exact ih7 _ _ _ _ _ _ _ _
   | exact split_Names.mono _ _ _ _ _
   | exact tmesislaw10_shown.mono _
   | exact LeO.none _
   | refine LeO.ite ?_ ?_
   | refine LeO.bind ?_ (fun _ => ?_)
  ·intro y0 y1 y2 y3 y4 y5 y6 y7 y8
   unfold tmesislaw10_SplitNames.j2
   repeat' first
   | (with_reducible exact ih0 _ _ _ _ _ _ _)
   | (with_reducible exact ih1 _ _ _ _ _ _ _ _ _)
   | (with_reducible exact ih2 _ _ _ _ _ _ _ _ _)
   | (with_reducible exact ih3 _ _ _ _ _ _ _ _)
   | (with_reducible exact ih4 _ _ _ _ _ _ _)
   | (with_reducible exact ih5 _ _ _ _ _ _ _ _ _)
   | (with_reducible exact ih6 _ _ _ _ _ _ _ _ _)
   | (with_reducible exact ih7 _ _ _ _ _ _ _ _)
   | (with_reducible exact split_Names.mono _ _ _ _ _)
   | (with_reducible exact tmesislaw10_shown.mono _)
   | (with_reducible exact LeO.refl _)
   | (with_reducible exact LeO.none _)
   | (with_reducible refine LeO.ite ?_ ?_)
   | (with_reducible refine LeO.bind ?_ (fun _ => ?_))
   | exact ih0 _ _ _ _ _ _ _
   | exact ih1 _ _ _ _ _ _ _ _ _
   | exact ih2 _ _ _ _ _ _ _ _ _
   | exact ih3 _ _ _ _ _ _ _ _
   | exact ih4 _ _ _ _ _ _ _
   | exact ih5 _ _ _ _ _ _ _ _ _
   | exact ih6 _ _ _ _ _ _ _ _ _
   | exact ih7 _ _ _ _ _ _ _ _
   | exact split_Names.mono _ _ _ _ _
   | exact tmesislaw10_shown.mono _
   | exact LeO.none _
   | refine LeO.ite ?_ ?_
   | refine LeO.bind ?_ (fun _ => ?_)
  ·intro y0 y1 y2 y3 y4 y5 y6 y7
   unfold tmesislaw10_SplitNames.j3
   repeat' first
   | (with_reducible exact ih0 _ _ _ _ _ _ _)
   | (with_reducible exact ih1 _ _ _ _ _ _ _ _ _)
   | (with_reducible exact ih2 _ _ _ _ _ _ _ _ _)
   | (with_reducible exact ih3 _ _ _ _ _ _ _ _)
   | (with_reducible exact ih4 _ _ _ _ _ _ _)
   | (with_reducible exact ih5 _ _ _ _ _ _ _ _ _)
   | (with_reducible exact ih6 _ _ _ _ _ _ _ _ _)
   | (with_reducible exact ih7 _ _ _ _ _ _ _ _)
   | (with_reducible exact split_Names.mono _ _ _ _ _)
   | (with_reducible exact tmesislaw10_shown.mono _)
   | (with_reducible exact LeO.refl _)
   | (with_reducible exact LeO.none _)
   | (with_reducible refine LeO.ite ?_ ?_)
   | (with_reducible refine LeO.bind ?_ (fun _ => ?_))
   | exact ih0 _ _ _ _ _ _ _
   | exact ih1 _ _ _ _ _ _ _ _ _
   | exact ih2 _ _ _ _ _ _ _ _ _
   | exact ih3 _ _ _ _ _ _ _ _
   | exact ih4 _ _ _ _ _ _ _
   | exact ih5 _ _ _ _ _ _ _ _ _
   | exact ih6 _ _ _ _ _ _ _ _ _
   | exact ih7 _ _ _ _ _ _ _ _
   | exact split_Names.mono _ _ _ _ _
   | exact tmesislaw10_shown.mono _
   | exact LeO.none _
   | refine LeO.ite ?_ ?_
   | refine LeO.bind ?_ (fun _ => ?_)
  ·intro y0 y1 y2 y3 y4 y5 y6
   unfold tmesislaw10_SplitNames.l2
   repeat' first
   | (with_reducible exact ih0 _ _ _ _ _ _ _)
   | (with_reducible exact ih1 _ _ _ _ _ _ _ _ _)
   | (with_reducible exact ih2 _ _ _ _ _ _ _ _ _)
   | (with_reducible exact ih3 _ _ _ _ _ _ _ _)
   | (with_reducible exact ih4 _ _ _ _ _ _ _)
   | (with_reducible exact ih5 _ _ _ _ _ _ _ _ _)
   | (with_reducible exact ih6 _ _ _ _ _ _ _ _ _)
   | (with_reducible exact ih7 _ _ _ _ _ _ _ _)
   | (with_reducible exact split_Names.mono _ _ _ _ _)
   | (with_reducible exact tmesislaw10_shown.mono _)
   | (with_reducible exact LeO.refl _)
   | (with_reducible exact LeO.none _)
   | (with_reducible refine LeO.ite ?_ ?_)
   | (with_reducible refine LeO.bind ?_ (fun _ => ?_))
   | exact ih0 _ _ _ _ _ _ _
   | exact ih1 _ _ _ _ _ _ _ _ _
   | exact ih2 _ _ _ _ _ _ _ _ _
   | exact ih3 _ _ _ _ _ _ _ _
   | exact ih4 _ _ _ _ _ _ _
   | exact ih5 _ _ _ _ _ _ _ _ _
   | exact ih6 _ _ _ _ _ _ _ _ _
   | exact ih7 _ _ _ _ _ _ _ _
   | exact split_Names.mono _ _ _ _ _
   | exact tmesislaw10_shown.mono _
   | exact LeO.none _
   | refine LeO.ite ?_ ?_
   | refine LeO.bind ?_ (fun _ => ?_)
  ·intro y0 y1 y2 y3 y4 y5 y6 y7 y8
   unfold tmesislaw10_SplitNames.l3
   repeat' first
   | (with_reducible exact ih0 _ _ _ _ _ _ _)
   | (with_reducible exact ih1 _ _ _ _ _ _ _ _ _)
   | (with_reducible exact ih2 _ _ _ _ _ _ _ _ _)
   | (with_reducible exact ih3 _ _ _ _ _ _ _ _)
   | (with_reducible exact ih4 _ _ _ _ _ _ _)
   | (with_reducible exact ih5 _ _ _ _ _ _ _ _ _)
   | (with_reducible exact ih6 _ _ _ _ _ _ _ _ _)
   | (with_reducible exact ih7 _ _ _ _ _ _ _ _)
   | (with_reducible exact split_Names.mono _ _ _ _ _)
   | (with_reducible exact tmesislaw10_shown.mono _)
   | (with_reducible exact LeO.refl _)
   | (with_reducible exact LeO.none _)
   | (with_reducible refine LeO.ite ?_ ?_)
   | (with_reducible refine LeO.bind ?_ (fun _ => ?_))
   | exact ih0 _ _ _ _ _ _ _
   | exact ih1 _ _ _ _ _ _ _ _ _
   | exact ih2 _ _ _ _ _ _ _ _ _
   | exact ih3 _ _ _ _ _ _ _ _
   | exact ih4 _ _ _ _ _ _ _
   | exact ih5 _ _ _ _ _ _ _ _ _
   | exact ih6 _ _ _ _ _ _ _ _ _
   | exact ih7 _ _ _ _ _ _ _ _
   | exact split_Names.mono _ _ _ _ _
   | exact tmesislaw10_shown.mono _
   | exact LeO.none _
   | refine LeO.ite ?_ ?_
   | refine LeO.bind ?_ (fun _ => ?_)
  ·intro y0 y1 y2 y3 y4 y5 y6 y7 y8
   unfold tmesislaw10_SplitNames.j6
   repeat' first
   | (with_reducible exact ih0 _ _ _ _ _ _ _)
   | (with_reducible exact ih1 _ _ _ _ _ _ _ _ _)
   | (with_reducible exact ih2 _ _ _ _ _ _ _ _ _)
   | (with_reducible exact ih3 _ _ _ _ _ _ _ _)
   | (with_reducible exact ih4 _ _ _ _ _ _ _)
   | (with_reducible exact ih5 _ _ _ _ _ _ _ _ _)
   | (with_reducible exact ih6 _ _ _ _ _ _ _ _ _)
   | (with_reducible exact ih7 _ _ _ _ _ _ _ _)
   | (with_reducible exact split_Names.mono _ _ _ _ _)
   | (with_reducible exact tmesislaw10_shown.mono _)
   | (with_reducible exact LeO.refl _)
   | (with_reducible exact LeO.none _)
   | (with_reducible refine LeO.ite ?_ ?_)
   | (with_reducible refine LeO.bind ?_ (fun _ => ?_))
   | exact ih0 _ _ _ _ _ _ _
   | exact ih1 _ _ _ _ _ _ _ _ _
   | exact ih2 _ _ _ _ _ _ _ _ _
   | exact ih3 _ _ _ _ _ _ _ _
   | exact ih4 _ _ _ _ _ _ _
   | exact ih5 _ _ _ _ _ _ _ _ _
   | exact ih6 _ _ _ _ _ _ _ _ _
   | exact ih7 _ _ _ _ _ _ _ _
   | exact split_Names.mono _ _ _ _ _
   | exact tmesislaw10_shown.mono _
   | exact LeO.none _
   | refine LeO.ite ?_ ?_
   | refine LeO.bind ?_ (fun _ => ?_)
  ·intro y0 y1 y2 y3 y4 y5 y6 y7
   unfold tmesislaw10_SplitNames.j7
   repeat' first
   | (with_reducible exact ih0 _ _ _ _ _ _ _)
   | (with_reducible exact ih1 _ _ _ _ _ _ _ _ _)
   | (with_reducible exact ih2 _ _ _ _ _ _ _ _ _)
   | (with_reducible exact ih3 _ _ _ _ _ _ _ _)
   | (with_reducible exact ih4 _ _ _ _ _ _ _)
   | (with_reducible exact ih5 _ _ _ _ _ _ _ _ _)
   | (with_reducible exact ih6 _ _ _ _ _ _ _ _ _)
   | (with_reducible exact ih7 _ _ _ _ _ _ _ _)
   | (with_reducible exact split_Names.mono _ _ _ _ _)
   | (with_reducible exact tmesislaw10_shown.mono _)
   | (with_reducible exact LeO.refl _)
   | (with_reducible exact LeO.none _)
   | (with_reducible refine LeO.ite ?_ ?_)
   | (with_reducible refine LeO.bind ?_ (fun _ => ?_))
   | exact ih0 _ _ _ _ _ _ _
   | exact ih1 _ _ _ _ _ _ _ _ _
   | exact ih2 _ _ _ _ _ _ _ _ _
   | exact ih3 _ _ _ _ _ _ _ _
   | exact ih4 _ _ _ _ _ _ _
   | exact ih5 _ _ _ _ _ _ _ _ _
   | exact ih6 _ _ _ _ _ _ _ _ _
   | exact ih7 _ _ _ _ _ _ _ _
   | exact split_Names.mono _ _ _ _ _
   | exact tmesislaw10_shown.mono _
   | exact LeO.none _
   | refine LeO.ite ?_ ?_
   | refine LeO.bind ?_ (fun _ => ?_)
theorem tmesislaw10_SplitNames.mono : ∀ a0 a1 a2 a3 k, LeO (tmesislaw10_SplitNames.f k a0 a1 a2 a3) (tmesislaw10_SplitNames.f (k + 1) a0 a1 a2 a3) := by
 intro a0 a1 a2 a3 k
 obtain ⟨ih0, ih1, ih2, ih3, ih4, ih5, ih6, ih7⟩ := tmesislaw10_SplitNames.mono_l k
 unfold tmesislaw10_SplitNames.f
 repeat' first
   | (with_reducible exact ih0 _ _ _ _ _ _ _)
   | (with_reducible exact ih1 _ _ _ _ _ _ _ _ _)
   | (with_reducible exact ih2 _ _ _ _ _ _ _ _ _)
   | (with_reducible exact ih3 _ _ _ _ _ _ _ _)
   | (with_reducible exact ih4 _ _ _ _ _ _ _)
   | (with_reducible exact ih5 _ _ _ _ _ _ _ _ _)
   | (with_reducible exact ih6 _ _ _ _ _ _ _ _ _)
   | (with_reducible exact ih7 _ _ _ _ _ _ _ _)
   | (with_reducible exact split_Names.mono _ _ _ _ _)
   | (with_reducible exact tmesislaw10_shown.mono _)
   | (with_reducible exact LeO.refl _)
   | (with_reducible exact LeO.none _)
   | (with_reducible refine LeO.ite ?_ ?_)
   | (with_reducible refine LeO.bind ?_ (fun _ => ?_))
   | exact ih0 _ _ _ _ _ _ _
   | exact ih1 _ _ _ _ _ _ _ _ _
   | exact ih2 _ _ _ _ _ _ _ _ _
   | exact ih3 _ _ _ _ _ _ _ _
   | exact ih4 _ _ _ _ _ _ _
   | exact ih5 _ _ _ _ _ _ _ _ _
   | exact ih6 _ _ _ _ _ _ _ _ _
   | exact ih7 _ _ _ _ _ _ _ _
   | exact split_Names.mono _ _ _ _ _
   | exact tmesislaw10_shown.mono _
   | exact LeO.none _
   | refine LeO.ite ?_ ?_
   | refine LeO.bind ?_ (fun _ => ?_)
def tmesislaw10_SplitNames.T11 : Bool × List (List Nat × List Nat) := (true, [([], []), ([0], [0]), ([1], [1]), ([2, 1], [1, 2]), ([1], [1]), ([3, 4, 1], [1, 3, 4]), ([5, 1], [1, 5]), ([6, 1], [1, 6]), ([1], [1]), ([1], [1]), ([8, 9, 1], [1, 8, 9]), ([10, 1], [1, 10]), ([7, 11, 1], [1, 7, 11]), ([12, 1, 1], [1, 12]), ([13], [13]), ([14, 13], [13, 14]), ([13], [13]), ([15, 16, 13], [13, 15, 16]), ([17, 13], [13, 17]), ([18, 13, 13], [13, 18]), ([13, 19, 1], [1, 13, 19]), ([1, 20], [1, 20]), ([21, 19, 0, 1, 2, 3, 4, 5, 6, 7, 8, 9, 10, 11, 12, 13, 14, 15, 16, 17, 18, 19, 20, 21], [0, 21])])
def tmesislaw10_SplitNames.B11 : List Nat := [0, 1, 3, 7, 3, 31, 63, 127, 3, 3, 771, 1795, 4095, 8191, 16383, 32767, 16383, 131071, 262143, 524287, 1048575, 2097151, 4194303]
theorem tmesislaw10_SplitNames.tab11 : rtab .any (opsOf Tryd.f5 11) = tmesislaw10_SplitNames.T11 := by kernel_rfl
theorem tmesislaw10_SplitNames.bits11 : waitsOk tmesislaw10_SplitNames.T11.2 tmesislaw10_SplitNames.B11 = true := by kernel_rfl
def tmesislaw10_SplitNames.T12 : Bool × List (List Nat × List Nat) := (true, [([], []), ([0], [0]), ([1], [1]), ([2], [2]), ([3, 2], [2, 3]), ([4, 2, 2], [2, 4]), ([5], [5]), ([5], [5]), ([7, 5], [5, 7]), ([6, 8, 5], [5, 6, 8]), ([9, 5], [5, 9]), ([5], [5]), ([5], [5]), ([11, 12, 5], [5, 11, 12]), ([13, 5], [5, 13]), ([10, 14, 5], [5, 10, 14]), ([5, 15, 2], [2, 5, 15]), ([2, 16], [2, 16])])
def tmesislaw10_SplitNames.B12 : List Nat := [0, 1, 3, 7, 15, 31, 63, 63, 191, 511, 1023, 63, 63, 6207, 14399, 32767, 65535, 131071]
theorem tmesislaw10_SplitNames.tab12 : rtab .any (opsOf Tryd.f5 12) = tmesislaw10_SplitNames.T12 := by kernel_rfl
theorem tmesislaw10_SplitNames.bits12 : waitsOk tmesislaw10_SplitNames.T12.2 tmesislaw10_SplitNames.B12 = true := by kernel_rfl
def tmesislaw10_SplitNames.T21 : Bool × List (List Nat × List Nat) := (true, [([], []), ([0], [0]), ([1], [1]), ([2, 1], [1, 2]), ([1], [1]), ([3, 4, 1], [1, 3, 4]), ([5, 1], [1, 5]), ([6, 1], [1, 6]), ([1], [1]), ([1], [1]), ([8, 9, 1], [1, 8, 9]), ([10, 1], [1, 10]), ([7, 11, 1], [1, 7, 11]), ([1, 12], [1, 12]), ([13, 1, 0, 1, 2, 3, 4, 5, 6, 7, 8, 9, 10, 11, 12, 13], [0, 13])])
def tmesislaw10_SplitNames.B21 : List Nat := [0, 1, 3, 7, 3, 31, 63, 127, 3, 3, 771, 1795, 4095, 8191, 16383]
theorem tmesislaw10_SplitNames.tab21 : rtab .any (opsOf Tryd.f5 21) = tmesislaw10_SplitNames.T21 := by kernel_rfl
theorem tmesislaw10_SplitNames.bits21 : waitsOk tmesislaw10_SplitNames.T21.2 tmesislaw10_SplitNames.B21 = true := by kernel_rfl
set_option maxHeartbeats 8000000 in
set_option maxRecDepth 100000 in
theorem tmesislaw10_SplitNames.calls (k : Nat) (a0_0 : Int) (a0_1 : Int) (a0_2 : Int) (A0_3 : Option Addr) (c0_3 : Nat) (l0_3 : List (S38)) (r : Bool) (w : World) (hG : Gl w) (hr0_3 : Kd.C k38 w A0_3 l0_3.length l0_3) (hc0_3 : l0_3.length ≤ c0_3) (h : tmesislaw10_SplitNames.f k a0_0 a0_1 a0_2 l0_3 = some r) :
  Calls Tryd.prog 5 #[.agg #[.int .i64 a0_0, .int .i64 a0_1, .int .i64 a0_2, .slice A0_3 l0_3.length c0_3]] w fun e w' => e = .returned (.bool r) ∧ Below w.heap.size w w' := by
 have hu25 := Tryd.underlying25
 have hu38 := Tryd.underlying38
 have HR0_3 := Aside0.mk hr0_3
 have HC0_3 := Aside0.mk hc0_3
 clear hr0_3 hc0_3
 have HB := Aside0.mk (Below.refl w.heap.size w)
 have HG := Aside0.mk hG
 clear hG
 have H : ((tmesislaw10_shown.f k).bind fun t566 => ((tmesislaw10_short.f a0_0 a0_1 a0_2 l0_3).bind fun bt567 => ((split_Names.f k bt567.1 bt567.2.1 bt567.2.2.1 bt567.2.2.2).bind fun t574 => (tmesislaw10_SplitNames.l0 k t566 t574 0 bt567.1 bt567.2.1 bt567.2.2.1 bt567.2.2.2)))) = some r := h
 clear h
 replace H := Option.bind_eq_some_iff.mp H
 obtain ⟨t566, A20, H⟩ := H
 replace H : ((tmesislaw10_short.f a0_0 a0_1 a0_2 l0_3).bind fun bt567 => ((split_Names.f k bt567.1 bt567.2.1 bt567.2.2.1 bt567.2.2.2).bind fun t574 => (tmesislaw10_SplitNames.l0 k t566 t574 0 bt567.1 bt567.2.1 bt567.2.2.1 bt567.2.2.2))) = some r := H
 have A2 := Aside0.mk A20
 clear A20
 replace H := Option.bind_eq_some_iff.mp H
 obtain ⟨⟨t567, t568, t569, t570⟩, A30, H⟩ := H
 replace H : ((split_Names.f k t567 t568 t569 t570).bind fun t574 => (tmesislaw10_SplitNames.l0 k t566 t574 0 t567 t568 t569 t570)) = some r := H
 have A3 := Aside0.mk A30
 clear A30
 replace H := Option.bind_eq_some_iff.mp H
 obtain ⟨t574, A40, H⟩ := H
 replace H : (tmesislaw10_SplitNames.l0 k t566 t574 0 t567 t568 t569 t570) = some r := H
 have A4 := Aside0.mk A40
 clear A40
 have H' := Aside0.mk H
 clear H
 go_enter Tryd.func5, Tryd.ntmps5
 go_wp2_with (first | ((with_reducible refine gate_dst (N := 1) rfl ?_); refine box_event ?hg (N := 1) ?hd (cs := #[.int .i64 a0_0, .int .i64 a0_1, .int .i64 a0_2, .slice A0_3 l0_3.length c0_3]) (t := 25) ?hr ?_; (case hd => rfl); (case hg => rfl); (case hr => first | (go_simp; done) | (go_simp; rfl)); intro gb565 hg w5 hbox hb; have n0_ := Aside0.mk (below_step (bAt HB.out) hb); have n1_ := Aside0.mk (hbox); have n2_ := Aside0.mk ((by rw [hg]; exact (below_size (bAt HB.out)) : w.heap.size ≤ gb565)); have n3_ := Aside0.mk ((by rw [hg]; exact (below_size (bAt HB.out)) : w.heap.size ≤ gb565)); clear HB; have HB := n0_; have BK565 := n1_; have GW565 := n2_; have GE565 := n3_; clear n0_ n1_ n2_ n3_; clear hb hbox hg) | ((with_reducible refine gate_callee (f := 8) rfl ?_); refine goesL_ (some 12) rfl rfl Tryd.func8 (by kernel_rfl) rfl #[] rfl gA ?_; (with_reducible refine (tmesislaw10_shown.calls k  t566 _ ?side1 A2.out).mono ?_); (case side1 => exact Gl.below HG.out (bAt HB.out)); rintro e w6 ⟨rfl, hb⟩; refine ⟨_, rfl, ?_⟩; have n0_ := Aside0.mk (blk_below (g := gb565) (o := .cells #[.int .i64 a0_0, .int .i64 a0_1, .int .i64 a0_2, .slice A0_3 l0_3.length c0_3] 25 (0, 0)) (kAt BK565.out) hb); have n1_ := Aside0.mk (below_step (bAt HB.out) hb); clear BK565 HB; have BK565 := n0_; have HB := n1_; clear n0_ n1_; (try clear hb); (try clear hb2); (try clear hk); (try clear hi); have hcz7_0 : w6.cell? ⟨gb565, 0, none⟩ = some (.int .i64 a0_0) := (blk_cell BK565.out 0).trans rfl; have hcz7_1 : w6.cell? ⟨gb565, 1, none⟩ = some (.int .i64 a0_1) := (blk_cell BK565.out 1).trans rfl; have hcz7_2 : w6.cell? ⟨gb565, 2, none⟩ = some (.int .i64 a0_2) := (blk_cell BK565.out 2).trans rfl; have hcz7_3 : w6.cell? ⟨gb565, 3, none⟩ = some (.slice A0_3 l0_3.length c0_3) := (blk_cell BK565.out 3).trans rfl; have hfz7_0 := blk_frozen BK565.out 0; have hfz7_1 := blk_frozen BK565.out 1; have hfz7_2 := blk_frozen BK565.out 2; have hfz7_3 := blk_frozen BK565.out 3) | ((with_reducible refine gate_callee (f := 10) rfl ?_); refine goesL_ (some 14) rfl rfl Tryd.func10 (by kernel_rfl) rfl #[.agg #[.int .i64 a0_0, .int .i64 a0_1, .int .i64 a0_2, .slice A0_3 l0_3.length c0_3]] rfl gA ?_; (with_reducible refine (tmesislaw10_short.calls a0_0 a0_1 a0_2 (fun k_ => k_ < w.heap.size) _ _ l0_3 t567 t568 t569 t570 _ ?side1 A3.out).mono ?_); (case side1 => exact Kd.V_mk HC0_3.out (Kd.F_below (Kd.C_F k38_heap HR0_3.out) (bAt HB.out))); rintro e w8 ⟨v571, rfl, ho0, hb⟩; refine ⟨_, rfl, ?_⟩; have n0_ := Aside0.mk (Kd.V_lower (Kd.V_mono (ok' := fun k_ => k_ ≠ gb565) ho0 (fun k_ hk_ => Or.elim hk_ (fun hs_ => fun e_ => Nat.not_le.2 hs_ (by rw [e_]; exact GW565.out)) (fun hn_ => (Kd.freshB (g := gb565) (o := .cells #[.int .i64 a0_0, .int .i64 a0_1, .int .i64 a0_2, .slice A0_3 l0_3.length c0_3] 25 (0, 0)) (kAt BK565.out) k_ hn_)))) (below_size (bAt HB.out))); have n1_ := Aside0.mk (blk_below (g := gb565) (o := .cells #[.int .i64 a0_0, .int .i64 a0_1, .int .i64 a0_2, .slice A0_3 l0_3.length c0_3] 25 (0, 0)) (kAt BK565.out) hb); have n2_ := Aside0.mk (below_step (bAt HB.out) hb); clear BK565 HB; have HO572 := n0_; have BK565 := n1_; have HB := n2_; clear n0_ n1_ n2_; (try clear hb); (try clear hb2); (try clear hk); (try clear hi); (try clear ho0)) | ((with_reducible refine gate_dst (N := 4) rfl ?_); refine box_event ?hg (N := 4) ?hd (cs := #[.int .i64 0, .int .i64 0, .int .i64 0, .slice none 0 0]) (t := 25) ?hr ?_; (case hd => rfl); (case hg => rfl); (case hr => first | (go_simp; done) | (go_simp; rfl)); intro gb573 hg w9 hbox hb; have n0_ := Aside0.mk (Kd.V_below (Kd.V_elderB (VAt HO572.out) gb573 (Nat.le_of_eq hg.symm)) hb); have n1_ := Aside0.mk (blk_below (g := gb565) (o := .cells #[.int .i64 a0_0, .int .i64 a0_1, .int .i64 a0_2, .slice A0_3 l0_3.length c0_3] 25 (0, 0)) (kAt BK565.out) hb); have n2_ := Aside0.mk (below_step (bAt HB.out) hb); have n3_ := Aside0.mk (hbox); have n4_ := Aside0.mk ((by rw [hg]; exact (below_size (bAt HB.out)) : w.heap.size ≤ gb573)); have n5_ := Aside0.mk ((by rw [hg]; exact (below_size (bAt HB.out)) : w.heap.size ≤ gb573)); have n6_ := Aside0.mk ((by rw [hg]; exact Nat.ne_of_lt (blk_lt (g := gb565) (o := .cells #[.int .i64 a0_0, .int .i64 a0_1, .int .i64 a0_2, .slice A0_3 l0_3.length c0_3] 25 (0, 0)) (kAt BK565.out)) : gb565 ≠ gb573)); have n7_ := Aside0.mk ((by rw [hg]; exact Nat.ne_of_gt (blk_lt (g := gb565) (o := .cells #[.int .i64 a0_0, .int .i64 a0_1, .int .i64 a0_2, .slice A0_3 l0_3.length c0_3] 25 (0, 0)) (kAt BK565.out)) : gb573 ≠ gb565)); clear HO572 BK565 HB; have HO572 := n0_; have BK565 := n1_; have HB := n2_; have BK573 := n3_; have GW573 := n4_; have GE573 := n5_; have NB565_573 := n6_; have NB573_565 := n7_; clear n0_ n1_ n2_ n3_ n4_ n5_ n6_ n7_; clear hb hbox hg; have hnb10 := NB573_565.out; have hnc10 := NB565_573.out; have hcz11_0 : w9.cell? ⟨gb573, 0, none⟩ = some (.int .i64 0) := (blk_cell BK573.out 0).trans rfl; have hcz11_1 : w9.cell? ⟨gb573, 1, none⟩ = some (.int .i64 0) := (blk_cell BK573.out 1).trans rfl; have hcz11_2 : w9.cell? ⟨gb573, 2, none⟩ = some (.int .i64 0) := (blk_cell BK573.out 2).trans rfl; have hcz11_3 : w9.cell? ⟨gb573, 3, none⟩ = some (.slice none 0 0) := (blk_cell BK573.out 3).trans rfl; have hfz11_0 := blk_frozen BK573.out 0; have hfz11_1 := blk_frozen BK573.out 1; have hfz11_2 := blk_frozen BK573.out 2; have hfz11_3 := blk_frozen BK573.out 3; obtain ⟨Ao12, co12, eo12⟩ := Kd.V_slice HO572.out; subst eo12) | ((with_reducible refine gate_callee (f := 9) rfl ?_); refine goesL_ (some 16) rfl rfl Tryd.func9 (by kernel_rfl) rfl #[.agg #[.int .i64 t567, .int .i64 t568, .int .i64 t569, .slice Ao12 t570.length co12]] rfl gA ?_; (with_reducible refine (split_Names.calls k t567 t568 t569 _ _ t570 t574 _ ?side1 ?side2 A4.out).mono ?_); (case side1 => refine (Kd.V_reads' (e := 38) (base := w.heap.size) (ok := fun k_ => (k_ ≠ gb565 ∧ k_ ≠ gb573)) (n := t570.length) (c := co12) ?_).2.2; exact (VAt (Kd.V_mono (Kd.V_far (p := ⟨gb573, 3, none⟩) (Kd.V_far (p := ⟨gb573, 2, none⟩) (Kd.V_far (p := ⟨gb573, 1, none⟩) (Kd.V_far (p := ⟨gb573, 0, none⟩) (Kd.V_mono HO572.out (fun k_ hk => (⟨hk, hk.2⟩ : _ ∧ k_ ≠ gb573))) (fun _ hk => hk.2) (.int .i64 t567)) (fun _ hk => hk.2) (.int .i64 t568)) (fun _ hk => hk.2) (.int .i64 t569)) (fun _ hk => hk.2) (.slice Ao12 t570.length co12)) (fun _ h_ => h_.1)))); (case side2 => exact (Kd.V_reads' HO572.out).2.1); rintro e w13 ⟨v575, rfl, ho0, hb⟩; refine ⟨_, rfl, ?_⟩; have n0_ := Aside0.mk (Kd.V_elder' (VAt (Kd.V_mono (Kd.V_far (p := ⟨gb573, 3, none⟩) (Kd.V_far (p := ⟨gb573, 2, none⟩) (Kd.V_far (p := ⟨gb573, 1, none⟩) (Kd.V_far (p := ⟨gb573, 0, none⟩) (Kd.V_mono HO572.out (fun k_ hk => (⟨hk, hk.2⟩ : _ ∧ k_ ≠ gb573))) (fun _ hk => hk.2) (.int .i64 t567)) (fun _ hk => hk.2) (.int .i64 t568)) (fun _ hk => hk.2) (.int .i64 t569)) (fun _ hk => hk.2) (.slice Ao12 t570.length co12)) (fun _ h_ => h_.1))) (Kd.R_base ho0) hb); have n1_ := Aside0.mk (Kd.R_lower ho0 (below_size (bAt HB.out))); have n2_ := Aside0.mk (blk_below (g := gb565) (o := .cells #[.int .i64 a0_0, .int .i64 a0_1, .int .i64 a0_2, .slice A0_3 l0_3.length c0_3] 25 (0, 0)) (by (with_reducible repeat (first | refine blk_drewN ?_ _ | refine blk_drew ?_ | refine blk_alloc ?_ _ | refine blk_far ?_ NB565_573.out _)); (with_reducible repeat (first | refine blk_drewN ?_ _ | refine blk_drew ?_ | refine blk_alloc ?_ _)); exact BK565.out) hb); have n3_ := Aside0.mk (blk_below (g := gb573) (o := .cells #[.int .i64 t567, .int .i64 t568, .int .i64 t569, .slice Ao12 t570.length co12] 25 (0, 0)) (by (with_reducible repeat (first | refine blk_drewN ?_ _ | refine blk_drew ?_ | refine blk_alloc ?_ _)); refine blk_put (cs := #[.int .i64 t567, .int .i64 t568, .int .i64 t569, .slice none 0 0]) ?_ 3 _ rfl; (with_reducible repeat (first | refine blk_drewN ?_ _ | refine blk_drew ?_ | refine blk_alloc ?_ _)); refine blk_put (cs := #[.int .i64 t567, .int .i64 t568, .int .i64 0, .slice none 0 0]) ?_ 2 _ rfl; (with_reducible repeat (first | refine blk_drewN ?_ _ | refine blk_drew ?_ | refine blk_alloc ?_ _)); refine blk_put (cs := #[.int .i64 t567, .int .i64 0, .int .i64 0, .slice none 0 0]) ?_ 1 _ rfl; (with_reducible repeat (first | refine blk_drewN ?_ _ | refine blk_drew ?_ | refine blk_alloc ?_ _)); refine blk_put (cs := #[.int .i64 0, .int .i64 0, .int .i64 0, .slice none 0 0]) ?_ 0 _ rfl; (with_reducible repeat (first | refine blk_drewN ?_ _ | refine blk_drew ?_ | refine blk_alloc ?_ _)); exact BK573.out) hb); have n4_ := Aside0.mk (below_step (bAt HB.out) hb); clear HO572 BK565 BK573 HB; have HO572 := n0_; have HO576 := n1_; have BK565 := n2_; have BK573 := n3_; have HB := n4_; clear n0_ n1_ n2_ n3_ n4_; (try clear hb); (try clear hb2); (try clear hk); (try clear hi); (try clear ho0)))
 go_loopg [6] k (fun kq v6 w' => ∃ (x6_1 : Int), v6 = .int .i64 x6_1 ∧ Aside0 (tmesislaw10_SplitNames.l0 kq t566 t574 x6_1 t567 t568 t569 t570 = some r) ∧ Aside0 (kq ≤ k) ∧ Aside0 (Kd.R Kd.string 9 w' w.heap.size (fun _ => True) v575 t574) ∧ Aside0 (Kd.V k38 38 w' w.heap.size (fun k_ => some k_ ≠ (v575 : Value).ownBlock ∧ k_ ≠ gb565 ∧ k_ ≠ gb573) (.slice Ao12 t570.length co12) t570) ∧ Aside0 (w'.heap[gb565]? = some (.cells #[.int .i64 a0_0, .int .i64 a0_1, .int .i64 a0_2, (.slice A0_3 l0_3.length c0_3)] 25 (0, 0))) ∧ Aside0 (w'.heap[gb573]? = some (.cells #[.int .i64 t567, .int .i64 t568, .int .i64 t569, (.slice Ao12 t570.length co12)] 25 (0, 0))) ∧ Aside0 (Below w.heap.size w w'))
 case atStart => exact ⟨(0), sR, H', ⟨Nat.le_refl _⟩, ⟨RAt HO576.out⟩, ⟨VAt (Kd.V_mono HO572.out (fun _ hk => ⟨hk.2, ⟨hk.1.1, hk.1.2⟩⟩))⟩, ⟨kAt BK565.out⟩, ⟨kAt BK573.out⟩, ⟨bAt HB.out⟩⟩
 case round =>
  clear H'
  try clear c1
  try clear p2
  try clear c5
  try clear c8
  try clear c9
  try clear c10
  try clear hcz11_0
  try clear hcz11_1
  try clear hcz11_2
  try clear hcz11_3
  try clear hcz7_0
  try clear hcz7_1
  try clear hcz7_2
  try clear hcz7_3
  try clear hfz11_0
  try clear hfz11_1
  try clear hfz11_2
  try clear hfz11_3
  try clear hfz7_0
  try clear hfz7_1
  try clear hfz7_2
  try clear hfz7_3
  obtain ⟨x6_1, rfl, HA, HK1, HO_5, HO_574003, BK565, BK573, HB⟩ := hrel
  cases gk with
  | zero => exact absurd HA.out (by simp [tmesislaw10_SplitNames.l0])
  | succ k1 =>
   have H := HA.out
   clear HA
   simp only [tmesislaw10_SplitNames.l0] at H
   by_cases c14 : x6_1 < (t574.length : Int)
   ·rw [if_pos c14] at H
    have c14b0 : decide (x6_1 < (t574.length : Int)) = true := decide_eq_true c14
    clear c14
    have H' := Aside0.mk H
    clear H
    obtain ⟨Ao15, co15, eo15⟩ := Kd.R_slice HO_5.out
    subst eo15
    go_wp2
    go_loopg [7, 8] k1 (fun kq v7 v8 w' => ∃ (x7_2 : Bool) (x8_2 : Int), v7 = .bool x7_2 ∧ v8 = .int .i64 x8_2 ∧ Aside0 (tmesislaw10_SplitNames.l1 kq t566 t574 x6_1 x7_2 x8_2 t567 t568 t569 t570 = some r) ∧ Aside0 (kq ≤ k1) ∧ Aside0 (Kd.R Kd.string 9 w' w.heap.size (fun _ => True) (.slice Ao15 t574.length co15) t574) ∧ Aside0 (Kd.V k38 38 w' w.heap.size (fun k_ => some k_ ≠ ((.slice Ao15 t574.length co15) : Value).ownBlock ∧ k_ ≠ gb565 ∧ k_ ≠ gb573) (.slice Ao12 t570.length co12) t570) ∧ Aside0 (w'.heap[gb565]? = some (.cells #[.int .i64 a0_0, .int .i64 a0_1, .int .i64 a0_2, (.slice A0_3 l0_3.length c0_3)] 25 (0, 0))) ∧ Aside0 (w'.heap[gb573]? = some (.cells #[.int .i64 t567, .int .i64 t568, .int .i64 t569, (.slice Ao12 t570.length co12)] 25 (0, 0))) ∧ Aside0 (Below w.heap.size w w'))
    case atStart => exact ⟨(false), (0), sR, sR, H', ⟨Nat.le_refl _⟩, ⟨RAt HO_5.out⟩, ⟨VAt HO_574003.out⟩, ⟨kAt BK565.out⟩, ⟨kAt BK573.out⟩, ⟨bAt HB.out⟩⟩
    case round =>
     clear H'
     try clear c1
     try clear p2
     try clear c5
     try clear c8
     try clear c9
     try clear c10
     try clear c14
     try clear c14b0
     try clear hcz11_0
     try clear hcz11_1
     try clear hcz11_2
     try clear hcz11_3
     try clear hcz7_0
     try clear hcz7_1
     try clear hcz7_2
     try clear hcz7_3
     try clear hfz11_0
     try clear hfz11_1
     try clear hfz11_2
     try clear hfz11_3
     try clear hfz7_0
     try clear hfz7_1
     try clear hfz7_2
     try clear hfz7_3
     try clear p2
     obtain ⟨x7_2, x8_2, rfl, rfl, HA, HK2, HO_5, HO_574003, BK565, BK573, HB⟩ := hrel
     cases gk with
     | zero => exact absurd HA.out (by simp [tmesislaw10_SplitNames.l1])
     | succ k2 =>
      have H := HA.out
      clear HA
      simp only [tmesislaw10_SplitNames.l1] at H
      by_cases c16 : x8_2 < (t570.length : Int)
      ·rw [if_pos c16] at H
       have c16b0 : decide (x8_2 < (t570.length : Int)) = true := decide_eq_true c16
       clear c16
       have HC17 := Aside0.mk H
       clear H
       have hnb18 := NB573_565.out
       have hnc18 := NB565_573.out
       have hcz19_0 : wr.cell? ⟨gb573, 0, none⟩ = some (.int .i64 t567) := (blk_cell BK573.out 0).trans rfl
       have hcz19_1 : wr.cell? ⟨gb573, 1, none⟩ = some (.int .i64 t568) := (blk_cell BK573.out 1).trans rfl
       have hcz19_2 : wr.cell? ⟨gb573, 2, none⟩ = some (.int .i64 t569) := (blk_cell BK573.out 2).trans rfl
       have hcz19_3 : wr.cell? ⟨gb573, 3, none⟩ = some (.slice Ao12 t570.length co12) := (blk_cell BK573.out 3).trans rfl
       have hfz19_0 := blk_frozen BK573.out 0
       have hfz19_1 := blk_frozen BK573.out 1
       have hfz19_2 := blk_frozen BK573.out 2
       have hfz19_3 := blk_frozen BK573.out 3
       go_upto_block 3 with (fail)
       go_cut [7] (fun v7 wc => ∃ (kq : Nat) (x7_16 : Bool), v7 = .bool x7_16 ∧ Aside0 (tmesislaw10_SplitNames.j2 kq t566 t574 x6_1 x7_16 x8_2 t567 t568 t569 t570 = some r) ∧ Aside0 (kq ≤ k2) ∧ Aside0 (Kd.R Kd.string 9 wc w.heap.size (fun _ => True) (.slice Ao15 t574.length co15) t574) ∧ Aside0 (Kd.V k38 38 wc w.heap.size (fun k_ => some k_ ≠ ((.slice Ao15 t574.length co15) : Value).ownBlock ∧ k_ ≠ gb565 ∧ k_ ≠ gb573) (.slice Ao12 t570.length co12) t570) ∧ Aside0 (wc.heap[gb565]? = some (.cells #[.int .i64 a0_0, .int .i64 a0_1, .int .i64 a0_2, (.slice A0_3 l0_3.length c0_3)] 25 (0, 0))) ∧ Aside0 (wc.heap[gb573]? = some (.cells #[.int .i64 t567, .int .i64 t568, .int .i64 t569, (.slice Ao12 t570.length co12)] 25 (0, 0))) ∧ Aside0 (Below w.heap.size w wc))
       case first =>
        have H := HC17.out
        clear HC17
        by_cases c20 : x7_2 = true
        ·subst c20
         have H1 : (tmesislaw10_SplitNames.j2 k2 t566 t574 x6_1 true x8_2 t567 t568 t569 t570) = some r := by rw [if_pos rfl] at H; exact H
         clear H
         have H := H1
         clear H1
         have H' := Aside0.mk H
         clear H
         try go_wp2
         have n0_ := Aside0.mk (Kd.R_drew HO_5.out)
         have n1_ := Aside0.mk (Kd.V_drew HO_574003.out)
         have n2_ := Aside0.mk (blk_drew BK565.out)
         have n3_ := Aside0.mk (blk_drew BK573.out)
         have n4_ := Aside0.mk (below_drew1 HB.out)
         clear HO_5
         clear HO_574003
         clear BK565
         clear BK573
         clear HB
         have HO_5 := n0_
         have HO_574003 := n1_
         have BK565 := n2_
         have BK573 := n3_
         have HB := n4_
         clear n0_ n1_ n2_ n3_ n4_
         refine start_ (n := 23) (S := fun w' => True) (ds := []) (bm 23 0) (by kernel_rfl) rfl rfl trivial (fun hHeld => ?_); refine with_tabW tmesislaw10_SplitNames.tab11 tmesislaw10_SplitNames.bits11 (fun HT_ HW_ => ?_)
         generalize wr.drew = w21 at HO_5 HO_574003 BK565 BK573 HB hHeld ⊢
         refine pv_ 0 (some 30) (bm 23 1) HT_.out ?_
         refine pv_ 1 (some 31) (bm 23 3) HT_.out ?_
         refine pu_ 2 (some 32) (bm 23 7) HT_.out ?_
         refine pu_ 3 (some 33) (bm 23 15) HT_.out ?_
         refine pu_ 4 (some 34) (bm 23 31) HT_.out ?_
         refine pu_ 5 (some 35) (bm 23 63) HT_.out ?_
         refine pu_ 6 (some 36) (bm 23 127) HT_.out ?_
         refine pu_ 7 (some 37) (bm 23 255) HT_.out ?_
         refine pu_ 8 (some 38) (bm 23 511) HT_.out ?_
         refine pu_ 9 (some 39) (bm 23 1023) HT_.out ?_
         refine pu_ 10 (some 40) (bm 23 2047) HT_.out ?_
         refine pu_ 11 (some 41) (bm 23 4095) HT_.out ?_
         refine pu_ 12 (some 42) (bm 23 8191) HT_.out ?_
         refine pu_ 13 (some 43) (bm 23 16383) HT_.out ?_
         refine pu_ 14 (some 44) (bm 23 32767) HT_.out ?_
         refine pu_ 15 (some 45) (bm 23 65535) HT_.out ?_
         refine pu_ 16 (some 46) (bm 23 131071) HT_.out ?_
         refine pu_ 17 (some 47) (bm 23 262143) HT_.out ?_
         refine pu_ 18 (some 48) (bm 23 524287) HT_.out ?_
         refine pu_ 19 (some 49) (bm 23 1048575) HT_.out ?_
         refine pu_ 20 (some 50) (bm 23 2097151) HT_.out ?_
         refine pv_ 21 (some 51) (bm 23 4194303) HT_.out ?_
         refine pv_ 22 (some 7) (bm 23 8388607) HT_.out ?_
         refine done_ (done_of HT_.out (by kernel_rfl)) ?_
         try go_wp2
         go_meet
         case rel => exact ⟨_, (true), sR, H', ⟨by have := HK1.out; have := HK2.out; first | omega | exact Nat.le_refl _⟩, ⟨RAt HO_5.out⟩, ⟨VAt HO_574003.out⟩, ⟨kAt BK565.out⟩, ⟨kAt BK573.out⟩, ⟨bAt HB.out⟩⟩
        ·replace c20 := Bool.eq_false_iff.mpr c20
         subst c20
         have H1 : (if 0 ≤ x8_2 then (if 0 ≤ x6_1 then (if x6_1 < (t574.length : Int) then (if ((rd_T38 t570 x8_2).f3).toList = (rdOf ByteArray.empty t574 x6_1).toList then ((tmesislaw10_name.f ((rd_T38 t570 x8_2).f0) ((rd_T38 t570 x8_2).f1) ((rd_T38 t570 x8_2).f2) ((rd_T38 t570 x8_2).f3) ((rd_T38 t570 x8_2).f4)).bind fun t580 => (tmesislaw10_SplitNames.j2 k2 t566 t574 x6_1 t580 x8_2 t567 t568 t569 t570)) else (tmesislaw10_SplitNames.j2 k2 t566 t574 x6_1 false x8_2 t567 t568 t569 t570)) else (none)) else (none)) else (none)) = some r := by rw [if_neg (show ¬ (false = true) by decide)] at H; exact H
         clear H
         have H := H1
         clear H1
         by_cases c22 : 0 ≤ x8_2
         ·rw [if_pos c22] at H
          have c22b0 : decide (0 ≤ x8_2) = true := decide_eq_true c22
          clear c22
          (first | rw [c22b0] | (simp only [i64_w, i32_w]; rw [c22b0]) | skip)
          by_cases c23 : 0 ≤ x6_1
          ·rw [if_pos c23] at H
           have c23b0 : decide (0 ≤ x6_1) = true := decide_eq_true c23
           clear c23
           by_cases c24 : x6_1 < (t574.length : Int)
           ·rw [if_pos c24] at H
            have c24b0 : decide (x6_1 < (t574.length : Int)) = true := decide_eq_true c24
            clear c24
            by_cases c25 : ((rd_T38 t570 x8_2).f3).toList = (rdOf ByteArray.empty t574 x6_1).toList
            ·rw [if_pos c25] at H
             have c25b0 : (((rd_T38 t570 x8_2).f3).toList == (rdOf ByteArray.empty t574 x6_1).toList) = true := beq_iff_eq.mpr c25
             have c25b1 : (((rd_T38 t570 x8_2).f3).toList != (rdOf ByteArray.empty t574 x6_1).toList) = false := bne_eq_false_iff_eq.mpr c25
             clear c25
             replace H := Option.bind_eq_some_iff.mp H
             obtain ⟨t580, A260, H⟩ := H
             replace H : (tmesislaw10_SplitNames.j2 k2 t566 t574 x6_1 t580 x8_2 t567 t568 t569 t570) = some r := H
             have A26 := Aside0.mk A260
             clear A260
             have H' := Aside0.mk H
             clear H
             try go_wp2
             have n0_ := Aside0.mk (Kd.R_drew HO_5.out)
             have n1_ := Aside0.mk (Kd.V_drew HO_574003.out)
             have n2_ := Aside0.mk (blk_drew BK565.out)
             have n3_ := Aside0.mk (blk_drew BK573.out)
             have n4_ := Aside0.mk (below_drew1 HB.out)
             clear HO_5
             clear HO_574003
             clear BK565
             clear BK573
             clear HB
             have HO_5 := n0_
             have HO_574003 := n1_
             have BK565 := n2_
             have BK573 := n3_
             have HB := n4_
             clear n0_ n1_ n2_ n3_ n4_
             have p577 : 0 ≤ (x8_2 : Int) := dt
             have q577 : x8_2 < (t570.length : Int) := dt
             obtain ⟨ad577, e577, hx577_0, hx577_1, hx577_2, hx577_3, hx577_4⟩ := at_T38 (Kd.V_reads' HO_574003.out).2.2 x8_2 p577 q577
             cases e577
             replace p577 := eq_true p577
             replace q577 := eq_true q577
             have p578 : 0 ≤ (x6_1 : Int) := dt
             have q578 : x6_1 < (t574.length : Int) := dt
             obtain ⟨ad578, e578, hx578_0⟩ := Kd.at_string (Kd.R_reads' HO_5.out).2.2 x6_1 p578 q578
             cases e578
             replace p578 := eq_true p578
             replace q578 := eq_true q578
             have p579 : 0 ≤ (x8_2 : Int) := dt
             have q579 : x8_2 < (t570.length : Int) := dt
             obtain ⟨ad579, e579, hx579_0, hx579_1, hx579_2, hx579_3, hx579_4⟩ := at_T38 (Kd.V_reads' HO_574003.out).2.2 x8_2 p579 q579
             obtain rfl : ad577 = ad579 := (by injection e579)
             replace p579 := eq_true p579
             replace q579 := eq_true q579
             refine start_ (n := 23) (S := fun w' => w'.cell? ⟨gb573, 0, none⟩ = some (.int .i64 t567) ∧ w'.cell? ⟨gb573, 1, none⟩ = some (.int .i64 t568) ∧ w'.cell? ⟨gb573, 2, none⟩ = some (.int .i64 t569) ∧ w'.cell? ⟨gb573, 3, none⟩ = some (.slice (some ad577) t570.length co12) ∧ w'.cell? (ad577.add ((x8_2).toNat * 5)) = some (.int .i64 ((rd_T38 t570 x8_2).f0)) ∧ w'.cell? ⟨(ad577.add ((x8_2).toNat * 5)).block, (ad577.add ((x8_2).toNat * 5)).off + 1, none⟩ = some (.int .i64 ((rd_T38 t570 x8_2).f1)) ∧ w'.cell? ⟨(ad577.add ((x8_2).toNat * 5)).block, (ad577.add ((x8_2).toNat * 5)).off + 2, none⟩ = some (.int .i64 ((rd_T38 t570 x8_2).f2)) ∧ w'.cell? ⟨(ad577.add ((x8_2).toNat * 5)).block, (ad577.add ((x8_2).toNat * 5)).off + 3, none⟩ = some (.string ((rd_T38 t570 x8_2).f3)) ∧ w'.cell? ⟨(ad577.add ((x8_2).toNat * 5)).block, (ad577.add ((x8_2).toNat * 5)).off + 4, none⟩ = some (.int .i64 ((rd_T38 t570 x8_2).f4)) ∧ w'.cell? (ad578.add (x6_1).toNat) = some (.string (rdOf ByteArray.empty t574 x6_1)) ∧ w'.cell? (ad577.add ((x8_2).toNat * 5)) = some (.int .i64 ((rd_T38 t570 x8_2).f0)) ∧ w'.cell? ⟨(ad577.add ((x8_2).toNat * 5)).block, (ad577.add ((x8_2).toNat * 5)).off + 1, none⟩ = some (.int .i64 ((rd_T38 t570 x8_2).f1)) ∧ w'.cell? ⟨(ad577.add ((x8_2).toNat * 5)).block, (ad577.add ((x8_2).toNat * 5)).off + 2, none⟩ = some (.int .i64 ((rd_T38 t570 x8_2).f2)) ∧ w'.cell? ⟨(ad577.add ((x8_2).toNat * 5)).block, (ad577.add ((x8_2).toNat * 5)).off + 3, none⟩ = some (.string ((rd_T38 t570 x8_2).f3)) ∧ w'.cell? ⟨(ad577.add ((x8_2).toNat * 5)).block, (ad577.add ((x8_2).toNat * 5)).off + 4, none⟩ = some (.int .i64 ((rd_T38 t570 x8_2).f4))) (ds := []) (bm 23 0) (by kernel_rfl) rfl rfl ⟨(blk_cell BK573.out 0).trans rfl, (blk_cell BK573.out 1).trans rfl, (blk_cell BK573.out 2).trans rfl, (blk_cell BK573.out 3).trans rfl, hx577_0, hx577_1, hx577_2, hx577_3, hx577_4, hx578_0, hx579_0, hx579_1, hx579_2, hx579_3, hx579_4⟩ (fun hHeld => ?_); refine with_tabW tmesislaw10_SplitNames.tab11 tmesislaw10_SplitNames.bits11 (fun HT_ HW_ => ?_)
             generalize wr.drew = w27 at HO_5 HO_574003 BK565 BK573 HB hx577_0 hx577_1 hx577_2 hx577_3 hx577_4 hx578_0 hx579_0 hx579_1 hx579_2 hx579_3 hx579_4 hHeld ⊢
             refine pv_ 0 (some 30) (bm 23 1) HT_.out ?_
             refine pv_ 1 (some 31) (bm 23 3) HT_.out ?_
             refine pv_ 2 (some 32) (bm 23 7) HT_.out ?_
             refine pv_ 4 (some 34) (bm 23 23) HT_.out ?_
             refine pv_ 8 (some 38) (bm 23 279) HT_.out ?_
             refine pv_ 9 (some 39) (bm 23 791) HT_.out ?_
             refine pv_ 10 (some 40) (bm 23 1815) HT_.out ?_
             refine tk_ 3 (some 33) (bm 23 1823) HT_.out HW_.out hHeld ?_
             refine pv_ 5 (some 35) (bm 23 1855) HT_.out ?_
             refine pv_ 6 (some 36) (bm 23 1919) HT_.out ?_
             refine tk_ 7 (some 37) (bm 23 2047) HT_.out HW_.out hHeld ?_
             refine tk_ 11 (some 41) (bm 23 4095) HT_.out HW_.out hHeld ?_
             refine pv_ 12 (some 42) (bm 23 8191) HT_.out ?_
             refine pv_ 13 (some 43) (bm 23 16383) HT_.out ?_
             refine pv_ 14 (some 44) (bm 23 32767) HT_.out ?_
             refine pv_ 16 (some 46) (bm 23 98303) HT_.out ?_
             refine tk_ 15 (some 45) (bm 23 131071) HT_.out HW_.out hHeld ?_
             refine pv_ 17 (some 47) (bm 23 262143) HT_.out ?_
             refine tk_ 18 (some 48) (bm 23 524287) HT_.out HW_.out hHeld ?_
             refine one_ (i := 19) (N := some 49) (bm 23 1048575) rfl rfl (one_of HT_.out (by kernel_rfl)) (by decide) (fun K hK => ?_)
             refine goes_ Tryd.func20 (by kernel_rfl) rfl #[.agg #[.int .i64 ((rd_T38 t570 x8_2).f0), .int .i64 ((rd_T38 t570 x8_2).f1), .int .i64 ((rd_T38 t570 x8_2).f2), .string ((rd_T38 t570 x8_2).f3), .int .i64 ((rd_T38 t570 x8_2).f4)]] (by rfl) rfl rfl gA ?_
             with_reducible refine (tmesislaw10_name.calls ((rd_T38 t570 x8_2).f0) ((rd_T38 t570 x8_2).f1) ((rd_T38 t570 x8_2).f2) ((rd_T38 t570 x8_2).f3) ((rd_T38 t570 x8_2).f4) t580 _ A26.out).mono ?_
             rintro e w28 ⟨rfl, hb⟩
             have HS4_ := (hb.cell (World.block_lt_of_cell? _ _ (hHeld.2.2.2.2.1))).trans (hHeld.2.2.2.2.1)
             have HS5_ := (hb.cell (World.block_lt_of_cell? _ _ (hHeld.2.2.2.2.2.1))).trans (hHeld.2.2.2.2.2.1)
             have HS6_ := (hb.cell (World.block_lt_of_cell? _ _ (hHeld.2.2.2.2.2.2.1))).trans (hHeld.2.2.2.2.2.2.1)
             have HS7_ := (hb.cell (World.block_lt_of_cell? _ _ (hHeld.2.2.2.2.2.2.2.1))).trans (hHeld.2.2.2.2.2.2.2.1)
             have HS8_ := (hb.cell (World.block_lt_of_cell? _ _ (hHeld.2.2.2.2.2.2.2.2.1))).trans (hHeld.2.2.2.2.2.2.2.2.1)
             have HS9_ := (hb.cell (World.block_lt_of_cell? _ _ (hHeld.2.2.2.2.2.2.2.2.2.1))).trans (hHeld.2.2.2.2.2.2.2.2.2.1)
             have HS10_ := (hb.cell (World.block_lt_of_cell? _ _ (hHeld.2.2.2.2.2.2.2.2.2.2.1))).trans (hHeld.2.2.2.2.2.2.2.2.2.2.1)
             have HS11_ := (hb.cell (World.block_lt_of_cell? _ _ (hHeld.2.2.2.2.2.2.2.2.2.2.2.1))).trans (hHeld.2.2.2.2.2.2.2.2.2.2.2.1)
             have HS12_ := (hb.cell (World.block_lt_of_cell? _ _ (hHeld.2.2.2.2.2.2.2.2.2.2.2.2.1))).trans (hHeld.2.2.2.2.2.2.2.2.2.2.2.2.1)
             have HS13_ := (hb.cell (World.block_lt_of_cell? _ _ (hHeld.2.2.2.2.2.2.2.2.2.2.2.2.2.1))).trans (hHeld.2.2.2.2.2.2.2.2.2.2.2.2.2.1)
             have HS14_ := (hb.cell (World.block_lt_of_cell? _ _ (hHeld.2.2.2.2.2.2.2.2.2.2.2.2.2.2))).trans (hHeld.2.2.2.2.2.2.2.2.2.2.2.2.2.2)
             refine ⟨_, rfl, ?_⟩
             have n0_ := Aside0.mk (Kd.R_below (RAt HO_5.out) hb)
             have n1_ := Aside0.mk (Kd.V_below (VAt HO_574003.out) hb)
             have n2_ := Aside0.mk (blk_below (g := gb565) (o := .cells #[.int .i64 a0_0, .int .i64 a0_1, .int .i64 a0_2, .slice A0_3 l0_3.length c0_3] 25 (0, 0)) (kAt BK565.out) hb)
             have n3_ := Aside0.mk (blk_below (g := gb573) (o := .cells #[.int .i64 t567, .int .i64 t568, .int .i64 t569, .slice (some ad577) t570.length co12] 25 (0, 0)) (kAt BK573.out) hb)
             have n4_ := Aside0.mk (below_step (bAt HB.out) hb)
             clear HO_5
             clear HO_574003
             clear BK565
             clear BK573
             clear HB
             have HO_5 := n0_
             have HO_574003 := n1_
             have BK565 := n2_
             have BK573 := n3_
             have HB := n4_
             clear n0_ n1_ n2_ n3_ n4_
             (try clear hb)
             (try clear hb2)
             (try clear hk)
             (try clear hi)
             refine hK.out _ _ ⟨(blk_cell BK573.out 0).trans rfl, (blk_cell BK573.out 1).trans rfl, (blk_cell BK573.out 2).trans rfl, (blk_cell BK573.out 3).trans rfl, HS4_, HS5_, HS6_, HS7_, HS8_, HS9_, HS10_, HS11_, HS12_, HS13_, HS14_⟩ (fun hHeld => ?_)
             clear hK K
             refine norm_ (a' := ?_) ?_ ?_
             rotate_left
             ·show Act.put _ (some 49) _ = _
              simp only [Act.put, List.setIfInBounds_toArray, List.set_cons_zero, List.set_cons_succ, i64_w, i32_w]
              rfl
             refine pv_ 20 (some 50) (bm 23 2097151) HT_.out ?_
             refine pv_ 21 (some 51) (bm 23 4194303) HT_.out ?_
             refine pv_ 22 (some 7) (bm 23 8388607) HT_.out ?_
             refine done_ (done_of HT_.out (by kernel_rfl)) ?_
             try go_wp2
             go_meet
             case rel => exact ⟨_, (t580), sR, H', ⟨by have := HK1.out; have := HK2.out; first | omega | exact Nat.le_refl _⟩, ⟨RAt HO_5.out⟩, ⟨VAt HO_574003.out⟩, ⟨kAt BK565.out⟩, ⟨kAt BK573.out⟩, ⟨bAt HB.out⟩⟩
            ·rw [if_neg c25] at H
             have c25b0 : (((rd_T38 t570 x8_2).f3).toList == (rdOf ByteArray.empty t574 x6_1).toList) = false := beq_eq_false_iff_ne.mpr c25
             have c25b1 : (((rd_T38 t570 x8_2).f3).toList != (rdOf ByteArray.empty t574 x6_1).toList) = true := bne_iff_ne.mpr c25
             have H' := Aside0.mk H
             clear H
             try go_wp2
             have n0_ := Aside0.mk (Kd.R_drew HO_5.out)
             have n1_ := Aside0.mk (Kd.V_drew HO_574003.out)
             have n2_ := Aside0.mk (blk_drew BK565.out)
             have n3_ := Aside0.mk (blk_drew BK573.out)
             have n4_ := Aside0.mk (below_drew1 HB.out)
             clear HO_5
             clear HO_574003
             clear BK565
             clear BK573
             clear HB
             have HO_5 := n0_
             have HO_574003 := n1_
             have BK565 := n2_
             have BK573 := n3_
             have HB := n4_
             clear n0_ n1_ n2_ n3_ n4_
             have p577 : 0 ≤ (x8_2 : Int) := dt
             have q577 : x8_2 < (t570.length : Int) := dt
             obtain ⟨ad577, e577, hx577_0, hx577_1, hx577_2, hx577_3, hx577_4⟩ := at_T38 (Kd.V_reads' HO_574003.out).2.2 x8_2 p577 q577
             cases e577
             replace p577 := eq_true p577
             replace q577 := eq_true q577
             have p578 : 0 ≤ (x6_1 : Int) := dt
             have q578 : x6_1 < (t574.length : Int) := dt
             obtain ⟨ad578, e578, hx578_0⟩ := Kd.at_string (Kd.R_reads' HO_5.out).2.2 x6_1 p578 q578
             cases e578
             replace p578 := eq_true p578
             replace q578 := eq_true q578
             refine start_ (n := 23) (S := fun w' => w'.cell? ⟨gb573, 0, none⟩ = some (.int .i64 t567) ∧ w'.cell? ⟨gb573, 1, none⟩ = some (.int .i64 t568) ∧ w'.cell? ⟨gb573, 2, none⟩ = some (.int .i64 t569) ∧ w'.cell? ⟨gb573, 3, none⟩ = some (.slice (some ad577) t570.length co12) ∧ w'.cell? (ad577.add ((x8_2).toNat * 5)) = some (.int .i64 ((rd_T38 t570 x8_2).f0)) ∧ w'.cell? ⟨(ad577.add ((x8_2).toNat * 5)).block, (ad577.add ((x8_2).toNat * 5)).off + 1, none⟩ = some (.int .i64 ((rd_T38 t570 x8_2).f1)) ∧ w'.cell? ⟨(ad577.add ((x8_2).toNat * 5)).block, (ad577.add ((x8_2).toNat * 5)).off + 2, none⟩ = some (.int .i64 ((rd_T38 t570 x8_2).f2)) ∧ w'.cell? ⟨(ad577.add ((x8_2).toNat * 5)).block, (ad577.add ((x8_2).toNat * 5)).off + 3, none⟩ = some (.string ((rd_T38 t570 x8_2).f3)) ∧ w'.cell? ⟨(ad577.add ((x8_2).toNat * 5)).block, (ad577.add ((x8_2).toNat * 5)).off + 4, none⟩ = some (.int .i64 ((rd_T38 t570 x8_2).f4)) ∧ w'.cell? (ad578.add (x6_1).toNat) = some (.string (rdOf ByteArray.empty t574 x6_1))) (ds := []) (bm 23 0) (by kernel_rfl) rfl rfl ⟨(blk_cell BK573.out 0).trans rfl, (blk_cell BK573.out 1).trans rfl, (blk_cell BK573.out 2).trans rfl, (blk_cell BK573.out 3).trans rfl, hx577_0, hx577_1, hx577_2, hx577_3, hx577_4, hx578_0⟩ (fun hHeld => ?_); refine with_tabW tmesislaw10_SplitNames.tab11 tmesislaw10_SplitNames.bits11 (fun HT_ HW_ => ?_)
             generalize wr.drew = w29 at HO_5 HO_574003 BK565 BK573 HB hx577_0 hx577_1 hx577_2 hx577_3 hx577_4 hx578_0 hHeld ⊢
             refine pv_ 0 (some 30) (bm 23 1) HT_.out ?_
             refine pv_ 1 (some 31) (bm 23 3) HT_.out ?_
             refine pv_ 2 (some 32) (bm 23 7) HT_.out ?_
             refine pv_ 4 (some 34) (bm 23 23) HT_.out ?_
             refine pv_ 8 (some 38) (bm 23 279) HT_.out ?_
             refine pv_ 9 (some 39) (bm 23 791) HT_.out ?_
             refine pv_ 10 (some 40) (bm 23 1815) HT_.out ?_
             refine tk_ 3 (some 33) (bm 23 1823) HT_.out HW_.out hHeld ?_
             refine pv_ 5 (some 35) (bm 23 1855) HT_.out ?_
             refine pv_ 6 (some 36) (bm 23 1919) HT_.out ?_
             refine tk_ 7 (some 37) (bm 23 2047) HT_.out HW_.out hHeld ?_
             refine tk_ 11 (some 41) (bm 23 4095) HT_.out HW_.out hHeld ?_
             refine pv_ 12 (some 42) (bm 23 8191) HT_.out ?_
             refine pv_ 13 (some 43) (bm 23 16383) HT_.out ?_
             refine pu_ 14 (some 44) (bm 23 32767) HT_.out ?_
             refine pu_ 15 (some 45) (bm 23 65535) HT_.out ?_
             refine pu_ 16 (some 46) (bm 23 131071) HT_.out ?_
             refine pu_ 17 (some 47) (bm 23 262143) HT_.out ?_
             refine pu_ 18 (some 48) (bm 23 524287) HT_.out ?_
             refine pu_ 19 (some 49) (bm 23 1048575) HT_.out ?_
             refine pv_ 20 (some 50) (bm 23 2097151) HT_.out ?_
             refine pv_ 21 (some 51) (bm 23 4194303) HT_.out ?_
             refine pv_ 22 (some 7) (bm 23 8388607) HT_.out ?_
             refine done_ (done_of HT_.out (by kernel_rfl)) ?_
             try go_wp2
             go_meet
             case rel => exact ⟨_, (false), sR, H', ⟨by have := HK1.out; have := HK2.out; first | omega | exact Nat.le_refl _⟩, ⟨RAt HO_5.out⟩, ⟨VAt HO_574003.out⟩, ⟨kAt BK565.out⟩, ⟨kAt BK573.out⟩, ⟨bAt HB.out⟩⟩
           ·rw [if_neg c24] at H
            exact absurd H (by simp)
          ·rw [if_neg c23] at H
           exact absurd H (by simp)
         ·rw [if_neg c22] at H
          exact absurd H (by simp)
       case rest =>
        clear HC17
        try clear c2
        try clear p2
        try clear p5
        try clear q5
        try clear hx5
        try clear c20
        try clear c22
        try clear c22b0
        try clear c23
        try clear c23b0
        try clear c24
        try clear c24b0
        try clear c25
        try clear c25b0
        try clear c25b1
        try clear hx577_0
        try clear hx577_1
        try clear hx577_2
        try clear hx577_3
        try clear hx577_4
        try clear hx578_0
        try clear hx579_0
        try clear hx579_1
        try clear hx579_2
        try clear hx579_3
        try clear hx579_4
        try clear p577
        try clear p578
        try clear p579
        try clear q577
        try clear q578
        try clear q579
        obtain ⟨kq, x7_16, rfl, HA, HJ16, HO_5, HO_574003, BK565, BK573, HB⟩ := hcut
        cases kq with
        | zero => exact absurd HA.out (by simp [tmesislaw10_SplitNames.j2])
        | succ kj16 =>
         have H := HA.out
         clear HA
         simp only [tmesislaw10_SplitNames.j2] at H
         have H' := Aside0.mk H
         clear H
         go_wp2
         go_roundg kj16
         case measure => have := HK1.out; have := HK2.out; have := HJ16.out; omega
         case rel => exact ⟨(x7_16), (wrap64 (x8_2 + 1)), sR, sR, H', ⟨by have := HK1.out; have := HK2.out; have := HJ16.out; omega⟩, ⟨RAt HO_5.out⟩, ⟨VAt HO_574003.out⟩, ⟨kAt BK565.out⟩, ⟨kAt BK573.out⟩, ⟨bAt HB.out⟩⟩
      ·rw [if_neg c16] at H
       have c16b0 : decide (x8_2 < (t570.length : Int)) = false := decide_eq_false c16
       clear c16
       have HC30 := Aside0.mk H
       clear H
       have hnb31 := NB573_565.out
       have hnc31 := NB565_573.out
       have hcz32_0 : wr.cell? ⟨gb573, 0, none⟩ = some (.int .i64 t567) := (blk_cell BK573.out 0).trans rfl
       have hcz32_1 : wr.cell? ⟨gb573, 1, none⟩ = some (.int .i64 t568) := (blk_cell BK573.out 1).trans rfl
       have hcz32_2 : wr.cell? ⟨gb573, 2, none⟩ = some (.int .i64 t569) := (blk_cell BK573.out 2).trans rfl
       have hcz32_3 : wr.cell? ⟨gb573, 3, none⟩ = some (.slice Ao12 t570.length co12) := (blk_cell BK573.out 3).trans rfl
       have hfz32_0 := blk_frozen BK573.out 0
       have hfz32_1 := blk_frozen BK573.out 1
       have hfz32_2 := blk_frozen BK573.out 2
       have hfz32_3 := blk_frozen BK573.out 3
       go_upto_region 12 with (fail)
       go_cut [69] (fun v69 wc => ∃ (kq : Nat) (x69_29 : Bool), v69 = .bool x69_29 ∧ Aside0 (tmesislaw10_SplitNames.j3 kq t566 t574 x6_1 x69_29 t567 t568 t569 t570 = some r) ∧ Aside0 (kq ≤ k2) ∧ Aside0 (Kd.R Kd.string 9 wc w.heap.size (fun _ => True) (.slice Ao15 t574.length co15) t574) ∧ Aside0 (Kd.V k38 38 wc w.heap.size (fun k_ => some k_ ≠ ((.slice Ao15 t574.length co15) : Value).ownBlock ∧ k_ ≠ gb565 ∧ k_ ≠ gb573) (.slice Ao12 t570.length co12) t570) ∧ Aside0 (wc.heap[gb565]? = some (.cells #[.int .i64 a0_0, .int .i64 a0_1, .int .i64 a0_2, (.slice A0_3 l0_3.length c0_3)] 25 (0, 0))) ∧ Aside0 (wc.heap[gb573]? = some (.cells #[.int .i64 t567, .int .i64 t568, .int .i64 t569, (.slice Ao12 t570.length co12)] 25 (0, 0))) ∧ Aside0 (Below w.heap.size w wc))
       case first =>
        have H := HC30.out
        clear HC30
        by_cases c33 : x7_2 = true
        ·subst c33
         have H1 : (if x6_1 > 0 then (if 0 ≤ (wrap64 (x6_1 - 1)) then (if (wrap64 (x6_1 - 1)) < (t574.length : Int) then (if 0 ≤ x6_1 then (if x6_1 < (t574.length : Int) then (tmesislaw10_SplitNames.j3 k2 t566 t574 x6_1 (!(Op.bytesLess ((rdOf ByteArray.empty t574 (wrap64 (x6_1 - 1))).toList) ((rdOf ByteArray.empty t574 x6_1).toList))) t567 t568 t569 t570) else (none)) else (none)) else (none)) else (none)) else (tmesislaw10_SplitNames.j3 k2 t566 t574 x6_1 false t567 t568 t569 t570)) = some r := by rw [if_pos rfl] at H; exact H
         clear H
         have H := H1
         clear H1
         by_cases c34 : x6_1 > 0
         ·rw [if_pos c34] at H
          have c34b0 : decide (0 < x6_1) = true := decide_eq_true c34
          clear c34
          (first | rw [c34b0] | (simp only [i64_w, i32_w]; rw [c34b0]) | skip)
          obtain ⟨ji35, hji35⟩ : ∃ j_ : Int, (wrap64 (x6_1 - 1)) = j_ := ⟨_, rfl⟩
          replace H : (if 0 ≤ (ji35) then (if (ji35) < (t574.length : Int) then (if 0 ≤ x6_1 then (if x6_1 < (t574.length : Int) then (tmesislaw10_SplitNames.j3 k2 t566 t574 x6_1 (!(Op.bytesLess ((rdOf ByteArray.empty t574 (ji35)).toList) ((rdOf ByteArray.empty t574 x6_1).toList))) t567 t568 t569 t570) else (none)) else (none)) else (none)) else (none)) = some r := by first | (rw [hji35] at H; exact H) | (simp only [hji35] at H ⊢; exact H)
          have hji35w : (IntKind.i64.wrap (x6_1 - 1)) = ji35 := (i64_w _).trans hji35
          by_cases c36 : 0 ≤ (ji35)
          ·rw [if_pos c36] at H
           have c36b0 : decide (0 ≤ (ji35)) = true := decide_eq_true c36
           clear c36
           by_cases c37 : (ji35) < (t574.length : Int)
           ·rw [if_pos c37] at H
            have c37b0 : decide ((ji35) < (t574.length : Int)) = true := decide_eq_true c37
            clear c37
            by_cases c38 : 0 ≤ x6_1
            ·rw [if_pos c38] at H
             have c38b0 : decide (0 ≤ x6_1) = true := decide_eq_true c38
             clear c38
             by_cases c39 : x6_1 < (t574.length : Int)
             ·rw [if_pos c39] at H
              have c39b0 : decide (x6_1 < (t574.length : Int)) = true := decide_eq_true c39
              clear c39
              have H' := Aside0.mk H
              clear H
              try go_wp2
              have n0_ := Aside0.mk (Kd.R_drew HO_5.out)
              have n1_ := Aside0.mk (Kd.V_drew HO_574003.out)
              have n2_ := Aside0.mk (blk_drew BK565.out)
              have n3_ := Aside0.mk (blk_drew BK573.out)
              have n4_ := Aside0.mk (below_drew1 HB.out)
              clear HO_5
              clear HO_574003
              clear BK565
              clear BK573
              clear HB
              have HO_5 := n0_
              have HO_574003 := n1_
              have BK565 := n2_
              have BK573 := n3_
              have HB := n4_
              clear n0_ n1_ n2_ n3_ n4_
              have p581 : 0 ≤ ((ji35) : Int) := dt
              have q581 : (ji35) < (t574.length : Int) := dt
              obtain ⟨ad581, e581, hx581_0⟩ := Kd.at_string (Kd.R_reads' HO_5.out).2.2 (ji35) p581 q581
              cases e581
              replace p581 := eq_true p581
              replace q581 := eq_true q581
              have p582 : 0 ≤ (x6_1 : Int) := dt
              have q582 : x6_1 < (t574.length : Int) := dt
              obtain ⟨ad582, e582, hx582_0⟩ := Kd.at_string (Kd.R_reads' HO_5.out).2.2 x6_1 p582 q582
              obtain rfl : ad581 = ad582 := (by injection e582)
              replace p582 := eq_true p582
              replace q582 := eq_true q582
              refine start_ (n := 18) (S := fun w' => w'.cell? (ad581.add ((ji35)).toNat) = some (.string (rdOf ByteArray.empty t574 (ji35))) ∧ w'.cell? (ad581.add (x6_1).toNat) = some (.string (rdOf ByteArray.empty t574 x6_1))) (ds := []) (bm 18 0) (by kernel_rfl) rfl rfl ⟨hx581_0, hx582_0⟩ (fun hHeld => ?_); refine with_tabW tmesislaw10_SplitNames.tab12 tmesislaw10_SplitNames.bits12 (fun HT_ HW_ => ?_)
              generalize wr.drew = w40 at HO_5 HO_574003 BK565 BK573 HB hx581_0 hx582_0 hHeld ⊢
              refine pv_ 0 (some 52) (bm 18 1) HT_.out ?_
              refine pv_ 1 (some 53) (bm 18 3) HT_.out ?_
              refine pv_ 2 (some 54) (bm 18 7) HT_.out ?_
              refine pv_ 3 (some 55) (bm 18 15) HT_.out ?_
              refine pv_ 4 (some 56) (bm 18 31) HT_.out ?_
              refine pv_ 5 (some 57) (bm 18 63) HT_.out ?_
              refine pv_ 6 (some 58) (bm 18 127) HT_.out ?_
              refine pv_ 7 (some 59) (bm 18 255) HT_.out ?_
              refine pv_ 8 (some 60) (bm 18 511) HT_.out ?_
              refine pv_ 9 (some 61) (bm 18 1023) HT_.out ?_
              refine pv_ 11 (some 63) (bm 18 3071) HT_.out ?_
              refine pv_ 12 (some 64) (bm 18 7167) HT_.out ?_
              refine pv_ 13 (some 65) (bm 18 15359) HT_.out ?_
              refine tk_ 10 (some 62) (bm 18 16383) HT_.out HW_.out hHeld ?_
              refine tk_ 14 (some 66) (bm 18 32767) HT_.out HW_.out hHeld ?_
              refine pv_ 15 (some 67) (bm 18 65535) HT_.out ?_
              refine pv_ 16 (some 68) (bm 18 131071) HT_.out ?_
              refine pv_ 17 (some 69) (bm 18 262143) HT_.out ?_
              refine done_ (done_of HT_.out (by kernel_rfl)) ?_
              try go_wp2
              go_meet
              case rel => exact ⟨_, (!(Op.bytesLess ((rdOf ByteArray.empty t574 (ji35)).toList) ((rdOf ByteArray.empty t574 x6_1).toList))), (by first | rfl | (simp; done) | (simp only [← hji35] <;> (first | rfl | simp)) | (simp [*]; done)), H', ⟨by have := HK1.out; have := HK2.out; first | omega | exact Nat.le_refl _⟩, ⟨RAt HO_5.out⟩, ⟨VAt HO_574003.out⟩, ⟨kAt BK565.out⟩, ⟨kAt BK573.out⟩, ⟨bAt HB.out⟩⟩
             ·rw [if_neg c39] at H
              exact absurd H (by simp)
            ·rw [if_neg c38] at H
             exact absurd H (by simp)
           ·rw [if_neg c37] at H
            exact absurd H (by simp)
          ·rw [if_neg c36] at H
           exact absurd H (by simp)
         ·rw [if_neg c34] at H
          have c34b0 : decide (0 < x6_1) = false := decide_eq_false c34
          clear c34
          (first | rw [c34b0] | (simp only [i64_w, i32_w]; rw [c34b0]) | skip)
          have H' := Aside0.mk H
          clear H
          try go_wp2
          have n0_ := Aside0.mk (Kd.R_drew HO_5.out)
          have n1_ := Aside0.mk (Kd.V_drew HO_574003.out)
          have n2_ := Aside0.mk (blk_drew BK565.out)
          have n3_ := Aside0.mk (blk_drew BK573.out)
          have n4_ := Aside0.mk (below_drew1 HB.out)
          clear HO_5
          clear HO_574003
          clear BK565
          clear BK573
          clear HB
          have HO_5 := n0_
          have HO_574003 := n1_
          have BK565 := n2_
          have BK573 := n3_
          have HB := n4_
          clear n0_ n1_ n2_ n3_ n4_
          refine start_ (n := 18) (S := fun w' => True) (ds := []) (bm 18 0) (by kernel_rfl) rfl rfl trivial (fun hHeld => ?_); refine with_tabW tmesislaw10_SplitNames.tab12 tmesislaw10_SplitNames.bits12 (fun HT_ HW_ => ?_)
          generalize wr.drew = w41 at HO_5 HO_574003 BK565 BK573 HB hHeld ⊢
          refine pv_ 0 (some 52) (bm 18 1) HT_.out ?_
          refine pv_ 1 (some 53) (bm 18 3) HT_.out ?_
          refine pv_ 2 (some 54) (bm 18 7) HT_.out ?_
          refine pv_ 3 (some 55) (bm 18 15) HT_.out ?_
          refine pv_ 4 (some 56) (bm 18 31) HT_.out ?_
          refine pv_ 5 (some 57) (bm 18 63) HT_.out ?_
          refine pu_ 6 (some 58) (bm 18 127) HT_.out ?_
          refine pu_ 7 (some 59) (bm 18 255) HT_.out ?_
          refine pu_ 8 (some 60) (bm 18 511) HT_.out ?_
          refine pu_ 9 (some 61) (bm 18 1023) HT_.out ?_
          refine pu_ 10 (some 62) (bm 18 2047) HT_.out ?_
          refine pu_ 11 (some 63) (bm 18 4095) HT_.out ?_
          refine pu_ 12 (some 64) (bm 18 8191) HT_.out ?_
          refine pu_ 13 (some 65) (bm 18 16383) HT_.out ?_
          refine pu_ 14 (some 66) (bm 18 32767) HT_.out ?_
          refine pu_ 15 (some 67) (bm 18 65535) HT_.out ?_
          refine pv_ 16 (some 68) (bm 18 131071) HT_.out ?_
          refine pv_ 17 (some 69) (bm 18 262143) HT_.out ?_
          refine done_ (done_of HT_.out (by kernel_rfl)) ?_
          try go_wp2
          go_meet
          case rel => exact ⟨_, (false), sR, H', ⟨by have := HK1.out; have := HK2.out; first | omega | exact Nat.le_refl _⟩, ⟨RAt HO_5.out⟩, ⟨VAt HO_574003.out⟩, ⟨kAt BK565.out⟩, ⟨kAt BK573.out⟩, ⟨bAt HB.out⟩⟩
        ·replace c33 := Bool.eq_false_iff.mpr c33
         subst c33
         have H1 : (tmesislaw10_SplitNames.j3 k2 t566 t574 x6_1 true t567 t568 t569 t570) = some r := by rw [if_neg (show ¬ (false = true) by decide)] at H; exact H
         clear H
         have H := H1
         clear H1
         have H' := Aside0.mk H
         clear H
         try go_wp2
         have n0_ := Aside0.mk (Kd.R_drew HO_5.out)
         have n1_ := Aside0.mk (Kd.V_drew HO_574003.out)
         have n2_ := Aside0.mk (blk_drew BK565.out)
         have n3_ := Aside0.mk (blk_drew BK573.out)
         have n4_ := Aside0.mk (below_drew1 HB.out)
         clear HO_5
         clear HO_574003
         clear BK565
         clear BK573
         clear HB
         have HO_5 := n0_
         have HO_574003 := n1_
         have BK565 := n2_
         have BK573 := n3_
         have HB := n4_
         clear n0_ n1_ n2_ n3_ n4_
         refine start_ (n := 18) (S := fun w' => True) (ds := []) (bm 18 0) (by kernel_rfl) rfl rfl trivial (fun hHeld => ?_); refine with_tabW tmesislaw10_SplitNames.tab12 tmesislaw10_SplitNames.bits12 (fun HT_ HW_ => ?_)
         generalize wr.drew = w42 at HO_5 HO_574003 BK565 BK573 HB hHeld ⊢
         refine pv_ 0 (some 52) (bm 18 1) HT_.out ?_
         refine pv_ 1 (some 53) (bm 18 3) HT_.out ?_
         refine pv_ 2 (some 54) (bm 18 7) HT_.out ?_
         refine pu_ 3 (some 55) (bm 18 15) HT_.out ?_
         refine pu_ 4 (some 56) (bm 18 31) HT_.out ?_
         refine pu_ 5 (some 57) (bm 18 63) HT_.out ?_
         refine pu_ 6 (some 58) (bm 18 127) HT_.out ?_
         refine pu_ 7 (some 59) (bm 18 255) HT_.out ?_
         refine pu_ 8 (some 60) (bm 18 511) HT_.out ?_
         refine pu_ 9 (some 61) (bm 18 1023) HT_.out ?_
         refine pu_ 10 (some 62) (bm 18 2047) HT_.out ?_
         refine pu_ 11 (some 63) (bm 18 4095) HT_.out ?_
         refine pu_ 12 (some 64) (bm 18 8191) HT_.out ?_
         refine pu_ 13 (some 65) (bm 18 16383) HT_.out ?_
         refine pu_ 14 (some 66) (bm 18 32767) HT_.out ?_
         refine pu_ 15 (some 67) (bm 18 65535) HT_.out ?_
         refine pu_ 16 (some 68) (bm 18 131071) HT_.out ?_
         refine pv_ 17 (some 69) (bm 18 262143) HT_.out ?_
         refine done_ (done_of HT_.out (by kernel_rfl)) ?_
         try go_wp2
         go_meet
         case rel => exact ⟨_, (true), sR, H', ⟨by have := HK1.out; have := HK2.out; first | omega | exact Nat.le_refl _⟩, ⟨RAt HO_5.out⟩, ⟨VAt HO_574003.out⟩, ⟨kAt BK565.out⟩, ⟨kAt BK573.out⟩, ⟨bAt HB.out⟩⟩
       case rest =>
        clear HC30
        try clear c1
        try clear c2
        try clear p2
        try clear c3
        try clear p5
        try clear q5
        try clear hx5
        try clear p6
        try clear c16
        try clear c16b0
        try clear c20
        try clear c22
        try clear c22b0
        try clear c23
        try clear c23b0
        try clear c24
        try clear c24b0
        try clear c25
        try clear c25b0
        try clear c25b1
        try clear c31
        try clear c33
        try clear c34
        try clear c34b0
        try clear c36
        try clear c36b0
        try clear c37
        try clear c37b0
        try clear c38
        try clear c38b0
        try clear c39
        try clear c39b0
        try clear hcz32_0
        try clear hcz32_1
        try clear hcz32_2
        try clear hcz32_3
        try clear hfz32_0
        try clear hfz32_1
        try clear hfz32_2
        try clear hfz32_3
        try clear hx577_0
        try clear hx577_1
        try clear hx577_2
        try clear hx577_3
        try clear hx577_4
        try clear hx578_0
        try clear hx579_0
        try clear hx579_1
        try clear hx579_2
        try clear hx579_3
        try clear hx579_4
        try clear hx581_0
        try clear hx582_0
        try clear p2
        try clear p5
        try clear p577
        try clear p578
        try clear p579
        try clear p581
        try clear p582
        try clear q5
        try clear q577
        try clear q578
        try clear q579
        try clear q581
        try clear q582
        obtain ⟨kq, x69_29, rfl, HA, HJ29, HO_5, HO_574003, BK565, BK573, HB⟩ := hcut
        cases kq with
        | zero => exact absurd HA.out (by simp [tmesislaw10_SplitNames.j3])
        | succ kj29 =>
         have H := HA.out
         clear HA
         simp only [tmesislaw10_SplitNames.j3] at H
         by_cases c43 : x69_29 = true
         ·subst c43
          have H1 : (some false) = some r := by rw [if_pos rfl] at H; exact H
          clear H
          have H := H1
          clear H1
          obtain rfl := Option.some.inj H
          go_wp2
          go_ret
          exact ⟨eR, bAt HB.out⟩
         ·replace c43 := Bool.eq_false_iff.mpr c43
          subst c43
          have H1 : (tmesislaw10_SplitNames.l0 kj29 t566 t574 (wrap64 (x6_1 + 1)) t567 t568 t569 t570) = some r := by rw [if_neg (show ¬ (false = true) by decide)] at H; exact H
          clear H
          have H := H1
          clear H1
          have H' := Aside0.mk H
          clear H
          go_wp2
          go_roundg kj29
          case measure => have := HK1.out; have := HK2.out; have := HJ29.out; omega
          case rel => exact ⟨(wrap64 (x6_1 + 1)), sR, H', ⟨by have := HK1.out; have := HK2.out; have := HJ29.out; omega⟩, ⟨RAt HO_5.out⟩, ⟨VAt HO_574003.out⟩, ⟨kAt BK565.out⟩, ⟨kAt BK573.out⟩, ⟨bAt HB.out⟩⟩
   ·rw [if_neg c14] at H
    have c14b0 : decide (x6_1 < (t574.length : Int)) = false := decide_eq_false c14
    clear c14
    have H' := Aside0.mk H
    clear H
    obtain ⟨Ao44, co44, eo44⟩ := Kd.R_slice HO_5.out
    subst eo44
    go_wp2
    go_loopg [9] k1 (fun kq v9 w' => ∃ (x9_2 : Int), v9 = .int .i64 x9_2 ∧ Aside0 (tmesislaw10_SplitNames.l2 kq t566 t574 x9_2 t567 t568 t569 t570 = some r) ∧ Aside0 (kq ≤ k1) ∧ Aside0 (Kd.R Kd.string 9 w' w.heap.size (fun _ => True) (.slice Ao44 t574.length co44) t574) ∧ Aside0 (Kd.V k38 38 w' w.heap.size (fun k_ => some k_ ≠ ((.slice Ao44 t574.length co44) : Value).ownBlock ∧ k_ ≠ gb565 ∧ k_ ≠ gb573) (.slice Ao12 t570.length co12) t570) ∧ Aside0 (w'.heap[gb565]? = some (.cells #[.int .i64 a0_0, .int .i64 a0_1, .int .i64 a0_2, (.slice A0_3 l0_3.length c0_3)] 25 (0, 0))) ∧ Aside0 (w'.heap[gb573]? = some (.cells #[.int .i64 t567, .int .i64 t568, .int .i64 t569, (.slice Ao12 t570.length co12)] 25 (0, 0))) ∧ Aside0 (Below w.heap.size w w'))
    case atStart => exact ⟨(0), sR, H', ⟨Nat.le_refl _⟩, ⟨RAt HO_5.out⟩, ⟨VAt HO_574003.out⟩, ⟨kAt BK565.out⟩, ⟨kAt BK573.out⟩, ⟨bAt HB.out⟩⟩
    case round =>
     clear H'
     try clear c1
     try clear c2
     try clear p2
     try clear c3
     try clear c4
     try clear p5
     try clear q5
     try clear hx5
     try clear p6
     try clear c14
     try clear c14b0
     try clear c16
     try clear c16b0
     try clear c20
     try clear c22
     try clear c22b0
     try clear c23
     try clear c23b0
     try clear c24
     try clear c24b0
     try clear c25
     try clear c25b0
     try clear c25b1
     try clear c31
     try clear c33
     try clear c34
     try clear c34b0
     try clear c36
     try clear c36b0
     try clear c37
     try clear c37b0
     try clear c38
     try clear c38b0
     try clear c39
     try clear c39b0
     try clear c43
     try clear hcz32_0
     try clear hcz32_1
     try clear hcz32_2
     try clear hcz32_3
     try clear hfz32_0
     try clear hfz32_1
     try clear hfz32_2
     try clear hfz32_3
     try clear hx577_0
     try clear hx577_1
     try clear hx577_2
     try clear hx577_3
     try clear hx577_4
     try clear hx578_0
     try clear hx579_0
     try clear hx579_1
     try clear hx579_2
     try clear hx579_3
     try clear hx579_4
     try clear hx581_0
     try clear hx582_0
     try clear p2
     try clear p5
     try clear p577
     try clear p578
     try clear p579
     try clear p581
     try clear p582
     try clear p6
     try clear q5
     try clear q577
     try clear q578
     try clear q579
     try clear q581
     try clear q582
     obtain ⟨x9_2, rfl, HA, HK2, HO_5, HO_574003, BK565, BK573, HB⟩ := hrel
     cases gk with
     | zero => exact absurd HA.out (by simp [tmesislaw10_SplitNames.l2])
     | succ k2 =>
      have H := HA.out
      clear HA
      simp only [tmesislaw10_SplitNames.l2] at H
      by_cases c45 : x9_2 < (t570.length : Int)
      ·rw [if_pos c45] at H
       have c45b0 : decide (x9_2 < (t570.length : Int)) = true := decide_eq_true c45
       clear c45
       have H' := Aside0.mk H
       clear H
       have hnb46 := NB573_565.out
       have hnc46 := NB565_573.out
       have hcz47_0 : wr.cell? ⟨gb573, 0, none⟩ = some (.int .i64 t567) := (blk_cell BK573.out 0).trans rfl
       have hcz47_1 : wr.cell? ⟨gb573, 1, none⟩ = some (.int .i64 t568) := (blk_cell BK573.out 1).trans rfl
       have hcz47_2 : wr.cell? ⟨gb573, 2, none⟩ = some (.int .i64 t569) := (blk_cell BK573.out 2).trans rfl
       have hcz47_3 : wr.cell? ⟨gb573, 3, none⟩ = some (.slice Ao12 t570.length co12) := (blk_cell BK573.out 3).trans rfl
       have hfz47_0 := blk_frozen BK573.out 0
       have hfz47_1 := blk_frozen BK573.out 1
       have hfz47_2 := blk_frozen BK573.out 2
       have hfz47_3 := blk_frozen BK573.out 3
       go_wp2
       go_loopg [10, 11] k2 (fun kq v10 v11 w' => ∃ (x10_3 : Bool) (x11_3 : Int), v10 = .bool x10_3 ∧ v11 = .int .i64 x11_3 ∧ Aside0 (tmesislaw10_SplitNames.l3 kq t566 t574 x9_2 x10_3 x11_3 t567 t568 t569 t570 = some r) ∧ Aside0 (kq ≤ k2) ∧ Aside0 (Kd.R Kd.string 9 w' w.heap.size (fun _ => True) (.slice Ao44 t574.length co44) t574) ∧ Aside0 (Kd.V k38 38 w' w.heap.size (fun k_ => some k_ ≠ ((.slice Ao44 t574.length co44) : Value).ownBlock ∧ k_ ≠ gb565 ∧ k_ ≠ gb573) (.slice Ao12 t570.length co12) t570) ∧ Aside0 (w'.heap[gb565]? = some (.cells #[.int .i64 a0_0, .int .i64 a0_1, .int .i64 a0_2, (.slice A0_3 l0_3.length c0_3)] 25 (0, 0))) ∧ Aside0 (w'.heap[gb573]? = some (.cells #[.int .i64 t567, .int .i64 t568, .int .i64 t569, (.slice Ao12 t570.length co12)] 25 (0, 0))) ∧ Aside0 (Below w.heap.size w w'))
       case atStart => exact ⟨(false), (0), sR, sR, H', ⟨Nat.le_refl _⟩, ⟨RAt HO_5.out⟩, ⟨VAt HO_574003.out⟩, ⟨kAt BK565.out⟩, ⟨kAt BK573.out⟩, ⟨bAt HB.out⟩⟩
       case round =>
        clear H'
        try clear c1
        try clear c2
        try clear p2
        try clear c3
        try clear c4
        try clear p5
        try clear q5
        try clear hx5
        try clear p6
        try clear c14
        try clear c14b0
        try clear c16
        try clear c16b0
        try clear c20
        try clear c22
        try clear c22b0
        try clear c23
        try clear c23b0
        try clear c24
        try clear c24b0
        try clear c25
        try clear c25b0
        try clear c25b1
        try clear c31
        try clear c33
        try clear c34
        try clear c34b0
        try clear c36
        try clear c36b0
        try clear c37
        try clear c37b0
        try clear c38
        try clear c38b0
        try clear c39
        try clear c39b0
        try clear c43
        try clear c45
        try clear c45b0
        try clear c46
        try clear hcz32_0
        try clear hcz32_1
        try clear hcz32_2
        try clear hcz32_3
        try clear hcz47_0
        try clear hcz47_1
        try clear hcz47_2
        try clear hcz47_3
        try clear hfz32_0
        try clear hfz32_1
        try clear hfz32_2
        try clear hfz32_3
        try clear hfz47_0
        try clear hfz47_1
        try clear hfz47_2
        try clear hfz47_3
        try clear hx577_0
        try clear hx577_1
        try clear hx577_2
        try clear hx577_3
        try clear hx577_4
        try clear hx578_0
        try clear hx579_0
        try clear hx579_1
        try clear hx579_2
        try clear hx579_3
        try clear hx579_4
        try clear hx581_0
        try clear hx582_0
        try clear p2
        try clear p5
        try clear p577
        try clear p578
        try clear p579
        try clear p581
        try clear p582
        try clear p6
        try clear q5
        try clear q577
        try clear q578
        try clear q579
        try clear q581
        try clear q582
        obtain ⟨x10_3, x11_3, rfl, rfl, HA, HK3, HO_5, HO_574003, BK565, BK573, HB⟩ := hrel
        cases gk with
        | zero => exact absurd HA.out (by simp [tmesislaw10_SplitNames.l3])
        | succ k3 =>
         have H := HA.out
         clear HA
         simp only [tmesislaw10_SplitNames.l3] at H
         by_cases c48 : x11_3 < (t574.length : Int)
         ·rw [if_pos c48] at H
          have c48b0 : decide (x11_3 < (t574.length : Int)) = true := decide_eq_true c48
          clear c48
          have HC49 := Aside0.mk H
          clear H
          go_upto_block 7 with (fail)
          go_cut [10] (fun v10 wc => ∃ (kq : Nat) (x10_48 : Bool), v10 = .bool x10_48 ∧ Aside0 (tmesislaw10_SplitNames.j6 kq t566 t574 x9_2 x10_48 x11_3 t567 t568 t569 t570 = some r) ∧ Aside0 (kq ≤ k3) ∧ Aside0 (Kd.R Kd.string 9 wc w.heap.size (fun _ => True) (.slice Ao44 t574.length co44) t574) ∧ Aside0 (Kd.V k38 38 wc w.heap.size (fun k_ => some k_ ≠ ((.slice Ao44 t574.length co44) : Value).ownBlock ∧ k_ ≠ gb565 ∧ k_ ≠ gb573) (.slice Ao12 t570.length co12) t570) ∧ Aside0 (wc.heap[gb565]? = some (.cells #[.int .i64 a0_0, .int .i64 a0_1, .int .i64 a0_2, (.slice A0_3 l0_3.length c0_3)] 25 (0, 0))) ∧ Aside0 (wc.heap[gb573]? = some (.cells #[.int .i64 t567, .int .i64 t568, .int .i64 t569, (.slice Ao12 t570.length co12)] 25 (0, 0))) ∧ Aside0 (Below w.heap.size w wc))
          case first =>
           have H := HC49.out
           clear HC49
           by_cases c50 : x10_3 = true
           ·subst c50
            have H1 : (tmesislaw10_SplitNames.j6 k3 t566 t574 x9_2 true x11_3 t567 t568 t569 t570) = some r := by rw [if_pos rfl] at H; exact H
            clear H
            have H := H1
            clear H1
            have H' := Aside0.mk H
            clear H
            try go_wp2
            have n0_ := Aside0.mk (Kd.R_drew HO_5.out)
            have n1_ := Aside0.mk (Kd.V_drew HO_574003.out)
            have n2_ := Aside0.mk (blk_drew BK565.out)
            have n3_ := Aside0.mk (blk_drew BK573.out)
            have n4_ := Aside0.mk (below_drew1 HB.out)
            clear HO_5
            clear HO_574003
            clear BK565
            clear BK573
            clear HB
            have HO_5 := n0_
            have HO_574003 := n1_
            have BK565 := n2_
            have BK573 := n3_
            have HB := n4_
            clear n0_ n1_ n2_ n3_ n4_
            refine start_ (n := 15) (S := fun w' => True) (ds := []) (bm 15 0) (by kernel_rfl) rfl rfl trivial (fun hHeld => ?_); refine with_tabW tmesislaw10_SplitNames.tab21 tmesislaw10_SplitNames.bits21 (fun HT_ HW_ => ?_)
            generalize wr.drew = w51 at HO_5 HO_574003 BK565 BK573 HB hHeld ⊢
            refine pv_ 0 (some 83) (bm 15 1) HT_.out ?_
            refine pv_ 1 (some 84) (bm 15 3) HT_.out ?_
            refine pu_ 2 (some 85) (bm 15 7) HT_.out ?_
            refine pu_ 3 (some 86) (bm 15 15) HT_.out ?_
            refine pu_ 4 (some 87) (bm 15 31) HT_.out ?_
            refine pu_ 5 (some 88) (bm 15 63) HT_.out ?_
            refine pu_ 6 (some 89) (bm 15 127) HT_.out ?_
            refine pu_ 7 (some 90) (bm 15 255) HT_.out ?_
            refine pu_ 8 (some 91) (bm 15 511) HT_.out ?_
            refine pu_ 9 (some 92) (bm 15 1023) HT_.out ?_
            refine pu_ 10 (some 93) (bm 15 2047) HT_.out ?_
            refine pu_ 11 (some 94) (bm 15 4095) HT_.out ?_
            refine pu_ 12 (some 95) (bm 15 8191) HT_.out ?_
            refine pv_ 13 (some 96) (bm 15 16383) HT_.out ?_
            refine pv_ 14 (some 10) (bm 15 32767) HT_.out ?_
            refine done_ (done_of HT_.out (by kernel_rfl)) ?_
            try go_wp2
            go_meet
            case rel => exact ⟨_, (true), sR, H', ⟨by have := HK1.out; have := HK2.out; have := HK3.out; first | omega | exact Nat.le_refl _⟩, ⟨RAt HO_5.out⟩, ⟨VAt HO_574003.out⟩, ⟨kAt BK565.out⟩, ⟨kAt BK573.out⟩, ⟨bAt HB.out⟩⟩
           ·replace c50 := Bool.eq_false_iff.mpr c50
            subst c50
            have H1 : (if 0 ≤ x9_2 then (if x9_2 < (t570.length : Int) then (if 0 ≤ x11_3 then (tmesislaw10_SplitNames.j6 k3 t566 t574 x9_2 (((rd_T38 t570 x9_2).f3).toList == (rdOf ByteArray.empty t574 x11_3).toList) x11_3 t567 t568 t569 t570) else (none)) else (none)) else (none)) = some r := by rw [if_neg (show ¬ (false = true) by decide)] at H; exact H
            clear H
            have H := H1
            clear H1
            by_cases c52 : 0 ≤ x9_2
            ·rw [if_pos c52] at H
             have c52b0 : decide (0 ≤ x9_2) = true := decide_eq_true c52
             clear c52
             (first | rw [c52b0] | (simp only [i64_w, i32_w]; rw [c52b0]) | skip)
             by_cases c53 : x9_2 < (t570.length : Int)
             ·rw [if_pos c53] at H
              have c53b0 : decide (x9_2 < (t570.length : Int)) = true := decide_eq_true c53
              clear c53
              by_cases c54 : 0 ≤ x11_3
              ·rw [if_pos c54] at H
               have c54b0 : decide (0 ≤ x11_3) = true := decide_eq_true c54
               clear c54
               have H' := Aside0.mk H
               clear H
               try go_wp2
               have n0_ := Aside0.mk (Kd.R_drew HO_5.out)
               have n1_ := Aside0.mk (Kd.V_drew HO_574003.out)
               have n2_ := Aside0.mk (blk_drew BK565.out)
               have n3_ := Aside0.mk (blk_drew BK573.out)
               have n4_ := Aside0.mk (below_drew1 HB.out)
               clear HO_5
               clear HO_574003
               clear BK565
               clear BK573
               clear HB
               have HO_5 := n0_
               have HO_574003 := n1_
               have BK565 := n2_
               have BK573 := n3_
               have HB := n4_
               clear n0_ n1_ n2_ n3_ n4_
               have p583 : 0 ≤ (x9_2 : Int) := dt
               have q583 : x9_2 < (t570.length : Int) := dt
               obtain ⟨ad583, e583, hx583_0, hx583_1, hx583_2, hx583_3, hx583_4⟩ := at_T38 (Kd.V_reads' HO_574003.out).2.2 x9_2 p583 q583
               cases e583
               replace p583 := eq_true p583
               replace q583 := eq_true q583
               have p584 : 0 ≤ (x11_3 : Int) := dt
               have q584 : x11_3 < (t574.length : Int) := dt
               obtain ⟨ad584, e584, hx584_0⟩ := Kd.at_string (Kd.R_reads' HO_5.out).2.2 x11_3 p584 q584
               cases e584
               replace p584 := eq_true p584
               replace q584 := eq_true q584
               refine start_ (n := 15) (S := fun w' => w'.cell? ⟨gb573, 0, none⟩ = some (.int .i64 t567) ∧ w'.cell? ⟨gb573, 1, none⟩ = some (.int .i64 t568) ∧ w'.cell? ⟨gb573, 2, none⟩ = some (.int .i64 t569) ∧ w'.cell? ⟨gb573, 3, none⟩ = some (.slice (some ad583) t570.length co12) ∧ w'.cell? (ad583.add ((x9_2).toNat * 5)) = some (.int .i64 ((rd_T38 t570 x9_2).f0)) ∧ w'.cell? ⟨(ad583.add ((x9_2).toNat * 5)).block, (ad583.add ((x9_2).toNat * 5)).off + 1, none⟩ = some (.int .i64 ((rd_T38 t570 x9_2).f1)) ∧ w'.cell? ⟨(ad583.add ((x9_2).toNat * 5)).block, (ad583.add ((x9_2).toNat * 5)).off + 2, none⟩ = some (.int .i64 ((rd_T38 t570 x9_2).f2)) ∧ w'.cell? ⟨(ad583.add ((x9_2).toNat * 5)).block, (ad583.add ((x9_2).toNat * 5)).off + 3, none⟩ = some (.string ((rd_T38 t570 x9_2).f3)) ∧ w'.cell? ⟨(ad583.add ((x9_2).toNat * 5)).block, (ad583.add ((x9_2).toNat * 5)).off + 4, none⟩ = some (.int .i64 ((rd_T38 t570 x9_2).f4)) ∧ w'.cell? (ad584.add (x11_3).toNat) = some (.string (rdOf ByteArray.empty t574 x11_3))) (ds := []) (bm 15 0) (by kernel_rfl) rfl rfl ⟨(blk_cell BK573.out 0).trans rfl, (blk_cell BK573.out 1).trans rfl, (blk_cell BK573.out 2).trans rfl, (blk_cell BK573.out 3).trans rfl, hx583_0, hx583_1, hx583_2, hx583_3, hx583_4, hx584_0⟩ (fun hHeld => ?_); refine with_tabW tmesislaw10_SplitNames.tab21 tmesislaw10_SplitNames.bits21 (fun HT_ HW_ => ?_)
               generalize wr.drew = w55 at HO_5 HO_574003 BK565 BK573 HB hx583_0 hx583_1 hx583_2 hx583_3 hx583_4 hx584_0 hHeld ⊢
               refine pv_ 0 (some 83) (bm 15 1) HT_.out ?_
               refine pv_ 1 (some 84) (bm 15 3) HT_.out ?_
               refine pv_ 2 (some 85) (bm 15 7) HT_.out ?_
               refine pv_ 4 (some 87) (bm 15 23) HT_.out ?_
               refine pv_ 8 (some 91) (bm 15 279) HT_.out ?_
               refine pv_ 9 (some 92) (bm 15 791) HT_.out ?_
               refine pv_ 10 (some 93) (bm 15 1815) HT_.out ?_
               refine tk_ 3 (some 86) (bm 15 1823) HT_.out HW_.out hHeld ?_
               refine pv_ 5 (some 88) (bm 15 1855) HT_.out ?_
               refine pv_ 6 (some 89) (bm 15 1919) HT_.out ?_
               refine tk_ 7 (some 90) (bm 15 2047) HT_.out HW_.out hHeld ?_
               refine tk_ 11 (some 94) (bm 15 4095) HT_.out HW_.out hHeld ?_
               refine pv_ 12 (some 95) (bm 15 8191) HT_.out ?_
               refine pv_ 13 (some 96) (bm 15 16383) HT_.out ?_
               refine pv_ 14 (some 10) (bm 15 32767) HT_.out ?_
               refine done_ (done_of HT_.out (by kernel_rfl)) ?_
               try go_wp2
               go_meet
               case rel => exact ⟨_, ((((rd_T38 t570 x9_2).f3).toList == (rdOf ByteArray.empty t574 x11_3).toList)), sR, H', ⟨by have := HK1.out; have := HK2.out; have := HK3.out; first | omega | exact Nat.le_refl _⟩, ⟨RAt HO_5.out⟩, ⟨VAt HO_574003.out⟩, ⟨kAt BK565.out⟩, ⟨kAt BK573.out⟩, ⟨bAt HB.out⟩⟩
              ·rw [if_neg c54] at H
               exact absurd H (by simp)
             ·rw [if_neg c53] at H
              exact absurd H (by simp)
            ·rw [if_neg c52] at H
             exact absurd H (by simp)
          case rest =>
           clear HC49
           try clear c1
           try clear c2
           try clear p2
           try clear c3
           try clear c4
           try clear c5
           try clear p5
           try clear q5
           try clear hx5
           try clear p6
           try clear c14
           try clear c14b0
           try clear c16
           try clear c16b0
           try clear c20
           try clear c22
           try clear c22b0
           try clear c23
           try clear c23b0
           try clear c24
           try clear c24b0
           try clear c25
           try clear c25b0
           try clear c25b1
           try clear c31
           try clear c33
           try clear c34
           try clear c34b0
           try clear c36
           try clear c36b0
           try clear c37
           try clear c37b0
           try clear c38
           try clear c38b0
           try clear c39
           try clear c39b0
           try clear c43
           try clear c45
           try clear c45b0
           try clear c46
           try clear c48
           try clear c48b0
           try clear c50
           try clear c52
           try clear c52b0
           try clear c53
           try clear c53b0
           try clear c54
           try clear c54b0
           try clear hcz32_0
           try clear hcz32_1
           try clear hcz32_2
           try clear hcz32_3
           try clear hcz47_0
           try clear hcz47_1
           try clear hcz47_2
           try clear hcz47_3
           try clear hfz32_0
           try clear hfz32_1
           try clear hfz32_2
           try clear hfz32_3
           try clear hfz47_0
           try clear hfz47_1
           try clear hfz47_2
           try clear hfz47_3
           try clear hx577_0
           try clear hx577_1
           try clear hx577_2
           try clear hx577_3
           try clear hx577_4
           try clear hx578_0
           try clear hx579_0
           try clear hx579_1
           try clear hx579_2
           try clear hx579_3
           try clear hx579_4
           try clear hx581_0
           try clear hx582_0
           try clear hx583_0
           try clear hx583_1
           try clear hx583_2
           try clear hx583_3
           try clear hx583_4
           try clear hx584_0
           try clear p2
           try clear p5
           try clear p577
           try clear p578
           try clear p579
           try clear p581
           try clear p582
           try clear p583
           try clear p584
           try clear p6
           try clear q5
           try clear q577
           try clear q578
           try clear q579
           try clear q581
           try clear q582
           try clear q583
           try clear q584
           obtain ⟨kq, x10_48, rfl, HA, HJ48, HO_5, HO_574003, BK565, BK573, HB⟩ := hcut
           cases kq with
           | zero => exact absurd HA.out (by simp [tmesislaw10_SplitNames.j6])
           | succ kj48 =>
            have H := HA.out
            clear HA
            simp only [tmesislaw10_SplitNames.j6] at H
            have H' := Aside0.mk H
            clear H
            go_wp2
            go_roundg kj48
            case measure => have := HK1.out; have := HK2.out; have := HK3.out; have := HJ48.out; omega
            case rel => exact ⟨(x10_48), (wrap64 (x11_3 + 1)), sR, sR, H', ⟨by have := HK1.out; have := HK2.out; have := HK3.out; have := HJ48.out; omega⟩, ⟨RAt HO_5.out⟩, ⟨VAt HO_574003.out⟩, ⟨kAt BK565.out⟩, ⟨kAt BK573.out⟩, ⟨bAt HB.out⟩⟩
         ·rw [if_neg c48] at H
          have c48b0 : decide (x11_3 < (t574.length : Int)) = false := decide_eq_false c48
          clear c48
          have HC56 := Aside0.mk H
          clear H
          go_upto_region 22 with (fail)
          go_cut [106] (fun v106 wc => ∃ (kq : Nat) (x106_55 : Bool), v106 = .bool x106_55 ∧ Aside0 (tmesislaw10_SplitNames.j7 kq t566 t574 x9_2 x106_55 t567 t568 t569 t570 = some r) ∧ Aside0 (kq ≤ k3) ∧ Aside0 (Kd.R Kd.string 9 wc w.heap.size (fun _ => True) (.slice Ao44 t574.length co44) t574) ∧ Aside0 (Kd.V k38 38 wc w.heap.size (fun k_ => some k_ ≠ ((.slice Ao44 t574.length co44) : Value).ownBlock ∧ k_ ≠ gb565 ∧ k_ ≠ gb573) (.slice Ao12 t570.length co12) t570) ∧ Aside0 (wc.heap[gb565]? = some (.cells #[.int .i64 a0_0, .int .i64 a0_1, .int .i64 a0_2, (.slice A0_3 l0_3.length c0_3)] 25 (0, 0))) ∧ Aside0 (wc.heap[gb573]? = some (.cells #[.int .i64 t567, .int .i64 t568, .int .i64 t569, (.slice Ao12 t570.length co12)] 25 (0, 0))) ∧ Aside0 (Below w.heap.size w wc))
          case first =>
           have H := HC56.out
           clear HC56
           by_cases c57 : 0 ≤ x9_2
           ·rw [if_pos c57] at H
            have c57b0 : decide (0 ≤ x9_2) = true := decide_eq_true c57
            clear c57
            (first | rw [c57b0] | (simp only [i64_w, i32_w]; rw [c57b0]) | skip)
            by_cases c58 : x9_2 < (t570.length : Int)
            ·rw [if_pos c58] at H
             have c58b0 : decide (x9_2 < (t570.length : Int)) = true := decide_eq_true c58
             clear c58
             replace H := Option.bind_eq_some_iff.mp H
             obtain ⟨t586, A590, H⟩ := H
             replace H : (if t586 = true then (tmesislaw10_SplitNames.j7 k3 t566 t574 x9_2 (!x10_3) t567 t568 t569 t570) else (tmesislaw10_SplitNames.j7 k3 t566 t574 x9_2 false t567 t568 t569 t570)) = some r := H
             have A59 := Aside0.mk A590
             clear A590
             by_cases c60 : t586 = true
             ·subst c60
              have H1 : (tmesislaw10_SplitNames.j7 k3 t566 t574 x9_2 (!x10_3) t567 t568 t569 t570) = some r := by rw [if_pos rfl] at H; exact H
              clear H
              have H := H1
              clear H1
              have H' := Aside0.mk H
              clear H
              have hnb61 := NB573_565.out
              have hnc61 := NB565_573.out
              have hcz62_0 : wr.cell? ⟨gb573, 0, none⟩ = some (.int .i64 t567) := (blk_cell BK573.out 0).trans rfl
              have hcz62_1 : wr.cell? ⟨gb573, 1, none⟩ = some (.int .i64 t568) := (blk_cell BK573.out 1).trans rfl
              have hcz62_2 : wr.cell? ⟨gb573, 2, none⟩ = some (.int .i64 t569) := (blk_cell BK573.out 2).trans rfl
              have hcz62_3 : wr.cell? ⟨gb573, 3, none⟩ = some (.slice Ao12 t570.length co12) := (blk_cell BK573.out 3).trans rfl
              have hfz62_0 := blk_frozen BK573.out 0
              have hfz62_1 := blk_frozen BK573.out 1
              have hfz62_2 := blk_frozen BK573.out 2
              have hfz62_3 := blk_frozen BK573.out 3
              have p585 : 0 ≤ (x9_2 : Int) := dt
              have q585 : x9_2 < (t570.length : Int) := dt
              obtain ⟨ad585, e585, hx585_0, hx585_1, hx585_2, hx585_3, hx585_4⟩ := at_T38 (Kd.V_reads' HO_574003.out).2.2 x9_2 p585 q585
              cases e585
              replace p585 := eq_true p585
              replace q585 := eq_true q585
              go_wp2_with (first | ((with_reducible refine gate_callee (f := 20) rfl ?_); refine goesL_ (some 102) rfl rfl Tryd.func20 (by kernel_rfl) rfl #[.agg #[.int .i64 ((rd_T38 t570 x9_2).f0), .int .i64 ((rd_T38 t570 x9_2).f1), .int .i64 ((rd_T38 t570 x9_2).f2), .string ((rd_T38 t570 x9_2).f3), .int .i64 ((rd_T38 t570 x9_2).f4)]] rfl gA ?_; (with_reducible refine (tmesislaw10_name.calls ((rd_T38 t570 x9_2).f0) ((rd_T38 t570 x9_2).f1) ((rd_T38 t570 x9_2).f2) ((rd_T38 t570 x9_2).f3) ((rd_T38 t570 x9_2).f4) true _ A59.out).mono ?_); rintro e w63 ⟨rfl, hb⟩; refine ⟨_, rfl, ?_⟩; have n0_ := Aside0.mk (Kd.R_below (RAt HO_5.out) hb); have n1_ := Aside0.mk (Kd.V_below (VAt HO_574003.out) hb); have n2_ := Aside0.mk (blk_below (g := gb565) (o := .cells #[.int .i64 a0_0, .int .i64 a0_1, .int .i64 a0_2, .slice A0_3 l0_3.length c0_3] 25 (0, 0)) (kAt BK565.out) hb); have n3_ := Aside0.mk (blk_below (g := gb573) (o := .cells #[.int .i64 t567, .int .i64 t568, .int .i64 t569, .slice (some ad585) t570.length co12] 25 (0, 0)) (kAt BK573.out) hb); have n4_ := Aside0.mk (below_step (bAt HB.out) hb); clear HO_5 HO_574003 BK565 BK573 HB; have HO_5 := n0_; have HO_574003 := n1_; have BK565 := n2_; have BK573 := n3_; have HB := n4_; clear n0_ n1_ n2_ n3_ n4_; (try clear hb); (try clear hb2); (try clear hk); (try clear hi)))
              go_meet
              case rel => exact ⟨_, (!x10_3), sR, H', ⟨by have := HK1.out; have := HK2.out; have := HK3.out; first | omega | exact Nat.le_refl _⟩, ⟨RAt HO_5.out⟩, ⟨VAt HO_574003.out⟩, ⟨kAt BK565.out⟩, ⟨kAt BK573.out⟩, ⟨bAt HB.out⟩⟩
             ·replace c60 := Bool.eq_false_iff.mpr c60
              subst c60
              have H1 : (tmesislaw10_SplitNames.j7 k3 t566 t574 x9_2 false t567 t568 t569 t570) = some r := by rw [if_neg (show ¬ (false = true) by decide)] at H; exact H
              clear H
              have H := H1
              clear H1
              have H' := Aside0.mk H
              clear H
              have hnb64 := NB573_565.out
              have hnc64 := NB565_573.out
              have hcz65_0 : wr.cell? ⟨gb573, 0, none⟩ = some (.int .i64 t567) := (blk_cell BK573.out 0).trans rfl
              have hcz65_1 : wr.cell? ⟨gb573, 1, none⟩ = some (.int .i64 t568) := (blk_cell BK573.out 1).trans rfl
              have hcz65_2 : wr.cell? ⟨gb573, 2, none⟩ = some (.int .i64 t569) := (blk_cell BK573.out 2).trans rfl
              have hcz65_3 : wr.cell? ⟨gb573, 3, none⟩ = some (.slice Ao12 t570.length co12) := (blk_cell BK573.out 3).trans rfl
              have hfz65_0 := blk_frozen BK573.out 0
              have hfz65_1 := blk_frozen BK573.out 1
              have hfz65_2 := blk_frozen BK573.out 2
              have hfz65_3 := blk_frozen BK573.out 3
              have p585 : 0 ≤ (x9_2 : Int) := dt
              have q585 : x9_2 < (t570.length : Int) := dt
              obtain ⟨ad585, e585, hx585_0, hx585_1, hx585_2, hx585_3, hx585_4⟩ := at_T38 (Kd.V_reads' HO_574003.out).2.2 x9_2 p585 q585
              cases e585
              replace p585 := eq_true p585
              replace q585 := eq_true q585
              go_wp2_with (first | ((with_reducible refine gate_callee (f := 20) rfl ?_); refine goesL_ (some 102) rfl rfl Tryd.func20 (by kernel_rfl) rfl #[.agg #[.int .i64 ((rd_T38 t570 x9_2).f0), .int .i64 ((rd_T38 t570 x9_2).f1), .int .i64 ((rd_T38 t570 x9_2).f2), .string ((rd_T38 t570 x9_2).f3), .int .i64 ((rd_T38 t570 x9_2).f4)]] rfl gA ?_; (with_reducible refine (tmesislaw10_name.calls ((rd_T38 t570 x9_2).f0) ((rd_T38 t570 x9_2).f1) ((rd_T38 t570 x9_2).f2) ((rd_T38 t570 x9_2).f3) ((rd_T38 t570 x9_2).f4) false _ A59.out).mono ?_); rintro e w66 ⟨rfl, hb⟩; refine ⟨_, rfl, ?_⟩; have n0_ := Aside0.mk (Kd.R_below (RAt HO_5.out) hb); have n1_ := Aside0.mk (Kd.V_below (VAt HO_574003.out) hb); have n2_ := Aside0.mk (blk_below (g := gb565) (o := .cells #[.int .i64 a0_0, .int .i64 a0_1, .int .i64 a0_2, .slice A0_3 l0_3.length c0_3] 25 (0, 0)) (kAt BK565.out) hb); have n3_ := Aside0.mk (blk_below (g := gb573) (o := .cells #[.int .i64 t567, .int .i64 t568, .int .i64 t569, .slice (some ad585) t570.length co12] 25 (0, 0)) (kAt BK573.out) hb); have n4_ := Aside0.mk (below_step (bAt HB.out) hb); clear HO_5 HO_574003 BK565 BK573 HB; have HO_5 := n0_; have HO_574003 := n1_; have BK565 := n2_; have BK573 := n3_; have HB := n4_; clear n0_ n1_ n2_ n3_ n4_; (try clear hb); (try clear hb2); (try clear hk); (try clear hi)))
              go_meet
              case rel => exact ⟨_, (false), sR, H', ⟨by have := HK1.out; have := HK2.out; have := HK3.out; first | omega | exact Nat.le_refl _⟩, ⟨RAt HO_5.out⟩, ⟨VAt HO_574003.out⟩, ⟨kAt BK565.out⟩, ⟨kAt BK573.out⟩, ⟨bAt HB.out⟩⟩
            ·rw [if_neg c58] at H
             exact absurd H (by simp)
           ·rw [if_neg c57] at H
            exact absurd H (by simp)
          case rest =>
           clear HC56
           try clear c1
           try clear c2
           try clear p2
           try clear c3
           try clear c4
           try clear c5
           try clear p5
           try clear q5
           try clear hx5
           try clear c6
           try clear p6
           try clear c14
           try clear c14b0
           try clear c16
           try clear c16b0
           try clear c20
           try clear c22
           try clear c22b0
           try clear c23
           try clear c23b0
           try clear c24
           try clear c24b0
           try clear c25
           try clear c25b0
           try clear c25b1
           try clear c31
           try clear c33
           try clear c34
           try clear c34b0
           try clear c36
           try clear c36b0
           try clear c37
           try clear c37b0
           try clear c38
           try clear c38b0
           try clear c39
           try clear c39b0
           try clear c43
           try clear c45
           try clear c45b0
           try clear c46
           try clear c48
           try clear c48b0
           try clear c50
           try clear c52
           try clear c52b0
           try clear c53
           try clear c53b0
           try clear c54
           try clear c54b0
           try clear c57
           try clear c57b0
           try clear p57
           try clear q57
           try clear hx57
           try clear c58
           try clear c58b0
           try clear p58
           try clear q58
           try clear hx58
           try clear c60
           try clear c61
           try clear c64
           try clear p64
           try clear hcz32_0
           try clear hcz32_1
           try clear hcz32_2
           try clear hcz32_3
           try clear hcz47_0
           try clear hcz47_1
           try clear hcz47_2
           try clear hcz47_3
           try clear hcz62_0
           try clear hcz62_1
           try clear hcz62_2
           try clear hcz62_3
           try clear hcz65_0
           try clear hcz65_1
           try clear hcz65_2
           try clear hcz65_3
           try clear hfz32_0
           try clear hfz32_1
           try clear hfz32_2
           try clear hfz32_3
           try clear hfz47_0
           try clear hfz47_1
           try clear hfz47_2
           try clear hfz47_3
           try clear hfz62_0
           try clear hfz62_1
           try clear hfz62_2
           try clear hfz62_3
           try clear hfz65_0
           try clear hfz65_1
           try clear hfz65_2
           try clear hfz65_3
           try clear hx577_0
           try clear hx577_1
           try clear hx577_2
           try clear hx577_3
           try clear hx577_4
           try clear hx578_0
           try clear hx579_0
           try clear hx579_1
           try clear hx579_2
           try clear hx579_3
           try clear hx579_4
           try clear hx581_0
           try clear hx582_0
           try clear hx583_0
           try clear hx583_1
           try clear hx583_2
           try clear hx583_3
           try clear hx583_4
           try clear hx584_0
           try clear hx585_0
           try clear hx585_1
           try clear hx585_2
           try clear hx585_3
           try clear hx585_4
           try clear p2
           try clear p5
           try clear p577
           try clear p578
           try clear p579
           try clear p581
           try clear p582
           try clear p583
           try clear p584
           try clear p585
           try clear p6
           try clear q5
           try clear q577
           try clear q578
           try clear q579
           try clear q581
           try clear q582
           try clear q583
           try clear q584
           try clear q585
           obtain ⟨kq, x106_55, rfl, HA, HJ55, HO_5, HO_574003, BK565, BK573, HB⟩ := hcut
           cases kq with
           | zero => exact absurd HA.out (by simp [tmesislaw10_SplitNames.j7])
           | succ kj55 =>
            have H := HA.out
            clear HA
            simp only [tmesislaw10_SplitNames.j7] at H
            by_cases c67 : x106_55 = true
            ·subst c67
             have H1 : (some false) = some r := by rw [if_pos rfl] at H; exact H
             clear H
             have H := H1
             clear H1
             obtain rfl := Option.some.inj H
             go_wp2
             go_ret
             exact ⟨eR, bAt HB.out⟩
            ·replace c67 := Bool.eq_false_iff.mpr c67
             subst c67
             have H1 : (tmesislaw10_SplitNames.l2 kj55 t566 t574 (wrap64 (x9_2 + 1)) t567 t568 t569 t570) = some r := by rw [if_neg (show ¬ (false = true) by decide)] at H; exact H
             clear H
             have H := H1
             clear H1
             have H' := Aside0.mk H
             clear H
             go_wp2
             go_roundg kj55
             case measure => have := HK1.out; have := HK2.out; have := HK3.out; have := HJ55.out; omega
             case rel => exact ⟨(wrap64 (x9_2 + 1)), sR, H', ⟨by have := HK1.out; have := HK2.out; have := HK3.out; have := HJ55.out; omega⟩, ⟨RAt HO_5.out⟩, ⟨VAt HO_574003.out⟩, ⟨kAt BK565.out⟩, ⟨kAt BK573.out⟩, ⟨bAt HB.out⟩⟩
      ·rw [if_neg c45] at H
       have c45b0 : decide (x9_2 < (t570.length : Int)) = false := decide_eq_false c45
       clear c45
       obtain rfl := Option.some.inj H
       have hnb68 := NB573_565.out
       have hnc68 := NB565_573.out
       have hcz69_0 : wr.cell? ⟨gb573, 0, none⟩ = some (.int .i64 t567) := (blk_cell BK573.out 0).trans rfl
       have hcz69_1 : wr.cell? ⟨gb573, 1, none⟩ = some (.int .i64 t568) := (blk_cell BK573.out 1).trans rfl
       have hcz69_2 : wr.cell? ⟨gb573, 2, none⟩ = some (.int .i64 t569) := (blk_cell BK573.out 2).trans rfl
       have hcz69_3 : wr.cell? ⟨gb573, 3, none⟩ = some (.slice Ao12 t570.length co12) := (blk_cell BK573.out 3).trans rfl
       have hfz69_0 := blk_frozen BK573.out 0
       have hfz69_1 := blk_frozen BK573.out 1
       have hfz69_2 := blk_frozen BK573.out 2
       have hfz69_3 := blk_frozen BK573.out 3
       go_wp2
       go_ret
       exact ⟨eR, bAt HB.out⟩
/-- THE ONE PURE STATEMENT of tmesislaw10_SplitNames: yours. -/
def tmesislaw10_SplitNames.Pure : Prop := ∀ (a0_0 : Int) (a0_1 : Int) (a0_2 : Int) (l0_3 : List (S38)), (Lit.int .i64 a0_0).wf = true → (Lit.int .i64 a0_1).wf = true → (Lit.int .i64 a0_2).wf = true → (l0_3.length ≤ 9223372036854775807 ∧ l0_3.length * 48 ≤ 140737488351232 ∧ ∀ z0_ ∈ l0_3, ok38 z0_) → ∃ k, tmesislaw10_SplitNames.f k a0_0 a0_1 a0_2 l0_3 = some true
theorem tmesislaw10_SplitNames.walk (P : tmesislaw10_SplitNames.Pure) (a0_0 : Int) (a0_1 : Int) (a0_2 : Int) (A0_3 : Option Addr) (c0_3 : Nat) (l0_3 : List (S38)) (w : World) (hG : Gl w) (hr0_3 : Kd.C k38 w A0_3 l0_3.length l0_3) (hc0_3 : l0_3.length ≤ c0_3) (w0_0 : (Lit.int .i64 a0_0).wf = true) (w0_1 : (Lit.int .i64 a0_1).wf = true) (w0_2 : (Lit.int .i64 a0_2).wf = true) (w0_3 : (l0_3.length ≤ 9223372036854775807 ∧ l0_3.length * 48 ≤ 140737488351232 ∧ ∀ z0_ ∈ l0_3, ok38 z0_)) :
  Calls Tryd.prog 5 #[.agg #[.int .i64 a0_0, .int .i64 a0_1, .int .i64 a0_2, .slice A0_3 l0_3.length c0_3]] w fun e w' => e = .returned (.bool true) ∧ Below w.heap.size w w' := by
 obtain ⟨k, h⟩ := P a0_0 a0_1 a0_2 l0_3 w0_0 w0_1 w0_2 w0_3
 refine (tmesislaw10_SplitNames.calls k a0_0 a0_1 a0_2 A0_3 c0_3 l0_3 true w hG hr0_3 hc0_3 h).mono ?_
 rintro e w' ⟨rfl, hd⟩
 exact ⟨rfl, hd⟩
end Go.Proofs.YtpkklbdclghcfaaDoor.P
