/- Part of the proof: what the theorem needs of this text. -/
import Derived.Test.YtkicabbgcopjdaaDoorKHG
import Derived.Test.YtkicabbgcopjdaaDoorKPx0
import Derived.Test.YtkicabbgcopjdaaDoorKPx2
import Derived.Test.YtkicabbgcopjdaaDoorKPx3
import Derived.Test.YtkicabbgcopjdaaDoorKPx6
namespace Go.Proofs.YtkicabbgcopjdaaDoor.P
open Go.RowKit Go.Proofs.YtkicabbgcopjdaaDoorW.PrintWords Go.Proofs.YtkicabbgcopjdaaDoorW.PrintLast Go.Proofs.YtkicabbgcopjdaaDoorW.PrintMore
attribute [local go_sem] max2_int min2_int max_two min_two max_three min_three max_four min_four   -- for this text's walks alone
set_option linter.unusedVariables false
set_option linter.unusedSimpArgs false
mutual
def tmesislaw04_QuotePlain.l0 : Nat → Bool → List Int → Int → Int → Int → Int → Option (Bool)
 | 0, _, _, _, _, _, _ => none
 | k + 1, x5, x6, x7, x338000, x338001, x338002 => if x7 < (x6.length : Int) then (if 0 ≤ x7 then (tmesislaw04_QuotePlain.l0 k x5 (x6.set (x7 : Int).toNat ((42 + (Int.tmod (rd x6 x7) 50)) % 256)) (wrap64 (x7 + 1)) x338000 x338001 x338002) else (none)) else ((quote_Put.f k x6).bind fun bt350 => ((some (([] : List Int) : List Int)).bind fun y355 => (if y355.length + x6.length < 140737488355328 then (tmesislaw04_QuotePlain.l1 k x5 x6 bt350.1 bt350.2 0 (y355 ++ x6) 0 x338000 x338001 x338002 39 92 10) else (none))))
def tmesislaw04_QuotePlain.l1 : Nat → Bool → List Int → List Int → Int → Int → List Int → Int → Int → Int → Int → Int → Int → Int → Option (Bool)
 | 0, _, _, _, _, _, _, _, _, _, _, _, _, _ => none
 | k + 1, x5, x6, x8, x9, x10, x12, x13, x338000, x338001, x338002, x355000, x355001, x355002 => if x13 < 3 then (tmesislaw04_QuotePlain.l2 k x5 x6 x8 x9 x10 x12 x13 0 x338000 x338001 x338002 x355000 x355001 x355002) else ((quote_Put.f k x12).bind fun bt370 => ((quote_Take.f k bt370.1).bind fun bt374 => (if x5 = true then (if x9 = 0 then (if 1 + (strOfNums x6).size ≤ 9223372036854775807 then (if ((⟨#[39]⟩ : ByteArray) ++ (strOfNums x6)).size + 1 ≤ 9223372036854775807 then (if (strOfNums x8).toList = (((⟨#[39]⟩ : ByteArray) ++ (strOfNums x6)) ++ (⟨#[39]⟩ : ByteArray)).toList then (if bt370.2 = 0 then (if (bt370.1.length : Int) = (wrap64 ((wrap64 ((x6.length : Int) + (wrap64 (2 * x10)))) + 2)) then (if bt374.2.2 = 0 then (if (strOfNums bt374.1).toList = (strOfNums x12).toList then (tmesislaw04_QuotePlain.j4 k (bt374.2.1 == (bt370.1.length : Int))) else (tmesislaw04_QuotePlain.j4 k false)) else (tmesislaw04_QuotePlain.j4 k false)) else (tmesislaw04_QuotePlain.j4 k false)) else (tmesislaw04_QuotePlain.j4 k false)) else (tmesislaw04_QuotePlain.j4 k false)) else (none)) else (none)) else (tmesislaw04_QuotePlain.j4 k false)) else (tmesislaw04_QuotePlain.j4 k false))))
def tmesislaw04_QuotePlain.j3 : Nat → Bool → List Int → List Int → Int → Int → List Int → Int → Int → Int → Int → Int → Int → Int → Option (Bool)
 | 0, _, _, _, _, _, _, _, _, _, _, _, _, _ => none
 | k + 1, x5, x6, x8, x9, x10, x12, x13, x338000, x338001, x338002, x355000, x355001, x355002 => tmesislaw04_QuotePlain.l1 k x5 x6 x8 x9 x10 x12 (wrap64 (x13 + 1)) x338000 x338001 x338002 x355000 x355001 x355002
def tmesislaw04_QuotePlain.l2 : Nat → Bool → List Int → List Int → Int → Int → List Int → Int → Int → Int → Int → Int → Int → Int → Int → Option (Bool)
 | 0, _, _, _, _, _, _, _, _, _, _, _, _, _, _ => none
 | k + 1, x5, x6, x8, x9, x10, x12, x13, x14, x338000, x338001, x338002, x355000, x355001, x355002 => if x13 = 0 then (if x14 < (Int.tmod (wrap64 (x338000)) 16) then (if x12.length < 140737488355328 then (tmesislaw04_QuotePlain.l2 k x5 x6 x8 x9 (wrap64 (x10 + 1)) (x12 ++ [x355000]) x13 (wrap64 (x14 + 1)) x338000 x338001 x338002 x355000 x355001 x355002) else (none)) else (tmesislaw04_QuotePlain.j3 k x5 x6 x8 x9 x10 x12 x13 x338000 x338001 x338002 x355000 x355001 x355002)) else (if x13 = 1 then (if x14 < (Int.tmod (wrap64 (x338001)) 16) then (if x12.length < 140737488355328 then (tmesislaw04_QuotePlain.l2 k x5 x6 x8 x9 (wrap64 (x10 + 1)) (x12 ++ [x355001]) x13 (wrap64 (x14 + 1)) x338000 x338001 x338002 x355000 x355001 x355002) else (none)) else (tmesislaw04_QuotePlain.j3 k x5 x6 x8 x9 x10 x12 x13 x338000 x338001 x338002 x355000 x355001 x355002)) else (if x13 = 2 then (if x14 < (Int.tmod (wrap64 (x338002)) 16) then (if x12.length < 140737488355328 then (tmesislaw04_QuotePlain.l2 k x5 x6 x8 x9 (wrap64 (x10 + 1)) (x12 ++ [x355002]) x13 (wrap64 (x14 + 1)) x338000 x338001 x338002 x355000 x355001 x355002) else (none)) else (tmesislaw04_QuotePlain.j3 k x5 x6 x8 x9 x10 x12 x13 x338000 x338001 x338002 x355000 x355001 x355002)) else (none)))
def tmesislaw04_QuotePlain.j4 : Nat → Bool → Option (Bool)
 | 0, _ => none
 | k + 1, x4 => some x4
end
def tmesislaw04_QuotePlain.f (k : Nat) (l0 : List Int) (a1_0 : Int) (a1_1 : Int) (a1_2 : Int) : Option (Bool) := (tmesislaw04_shown.f k).bind fun t338 => ((some (([] : List Int) : List Int)).bind fun y339 => ((tmesislaw04_few.f l0).bind fun t342 => (if y339.length + t342.length < 140737488355328 then (tmesislaw04_QuotePlain.l0 k t338 (y339 ++ t342) 0 a1_0 a1_1 a1_2) else (none))))
theorem tmesislaw04_QuotePlain.mono_l : ∀ k, (∀ y0 y1 y2 y3 y4 y5, LeO (tmesislaw04_QuotePlain.l0 k y0 y1 y2 y3 y4 y5) (tmesislaw04_QuotePlain.l0 (k + 1) y0 y1 y2 y3 y4 y5)) ∧ (∀ y0 y1 y2 y3 y4 y5 y6 y7 y8 y9 y10 y11 y12, LeO (tmesislaw04_QuotePlain.l1 k y0 y1 y2 y3 y4 y5 y6 y7 y8 y9 y10 y11 y12) (tmesislaw04_QuotePlain.l1 (k + 1) y0 y1 y2 y3 y4 y5 y6 y7 y8 y9 y10 y11 y12)) ∧ (∀ y0 y1 y2 y3 y4 y5 y6 y7 y8 y9 y10 y11 y12, LeO (tmesislaw04_QuotePlain.j3 k y0 y1 y2 y3 y4 y5 y6 y7 y8 y9 y10 y11 y12) (tmesislaw04_QuotePlain.j3 (k + 1) y0 y1 y2 y3 y4 y5 y6 y7 y8 y9 y10 y11 y12)) ∧ (∀ y0 y1 y2 y3 y4 y5 y6 y7 y8 y9 y10 y11 y12 y13, LeO (tmesislaw04_QuotePlain.l2 k y0 y1 y2 y3 y4 y5 y6 y7 y8 y9 y10 y11 y12 y13) (tmesislaw04_QuotePlain.l2 (k + 1) y0 y1 y2 y3 y4 y5 y6 y7 y8 y9 y10 y11 y12 y13)) ∧ (∀ y0, LeO (tmesislaw04_QuotePlain.j4 k y0) (tmesislaw04_QuotePlain.j4 (k + 1) y0))
 | 0 => ⟨fun _ _ _ _ _ _ r h => by simp [tmesislaw04_QuotePlain.l0] at h, fun _ _ _ _ _ _ _ _ _ _ _ _ _ r h => by simp [tmesislaw04_QuotePlain.l1] at h, fun _ _ _ _ _ _ _ _ _ _ _ _ _ r h => by simp [tmesislaw04_QuotePlain.j3] at h, fun _ _ _ _ _ _ _ _ _ _ _ _ _ _ r h => by simp [tmesislaw04_QuotePlain.l2] at h, fun _ r h => by simp [tmesislaw04_QuotePlain.j4] at h⟩
 | k + 1 => by
  obtain ⟨ih0, ih1, ih2, ih3, ih4⟩ := tmesislaw04_QuotePlain.mono_l k
  refine ⟨?_, ?_, ?_, ?_, ?_⟩
  ·intro y0 y1 y2 y3 y4 y5
   unfold tmesislaw04_QuotePlain.l0
   repeat' first
   | (with_reducible exact ih0 _ _ _ _ _ _)
   | (with_reducible exact ih1 _ _ _ _ _ _ _ _ _ _ _ _ _)
   | (with_reducible exact ih2 _ _ _ _ _ _ _ _ _ _ _ _ _)
   | (with_reducible exact ih3 _ _ _ _ _ _ _ _ _ _ _ _ _ _)
   | (with_reducible exact ih4 _)
   | (with_reducible exact quote_Put.mono _ _)
   | (with_reducible exact quote_Take.mono _ _)
   | (with_reducible exact tmesislaw04_shown.mono _)
   | (with_reducible exact LeO.refl _)
   | (with_reducible exact LeO.none _)
   | (with_reducible refine LeO.ite ?_ ?_)
   | (with_reducible refine LeO.bind ?_ (fun _ => ?_))
   | exact ih0 _ _ _ _ _ _
   | exact ih1 _ _ _ _ _ _ _ _ _ _ _ _ _
   | exact ih2 _ _ _ _ _ _ _ _ _ _ _ _ _
   | exact ih3 _ _ _ _ _ _ _ _ _ _ _ _ _ _
   | exact ih4 _
   | exact quote_Put.mono _ _
   | exact quote_Take.mono _ _
   | exact tmesislaw04_shown.mono _
   | exact LeO.none _
   | refine LeO.ite ?_ ?_
   | refine LeO.bind ?_ (fun _ => ?_)
  ·intro y0 y1 y2 y3 y4 y5 y6 y7 y8 y9 y10 y11 y12
   unfold tmesislaw04_QuotePlain.l1
   repeat' first
   | (with_reducible exact ih0 _ _ _ _ _ _)
   | (with_reducible exact ih1 _ _ _ _ _ _ _ _ _ _ _ _ _)
   | (with_reducible exact ih2 _ _ _ _ _ _ _ _ _ _ _ _ _)
   | (with_reducible exact ih3 _ _ _ _ _ _ _ _ _ _ _ _ _ _)
   | (with_reducible exact ih4 _)
   | (with_reducible exact quote_Put.mono _ _)
   | (with_reducible exact quote_Take.mono _ _)
   | (with_reducible exact tmesislaw04_shown.mono _)
   | (with_reducible exact LeO.refl _)
   | (with_reducible exact LeO.none _)
   | (with_reducible refine LeO.ite ?_ ?_)
   | (with_reducible refine LeO.bind ?_ (fun _ => ?_))
   | exact ih0 _ _ _ _ _ _
   | exact ih1 _ _ _ _ _ _ _ _ _ _ _ _ _
   | exact ih2 _ _ _ _ _ _ _ _ _ _ _ _ _
   | exact ih3 _ _ _ _ _ _ _ _ _ _ _ _ _ _
   | exact ih4 _
   | exact quote_Put.mono _ _
   | exact quote_Take.mono _ _
   | exact tmesislaw04_shown.mono _
   | exact LeO.none _
   | refine LeO.ite ?_ ?_
   | refine LeO.bind ?_ (fun _ => ?_)
  ·intro y0 y1 y2 y3 y4 y5 y6 y7 y8 y9 y10 y11 y12
   unfold tmesislaw04_QuotePlain.j3
   repeat' first
   | (with_reducible exact ih0 _ _ _ _ _ _)
   | (with_reducible exact ih1 _ _ _ _ _ _ _ _ _ _ _ _ _)
   | (with_reducible exact ih2 _ _ _ _ _ _ _ _ _ _ _ _ _)
   | (with_reducible exact ih3 _ _ _ _ _ _ _ _ _ _ _ _ _ _)
   | (with_reducible exact ih4 _)
   | (with_reducible exact quote_Put.mono _ _)
   | (with_reducible exact quote_Take.mono _ _)
   | (with_reducible exact tmesislaw04_shown.mono _)
   | (with_reducible exact LeO.refl _)
   | (with_reducible exact LeO.none _)
   | (with_reducible refine LeO.ite ?_ ?_)
   | (with_reducible refine LeO.bind ?_ (fun _ => ?_))
   | exact ih0 _ _ _ _ _ _
   | exact ih1 _ _ _ _ _ _ _ _ _ _ _ _ _
   | exact ih2 _ _ _ _ _ _ _ _ _ _ _ _ _
   | exact ih3 _ _ _ _ _ _ _ _ _ _ _ _ _ _
   | exact ih4 _
   | exact quote_Put.mono _ _
   | exact quote_Take.mono _ _
   | exact tmesislaw04_shown.mono _
   | exact LeO.none _
   | refine LeO.ite ?_ ?_
   | refine LeO.bind ?_ (fun _ => ?_)
  ·intro y0 y1 y2 y3 y4 y5 y6 y7 y8 y9 y10 y11 y12 y13
   unfold tmesislaw04_QuotePlain.l2
   repeat' first
   | (with_reducible exact ih0 _ _ _ _ _ _)
   | (with_reducible exact ih1 _ _ _ _ _ _ _ _ _ _ _ _ _)
   | (with_reducible exact ih2 _ _ _ _ _ _ _ _ _ _ _ _ _)
   | (with_reducible exact ih3 _ _ _ _ _ _ _ _ _ _ _ _ _ _)
   | (with_reducible exact ih4 _)
   | (with_reducible exact quote_Put.mono _ _)
   | (with_reducible exact quote_Take.mono _ _)
   | (with_reducible exact tmesislaw04_shown.mono _)
   | (with_reducible exact LeO.refl _)
   | (with_reducible exact LeO.none _)
   | (with_reducible refine LeO.ite ?_ ?_)
   | (with_reducible refine LeO.bind ?_ (fun _ => ?_))
   | exact ih0 _ _ _ _ _ _
   | exact ih1 _ _ _ _ _ _ _ _ _ _ _ _ _
   | exact ih2 _ _ _ _ _ _ _ _ _ _ _ _ _
   | exact ih3 _ _ _ _ _ _ _ _ _ _ _ _ _ _
   | exact ih4 _
   | exact quote_Put.mono _ _
   | exact quote_Take.mono _ _
   | exact tmesislaw04_shown.mono _
   | exact LeO.none _
   | refine LeO.ite ?_ ?_
   | refine LeO.bind ?_ (fun _ => ?_)
  ·intro y0
   unfold tmesislaw04_QuotePlain.j4
   repeat' first
   | (with_reducible exact ih0 _ _ _ _ _ _)
   | (with_reducible exact ih1 _ _ _ _ _ _ _ _ _ _ _ _ _)
   | (with_reducible exact ih2 _ _ _ _ _ _ _ _ _ _ _ _ _)
   | (with_reducible exact ih3 _ _ _ _ _ _ _ _ _ _ _ _ _ _)
   | (with_reducible exact ih4 _)
   | (with_reducible exact quote_Put.mono _ _)
   | (with_reducible exact quote_Take.mono _ _)
   | (with_reducible exact tmesislaw04_shown.mono _)
   | (with_reducible exact LeO.refl _)
   | (with_reducible exact LeO.none _)
   | (with_reducible refine LeO.ite ?_ ?_)
   | (with_reducible refine LeO.bind ?_ (fun _ => ?_))
   | exact ih0 _ _ _ _ _ _
   | exact ih1 _ _ _ _ _ _ _ _ _ _ _ _ _
   | exact ih2 _ _ _ _ _ _ _ _ _ _ _ _ _
   | exact ih3 _ _ _ _ _ _ _ _ _ _ _ _ _ _
   | exact ih4 _
   | exact quote_Put.mono _ _
   | exact quote_Take.mono _ _
   | exact tmesislaw04_shown.mono _
   | exact LeO.none _
   | refine LeO.ite ?_ ?_
   | refine LeO.bind ?_ (fun _ => ?_)
theorem tmesislaw04_QuotePlain.mono : ∀ a0 a1 a2 a3 k, LeO (tmesislaw04_QuotePlain.f k a0 a1 a2 a3) (tmesislaw04_QuotePlain.f (k + 1) a0 a1 a2 a3) := by
 intro a0 a1 a2 a3 k
 obtain ⟨ih0, ih1, ih2, ih3, ih4⟩ := tmesislaw04_QuotePlain.mono_l k
 unfold tmesislaw04_QuotePlain.f
 repeat' first
   | (with_reducible exact ih0 _ _ _ _ _ _)
   | (with_reducible exact ih1 _ _ _ _ _ _ _ _ _ _ _ _ _)
   | (with_reducible exact ih2 _ _ _ _ _ _ _ _ _ _ _ _ _)
   | (with_reducible exact ih3 _ _ _ _ _ _ _ _ _ _ _ _ _ _)
   | (with_reducible exact ih4 _)
   | (with_reducible exact quote_Put.mono _ _)
   | (with_reducible exact quote_Take.mono _ _)
   | (with_reducible exact tmesislaw04_shown.mono _)
   | (with_reducible exact LeO.refl _)
   | (with_reducible exact LeO.none _)
   | (with_reducible refine LeO.ite ?_ ?_)
   | (with_reducible refine LeO.bind ?_ (fun _ => ?_))
   | exact ih0 _ _ _ _ _ _
   | exact ih1 _ _ _ _ _ _ _ _ _ _ _ _ _
   | exact ih2 _ _ _ _ _ _ _ _ _ _ _ _ _
   | exact ih3 _ _ _ _ _ _ _ _ _ _ _ _ _ _
   | exact ih4 _
   | exact quote_Put.mono _ _
   | exact quote_Take.mono _ _
   | exact tmesislaw04_shown.mono _
   | exact LeO.none _
   | refine LeO.ite ?_ ?_
   | refine LeO.bind ?_ (fun _ => ?_)
set_option maxHeartbeats 8000000 in
set_option maxRecDepth 100000 in
theorem tmesislaw04_QuotePlain.calls (k : Nat) (A0 : Option Addr) (c0 : Nat) (l0 : List Int) (a1_0 : Int) (a1_1 : Int) (a1_2 : Int) (r : Bool) (w : World) (hG : Gl w) (hr0 : Kd.C (Kd.int .u8) w A0 l0.length l0) (hc0 : l0.length ≤ c0) (h : tmesislaw04_QuotePlain.f k l0 a1_0 a1_1 a1_2 = some r) :
  Calls Tryd.prog 5 #[.slice A0 l0.length c0, .agg #[.int .u8 a1_0, .int .u8 a1_1, .int .u8 a1_2]] w fun e w' => e = .returned (.bool r) ∧ Below w.heap.size w w' := by
 have hu32 := Tryd.underlying32
 have HR0 := Aside0.mk hr0
 have HC0 := Aside0.mk hc0
 clear hr0 hc0
 have HB := Aside0.mk (Below.refl w.heap.size w)
 have HG := Aside0.mk hG
 clear hG
 have H : ((tmesislaw04_shown.f k).bind fun t338 => ((some (([] : List Int) : List Int)).bind fun y339 => ((tmesislaw04_few.f l0).bind fun t342 => (if y339.length + t342.length < 140737488355328 then (tmesislaw04_QuotePlain.l0 k t338 (y339 ++ t342) 0 a1_0 a1_1 a1_2) else (none))))) = some r := h
 clear h
 replace H := Option.bind_eq_some_iff.mp H
 obtain ⟨t338, A30, H⟩ := H
 replace H : ((some (([] : List Int) : List Int)).bind fun y339 => ((tmesislaw04_few.f l0).bind fun t342 => (if y339.length + t342.length < 140737488355328 then (tmesislaw04_QuotePlain.l0 k t338 (y339 ++ t342) 0 a1_0 a1_1 a1_2) else (none)))) = some r := H
 have A3 := Aside0.mk A30
 clear A30
 obtain ⟨y339, hy339⟩ : ∃ y_ : List Int, y_ = (([] : List Int)) := ⟨_, rfl⟩
 replace H : ((tmesislaw04_few.f l0).bind fun t342 => (if y339.length + t342.length < 140737488355328 then (tmesislaw04_QuotePlain.l0 k t338 (y339 ++ t342) 0 a1_0 a1_1 a1_2) else (none))) = some r := by first | (rw [hy339]; with_reducible exact H) | (have H2_ := (Option.bind_some _ _).symm.trans H; rw [hy339]; with_reducible exact H2_) | (have H2_ := (Option.bind_some _ _).symm.trans H; with_reducible exact H2_) | with_reducible exact H | (rw [hy339]; exact H) | exact H
 have Ny339 := Aside0.mk hy339
 clear hy339
 replace H := Option.bind_eq_some_iff.mp H
 obtain ⟨t342, A40, H⟩ := H
 replace H : (if y339.length + t342.length < 140737488355328 then (tmesislaw04_QuotePlain.l0 k t338 (y339 ++ t342) 0 a1_0 a1_1 a1_2) else (none)) = some r := H
 have A4 := Aside0.mk A40
 clear A40
 by_cases c5 : y339.length + t342.length < 140737488355328
 ·rw [if_pos c5] at H
  have LMc5 := Aside0.mk c5
  clear c5
  obtain ⟨y345, hy345⟩ : ∃ y_ : List Int, y_ = (y339 ++ t342) := ⟨_, rfl⟩
  replace H : (tmesislaw04_QuotePlain.l0 k t338 y345 0 a1_0 a1_1 a1_2) = some r := by first | (rw [hy345]; with_reducible exact H) | (have H2_ := (Option.bind_some _ _).symm.trans H; rw [hy345]; with_reducible exact H2_) | (have H2_ := (Option.bind_some _ _).symm.trans H; with_reducible exact H2_) | with_reducible exact H | (rw [hy345]; exact H) | exact H
  have Ny345 := Aside0.mk hy345
  clear hy345
  have H' := Aside0.mk H
  clear H
  go_enter Tryd.func5, Tryd.ntmps5
  go_wp2_with (first | ((with_reducible refine gate_dst (N := 3) rfl ?_); (try (refine gate_guard (by rfl) ?_; dsimp only)); refine box_event ?hg (N := 3) ?hd (cs := #[.int .u8 a1_0, .int .u8 a1_1, .int .u8 a1_2]) (t := 32) ?hr ?_; (case hd => rfl); (case hg => rfl); (case hr => first | (go_simp; done) | (go_simp; rfl)); intro gb337 hg w6 hbox hb; have n0_ := Aside0.mk (below_step (by repeat (first | (with_reducible first | exact HB.out | apply below_alloc | apply pw_below_drewN | apply below_drew1) | exact HB.out)) hb); have n1_ := Aside0.mk (hbox); have n2_ := Aside0.mk ((by rw [hg]; exact (below_size (by repeat (first | (with_reducible first | exact HB.out | apply below_alloc | apply pw_below_drewN | apply below_drew1) | exact HB.out))) : w.heap.size ≤ gb337)); have n3_ := Aside0.mk ((by rw [hg]; exact (below_size (by repeat (first | (with_reducible first | exact HB.out | apply below_alloc | apply pw_below_drewN | apply below_drew1) | exact HB.out))) : w.heap.size ≤ gb337)); clear HB; have HB := n0_; have BK337 := n1_; have GW337 := n2_; have GE337 := n3_; clear n0_ n1_ n2_ n3_; clear hb hbox hg) | ((with_reducible refine gate_callee (f := 8) rfl ?_); refine goesL_ (some 20) rfl rfl Tryd.func8 (by kernel_rfl) rfl #[] rfl (by (try simp only [List.map_toArray, List.map_cons, List.map_nil]); first | done | rfl | (simp only [List.length_drop, List.length_take]; rfl)) ?_; (with_reducible refine (tmesislaw04_shown.calls k  t338 _ A3.out).mono ?_); rintro e w7 ⟨rfl, hb⟩; refine ⟨_, rfl, ?_⟩; have n0_ := Aside0.mk (blk_below (g := gb337) (o := .cells #[.int .u8 a1_0, .int .u8 a1_1, .int .u8 a1_2] 32 (0, 0)) (by (with_reducible repeat (first | refine blk_drewN ?_ _ | refine blk_drew ?_ | refine blk_alloc ?_ _)); exact BK337.out) hb); have n1_ := Aside0.mk (below_step (by repeat (first | (with_reducible first | exact HB.out | apply below_alloc | apply pw_below_drewN | apply below_drew1 | refine below_set ?_ GE337.out) | exact HB.out)) hb); clear BK337; clear HB; have BK337 := n0_; have HB := n1_; clear n0_ n1_; (try clear hb); (try clear hb2); (try clear hk); (try clear hi)) | ((with_reducible refine gate_dst (N := 21) rfl ?_); (try (refine gate_guard (by rfl) ?_; dsimp only)); refine Kd.R_lit (Kd.int .u8) _ 5 ?hg (N := 21) ?hd (xs := ([] : List Int)) (inner := []) (ok := fun _ => True) (okp := fun _ => True) ?hr ?hp (fun _ hk => hk) trivial (Below.refl _ _) (Nat.le_refl _) (by simp) ?_; (case hd => rfl); (case hg => rfl); (case hr => first | (go_simp; done) | (go_simp; rfl)); (case hp => exact (Reps.none _ _)); intro v340 w8 ho9 hb hg_ hnew_; clear hg_ hnew_; (first | rw [← Ny339.out] at ho9 | (simp only [Int.reduceToNat] at ho9; rw [← Ny339.out] at ho9)); have n0_ := Aside0.mk (Kd.R_lower ho9 (below_size (by repeat (first | (with_reducible first | exact HB.out | apply below_alloc | apply pw_below_drewN | apply below_drew1 | refine below_set ?_ GE337.out) | exact HB.out)))); have n1_ := Aside0.mk (blk_below (g := gb337) (o := .cells #[.int .u8 a1_0, .int .u8 a1_1, .int .u8 a1_2] 32 (0, 0)) (by (with_reducible repeat (first | refine blk_drewN ?_ _ | refine blk_drew ?_ | refine blk_alloc ?_ _)); exact BK337.out) hb); have n2_ := Aside0.mk (below_step (by repeat (first | (with_reducible first | exact HB.out | apply below_alloc | apply pw_below_drewN | apply below_drew1 | refine below_set ?_ GE337.out) | exact HB.out)) hb); clear BK337; clear HB; have HO341 := n0_; have BK337 := n1_; have HB := n2_; clear n0_ n1_ n2_; clear hb ho9) | ((with_reducible refine gate_callee (f := 10) rfl ?_); refine goesL_ (some 23) rfl rfl Tryd.func10 (by kernel_rfl) rfl #[.slice A0 l0.length c0] rfl (by (try simp only [List.map_toArray, List.map_cons, List.map_nil]); first | done | rfl | (simp only [List.length_drop, List.length_take]; rfl)) ?_; (with_reducible refine (tmesislaw04_few.calls (fun k_ => k_ < w.heap.size) _ _ l0 t342 _ ?side1 A4.out).mono ?_); (case side1 => exact Kd.V_mk HC0.out (Kd.F_below (Kd.C_F (Kd.heap_int .u8) HR0.out) (by repeat (first | (with_reducible first | exact HB.out | apply below_alloc | apply pw_below_drewN | apply below_drew1 | refine below_set ?_ GE337.out) | exact HB.out)))); rintro e w10 ⟨v343, rfl, ho0, hb⟩; refine ⟨_, rfl, ?_⟩; have n0_ := Aside0.mk (Kd.R_below (by (with_reducible repeat (first | apply Kd.R_alloc | apply Kd.R_drewN | apply Kd.R_drew)); exact HO341.out) hb); have n1_ := Aside0.mk (Kd.V_lower (Kd.V_mono (ok' := fun k_ => some k_ ≠ (v340 : Value).ownBlock ∧ k_ ≠ gb337) ho0 (fun k_ hk_ => ⟨Or.elim hk_ (fun hs_ => fun e_ => Nat.not_le.2 hs_ (Kd.R_base HO341.out k_ e_.symm)) (fun hn_ => (Kd.fresh' (Kd.R_lt (by (with_reducible repeat (first | apply Kd.R_alloc | apply Kd.R_drewN | apply Kd.R_drew)); exact HO341.out)) k_ hn_)), Or.elim hk_ (fun hs_ => fun e_ => Nat.not_le.2 hs_ (by rw [e_]; exact GW337.out)) (fun hn_ => (Kd.freshB (g := gb337) (o := .cells #[.int .u8 a1_0, .int .u8 a1_1, .int .u8 a1_2] 32 (0, 0)) (by (with_reducible repeat (first | refine blk_drewN ?_ _ | refine blk_drew ?_ | refine blk_alloc ?_ _)); exact BK337.out) k_ hn_))⟩)) (below_size (by repeat (first | (with_reducible first | exact HB.out | apply below_alloc | apply pw_below_drewN | apply below_drew1 | refine below_set ?_ GE337.out) | exact HB.out)))); have n2_ := Aside0.mk (blk_below (g := gb337) (o := .cells #[.int .u8 a1_0, .int .u8 a1_1, .int .u8 a1_2] 32 (0, 0)) (by (with_reducible repeat (first | refine blk_drewN ?_ _ | refine blk_drew ?_ | refine blk_alloc ?_ _)); exact BK337.out) hb); have n3_ := Aside0.mk (below_step (by repeat (first | (with_reducible first | exact HB.out | apply below_alloc | apply pw_below_drewN | apply below_drew1 | refine below_set ?_ GE337.out) | exact HB.out)) hb); clear HO341; clear BK337; clear HB; have HO341 := n0_; have HO344 := n1_; have BK337 := n2_; have HB := n3_; clear n0_ n1_ n2_ n3_; (try clear hb); (try clear hb2); (try clear hk); (try clear hi); (try clear ho0); obtain ⟨Ao12, co12, eo12⟩ := Kd.V_slice HO344.out; subst eo12) | ((with_reducible refine gate_builtin (b := .append) (xs := #[.tmp 21, .tmp 23]) rfl ?_); (try (refine gate_guard (by rfl) ?_; dsimp only)); at_builtin; refine Kd.R_append_rows (Kd.int .u8) (w0 := w) w.heap.size rfl (.tmp 21) (.tmp 23) 22 5 (.int .u8 0) 1 rfl Tryd.underlying22 info5 rfl (by decide) (by omega) v340 y339 t342 _ _ _ (fun _ => True) (fun _ => False) rfl rfl ?aO ?aR (fun _ _ h => h) (fun _ h => h.elim) ?aF ?aB ?aS ?aL ?_; (case aR => repeat (first | exact (Kd.V_reads' HO344.out).2.2 | (with_reducible refine Kd.C_alloc ?_ _) | (with_reducible refine Kd.C_drewN ?_ _) | (with_reducible refine Kd.C_drew ?_))); (case aB => exact (by repeat (first | (with_reducible first | exact HB.out | apply below_alloc | apply pw_below_drewN | apply below_drew1 | refine below_set ?_ GE337.out) | exact HB.out))); (case aF => exact (fun _ _ => trivial)); (case aO => exact (by (with_reducible repeat (first | apply Kd.R_alloc | apply Kd.R_drewN | apply Kd.R_drew)); exact HO341.out)); (case aS => exact (below_size (by repeat (first | (with_reducible first | exact HB.out | apply below_alloc | apply pw_below_drewN | apply below_drew1 | refine below_set ?_ GE337.out) | exact HB.out)))); (case aL => have := LMc5.out; omega); intro v346 w11 ho hb hg hat; rw [← Ny345.out] at ho; have n0_ := Aside0.mk (blk_grown (g := gb337) (o := .cells #[.int .u8 a1_0, .int .u8 a1_1, .int .u8 a1_2] 32 (0, 0)) (by (with_reducible repeat (first | refine blk_drewN ?_ _ | refine blk_drew ?_ | refine blk_alloc ?_ _)); exact BK337.out) hg (Kd.R_ne HO341.out BK337.out (by decide))); have n1_ := Aside0.mk (Kd.V_afterv (ok := (fun k_ => k_ ≠ gb337)) (by (with_reducible repeat (first | apply Kd.V_alloc | apply Kd.V_drewN | apply Kd.V_drew)); exact Kd.V_mono HO344.out (fun _ hk => ⟨hk.2, hk.1⟩)) hg hat); have n2_ := Aside0.mk (hb); have n3_ := Aside0.mk (ho); clear BK337; clear HO344; clear HB; clear HO341; have BK337 := n0_; have HO344 := n1_; have HB := n2_; have HO347 := n3_; clear n0_ n1_ n2_ n3_; clear ho hb hg hat))
  go_loopg [7] k (fun kq v7 w' => ∃ (x6_1 : List Int) (x7_1 : Int), v7 = .int .i64 x7_1 ∧ Aside0 (tmesislaw04_QuotePlain.l0 kq t338 x6_1 x7_1 a1_0 a1_1 a1_2 = some r) ∧ Aside0 (kq ≤ k) ∧ Aside0 (Kd.R (Kd.int .u8) 5 w' w.heap.size (fun _ => True) v346 x6_1) ∧ Aside0 (w'.heap[gb337]? = some (.cells #[.int .u8 a1_0, .int .u8 a1_1, .int .u8 a1_2] 32 (0, 0))) ∧ Aside0 (Below w.heap.size w w'))
  case atStart => exact ⟨(y345), (0), (by first | rfl | (simp; done) | (simp [*]; done)), H', ⟨Nat.le_refl _⟩, ⟨by (with_reducible repeat (first | apply Kd.R_alloc | apply Kd.R_drewN | apply Kd.R_drew)); exact HO347.out⟩, ⟨by (with_reducible repeat (first | refine blk_drewN ?_ _ | refine blk_drew ?_ | refine blk_alloc ?_ _)); exact BK337.out⟩, ⟨by repeat (first | (with_reducible first | exact HB.out | apply below_alloc | apply pw_below_drewN | apply below_drew1 | refine below_set ?_ GE337.out) | exact HB.out)⟩⟩
  case round =>
   clear H'
   try clear c1
   try clear p2
   try clear c5
   try clear c8
   try clear c10
   obtain ⟨x6_1, x7_1, rfl, HA, HK1, HO_6, BK337, HB⟩ := hrel
   cases gk with
   | zero => exact absurd HA.out (by simp [tmesislaw04_QuotePlain.l0])
   | succ k1 =>
    have H := HA.out
    clear HA
    simp only [tmesislaw04_QuotePlain.l0] at H
    by_cases c13 : x7_1 < (x6_1.length : Int)
    ·rw [if_pos c13] at H
     have c13b0 : decide (x7_1 < (x6_1.length : Int)) = true := decide_eq_true c13
     clear c13
     by_cases c14 : 0 ≤ x7_1
     ·rw [if_pos c14] at H
      have c14b0 : decide (0 ≤ x7_1) = true := decide_eq_true c14
      clear c14
      obtain ⟨y349, hy349⟩ : ∃ y_ : List Int, y_ = (x6_1.set (x7_1 : Int).toNat ((42 + (Int.tmod (rd x6_1 x7_1) 50)) % 256)) := ⟨_, rfl⟩
      replace H : (tmesislaw04_QuotePlain.l0 k1 t338 y349 (wrap64 (x7_1 + 1)) a1_0 a1_1 a1_2) = some r := by first | (rw [hy349]; with_reducible exact H) | (have H2_ := (Option.bind_some _ _).symm.trans H; rw [hy349]; with_reducible exact H2_) | (have H2_ := (Option.bind_some _ _).symm.trans H; with_reducible exact H2_) | with_reducible exact H | (rw [hy349]; exact H) | exact H
      have Ny349 := Aside0.mk hy349
      clear hy349
      have H' := Aside0.mk H
      clear H
      obtain ⟨Ao16, co16, eo16⟩ := Kd.R_slice HO_6.out
      subst eo16
      have p348 : 0 ≤ (x7_1 : Int) := of_decide_eq_true (by first | (with_reducible assumption) | assumption)
      have q348 : x7_1 < (x6_1.length : Int) := of_decide_eq_true (by first | (with_reducible assumption) | assumption)
      obtain ⟨ad348, e348, hx348_0⟩ := Kd.at_int (Kd.R_reads' HO_6.out).2.2 x7_1 p348 q348
      cases e348
      replace p348 := eq_true p348
      replace q348 := eq_true q348
      have p15 : 0 ≤ (x7_1 : Int) := of_decide_eq_true (by first | (with_reducible assumption) | assumption)
      have q15 : (x7_1 : Int) < ((x6_1.length : Int) : Int) := of_decide_eq_true (by first | (with_reducible assumption) | assumption)
      obtain ⟨go15, co15, eo15, gb15, gl15, cl15, HG15⟩ := Kd.R_form HO_6.out (by omega)
      (first | cases eo15 | (injection eo15 with ea_ en_ ec_; (first | subst ea_ | (injection ea_ with ea_; subst ea_)); subst ec_; clear en_))
      have GB15 := Aside0.mk gb15
      have GG15 := Aside0.mk HG15
      clear gb15 gl15 HG15
      (first | simp only [add_plain] at hx348_0 | skip)
      obtain ⟨hx15_0, hf15_0⟩ := Kd.R_celln 0 HO_6.out (x7_1 : Int) p15 q15
      replace p15 := eq_true p15
      replace q15 := eq_true q15
      have HP17 := Kd.R_putg HO_6.out (x7_1 : Int) ((42 + (Int.tmod (rd x6_1 x7_1) 50)) % 256)
      go_wp2_with (first | ((with_reducible refine gate_store (t := 5) (p := 39) rfl ?_); refine store_event (t := 5) (p := 39) (v := ?vo_w18) (w1 := (wr.setCell ⟨go15, (x7_1 : Int).toNat, none⟩ (.int .u8 ((42 + (Int.tmod (rd x6_1 x7_1) 50)) % 256)))) ?hg ?ho ?hn ?hr ?_; (case ho => rfl); (case hg => rfl); (case hn => rfl); (case hr => first | (go_simp; done) | (go_simp; rfl)); intro w18 hw; have hg : wr.grownBy w18 (some go15) := (by rw [hw]; exact HP17.2); have hp_ : Kd.R (Kd.int .u8) 5 w18 w.heap.size (fun _ => True) (.slice (some ⟨go15, 0, none⟩) x6_1.length co16) y349 := (by rw [hw, Ny349.out]; exact HP17.1); clear HP17; have n0_ := Aside0.mk (hp_); have n1_ := Aside0.mk (blk_grown (g := gb337) (o := .cells #[.int .u8 a1_0, .int .u8 a1_1, .int .u8 a1_2] 32 (0, 0)) (by (with_reducible repeat (first | refine blk_drewN ?_ _ | refine blk_drew ?_ | refine blk_alloc ?_ _)); exact BK337.out) hg (Kd.R_ne HO_6.out BK337.out (by decide))); have n2_ := Aside0.mk ((by rw [hw]; exact below_set (HB.out) GB15.out : Below w.heap.size w w18)); clear HO_6; clear BK337; clear HB; have HO_6 := n0_; have BK337 := n1_; have HB := n2_; clear n0_ n1_ n2_; clear hg hw hp_))
      go_roundg k1
      case measure => have := HK1.out; omega
      case rel => exact ⟨(y349), (wrap64 (x7_1 + 1)), (by first | rfl | (simp; done) | (simp [*]; done)), H', ⟨by have := HK1.out; omega⟩, ⟨by (with_reducible repeat (first | apply Kd.R_alloc | apply Kd.R_drewN | apply Kd.R_drew)); exact HO_6.out⟩, ⟨by (with_reducible repeat (first | refine blk_drewN ?_ _ | refine blk_drew ?_ | refine blk_alloc ?_ _)); exact BK337.out⟩, ⟨by repeat (first | (with_reducible first | exact HB.out | apply below_alloc | apply pw_below_drewN | apply below_drew1 | refine below_set ?_ GE337.out) | exact HB.out)⟩⟩
     ·rw [if_neg c14] at H
      exact absurd H (by simp)
    ·rw [if_neg c13] at H
     have c13b0 : decide (x7_1 < (x6_1.length : Int)) = false := decide_eq_false c13
     clear c13
     replace H := Option.bind_eq_some_iff.mp H
     obtain ⟨⟨t350, t351⟩, A190, H⟩ := H
     replace H : ((some (([] : List Int) : List Int)).bind fun y355 => (if y355.length + x6_1.length < 140737488355328 then (tmesislaw04_QuotePlain.l1 k1 t338 x6_1 t350 t351 0 (y355 ++ x6_1) 0 a1_0 a1_1 a1_2 39 92 10) else (none))) = some r := H
     have A19 := Aside0.mk A190
     clear A190
     obtain ⟨y355, hy355⟩ : ∃ y_ : List Int, y_ = (([] : List Int)) := ⟨_, rfl⟩
     replace H : (if y355.length + x6_1.length < 140737488355328 then (tmesislaw04_QuotePlain.l1 k1 t338 x6_1 t350 t351 0 (y355 ++ x6_1) 0 a1_0 a1_1 a1_2 39 92 10) else (none)) = some r := by first | (rw [hy355]; with_reducible exact H) | (have H2_ := (Option.bind_some _ _).symm.trans H; rw [hy355]; with_reducible exact H2_) | (have H2_ := (Option.bind_some _ _).symm.trans H; with_reducible exact H2_) | with_reducible exact H | (rw [hy355]; exact H) | exact H
     have Ny355 := Aside0.mk hy355
     clear hy355
     by_cases c20 : y355.length + x6_1.length < 140737488355328
     ·rw [if_pos c20] at H
      have LMc20 := Aside0.mk c20
      clear c20
      obtain ⟨y358, hy358⟩ : ∃ y_ : List Int, y_ = (y355 ++ x6_1) := ⟨_, rfl⟩
      replace H : (tmesislaw04_QuotePlain.l1 k1 t338 x6_1 t350 t351 0 y358 0 a1_0 a1_1 a1_2 39 92 10) = some r := by first | (rw [hy358]; with_reducible exact H) | (have H2_ := (Option.bind_some _ _).symm.trans H; rw [hy358]; with_reducible exact H2_) | (have H2_ := (Option.bind_some _ _).symm.trans H; with_reducible exact H2_) | with_reducible exact H | (rw [hy358]; exact H) | exact H
      have Ny358 := Aside0.mk hy358
      clear hy358
      have H' := Aside0.mk H
      clear H
      obtain ⟨Ao21, co21, eo21⟩ := Kd.R_slice HO_6.out
      subst eo21
      go_wp2_with (first | ((with_reducible refine gate_callee (f := 12) rfl ?_); refine goesL_ (some 42) rfl rfl Tryd.func12 (by kernel_rfl) rfl #[.slice Ao21 x6_1.length co21] rfl (by (try simp only [List.map_toArray, List.map_cons, List.map_nil]); first | done | rfl | (simp only [List.length_drop, List.length_take]; rfl)) ?_; (with_reducible refine (quote_Put.calls k1 _ _ x6_1 t350 t351 _ ?side1 ?side2 ?side3 A19.out).mono ?_); (case side1 => exact Gl.below HG.out (by repeat (first | (with_reducible first | exact HB.out | apply below_alloc | apply pw_below_drewN | apply below_drew1 | refine below_set ?_ GE337.out) | exact HB.out))); (case side2 => repeat (first | exact (Kd.R_reads' HO_6.out).2.2 | (with_reducible refine Kd.C_alloc ?_ _) | (with_reducible refine Kd.C_drewN ?_ _) | (with_reducible refine Kd.C_drew ?_))); (case side3 => exact (Kd.R_reads' HO_6.out).2.1); rintro e w22 ⟨v352, rfl, ho0, hb⟩; refine ⟨_, rfl, ?_⟩; have n0_ := Aside0.mk (Kd.R_elder' (by (with_reducible repeat (first | apply Kd.R_alloc | apply Kd.R_drewN | apply Kd.R_drew)); exact HO_6.out) (Kd.R_base ho0) hb); have n1_ := Aside0.mk (Kd.R_lower (Kd.R_new' ho0 (Kd.R_lt (by (with_reducible repeat (first | apply Kd.R_alloc | apply Kd.R_drewN | apply Kd.R_drew)); exact HO_6.out))) (below_size (by repeat (first | (with_reducible first | exact HB.out | apply below_alloc | apply pw_below_drewN | apply below_drew1 | refine below_set ?_ GE337.out) | exact HB.out)))); have n2_ := Aside0.mk (blk_below (g := gb337) (o := .cells #[.int .u8 a1_0, .int .u8 a1_1, .int .u8 a1_2] 32 (0, 0)) (by (with_reducible repeat (first | refine blk_drewN ?_ _ | refine blk_drew ?_ | refine blk_alloc ?_ _)); exact BK337.out) hb); have n3_ := Aside0.mk (below_step (by repeat (first | (with_reducible first | exact HB.out | apply below_alloc | apply pw_below_drewN | apply below_drew1 | refine below_set ?_ GE337.out) | exact HB.out)) hb); clear HO_6; clear BK337; clear HB; have HO_6 := n0_; have HO353 := n1_; have BK337 := n2_; have HB := n3_; clear n0_ n1_ n2_ n3_; (try clear hb); (try clear hb2); (try clear hk); (try clear hi); (try clear ho0)) | ((with_reducible refine gate_dst (N := 11) rfl ?_); (try (refine gate_guard (by rfl) ?_; dsimp only)); refine box_event ?hg (N := 11) ?hd (cs := #[.int .u8 0, .int .u8 0, .int .u8 0]) (t := 32) ?hr ?_; (case hd => rfl); (case hg => rfl); (case hr => first | (go_simp; done) | (go_simp; rfl)); intro gb354 hg w23 hbox hb; have n0_ := Aside0.mk (Kd.R_below (by (with_reducible repeat (first | apply Kd.R_alloc | apply Kd.R_drewN | apply Kd.R_drew)); exact HO_6.out) hb); have n1_ := Aside0.mk (Kd.R_below (by (with_reducible repeat (first | apply Kd.R_alloc | apply Kd.R_drewN | apply Kd.R_drew)); exact HO353.out) hb); have n2_ := Aside0.mk (blk_below (g := gb337) (o := .cells #[.int .u8 a1_0, .int .u8 a1_1, .int .u8 a1_2] 32 (0, 0)) (by (with_reducible repeat (first | refine blk_drewN ?_ _ | refine blk_drew ?_ | refine blk_alloc ?_ _)); exact BK337.out) hb); have n3_ := Aside0.mk (below_step (by repeat (first | (with_reducible first | exact HB.out | apply below_alloc | apply pw_below_drewN | apply below_drew1 | refine below_set ?_ GE337.out) | exact HB.out)) hb); have n4_ := Aside0.mk (hbox); have n5_ := Aside0.mk ((by rw [hg]; exact (below_size (by repeat (first | (with_reducible first | exact HB.out | apply below_alloc | apply pw_below_drewN | apply below_drew1 | refine below_set ?_ GE337.out) | exact HB.out))) : w.heap.size ≤ gb354)); have n6_ := Aside0.mk ((by rw [hg]; exact (below_size (by repeat (first | (with_reducible first | exact HB.out | apply below_alloc | apply pw_below_drewN | apply below_drew1 | refine below_set ?_ GE337.out) | exact HB.out))) : w.heap.size ≤ gb354)); have n7_ := Aside0.mk ((by rw [hg]; exact Nat.ne_of_lt (blk_lt (g := gb337) (o := .cells #[.int .u8 a1_0, .int .u8 a1_1, .int .u8 a1_2] 32 (0, 0)) (by (with_reducible repeat (first | refine blk_drewN ?_ _ | refine blk_drew ?_ | refine blk_alloc ?_ _)); exact BK337.out)) : gb337 ≠ gb354)); have n8_ := Aside0.mk ((by rw [hg]; exact Nat.ne_of_gt (blk_lt (g := gb337) (o := .cells #[.int .u8 a1_0, .int .u8 a1_1, .int .u8 a1_2] 32 (0, 0)) (by (with_reducible repeat (first | refine blk_drewN ?_ _ | refine blk_drew ?_ | refine blk_alloc ?_ _)); exact BK337.out)) : gb354 ≠ gb337)); clear HO_6; clear HO353; clear BK337; clear HB; have HO_6 := n0_; have HO353 := n1_; have BK337 := n2_; have HB := n3_; have BK354 := n4_; have GW354 := n5_; have GE354 := n6_; have NB337_354 := n7_; have NB354_337 := n8_; clear n0_ n1_ n2_ n3_ n4_ n5_ n6_ n7_ n8_; clear hb hbox hg; have hnb24 := NB354_337.out; have hnc24 := NB337_354.out; have hcz25_0 : w23.cell? ⟨gb354, 0, none⟩ = some (.int .u8 0) := (blk_cell BK354.out 0).trans rfl; have hcz25_1 : w23.cell? ⟨gb354, 1, none⟩ = some (.int .u8 0) := (blk_cell BK354.out 1).trans rfl; have hcz25_2 : w23.cell? ⟨gb354, 2, none⟩ = some (.int .u8 0) := (blk_cell BK354.out 2).trans rfl; have hfz25_0 := blk_frozen BK354.out 0; have hfz25_1 := blk_frozen BK354.out 1; have hfz25_2 := blk_frozen BK354.out 2) | ((with_reducible refine gate_dst (N := 46) rfl ?_); (try (refine gate_guard (by rfl) ?_; dsimp only)); refine Kd.R_lit (Kd.int .u8) _ 5 ?hg (N := 46) ?hd (xs := ([] : List Int)) (inner := []) (ok := fun _ => True) (okp := fun _ => True) ?hr ?hp (fun _ hk => hk) trivial (Below.refl _ _) (Nat.le_refl _) (by simp) ?_; (case hd => rfl); (case hg => rfl); (case hr => first | (go_simp; done) | (go_simp; rfl)); (case hp => exact (Reps.none _ _)); intro v356 w26 ho27 hb hg_ hnew_; clear hg_ hnew_; (first | rw [← Ny355.out] at ho27 | (simp only [Int.reduceToNat] at ho27; rw [← Ny355.out] at ho27)); have n0_ := Aside0.mk (Kd.R_elder' (by (with_reducible repeat (first | apply Kd.R_alloc | apply Kd.R_drewN | apply Kd.R_drew)); exact (Kd.R_mono (Kd.R_far (p := ⟨gb354, 2, none⟩) (Kd.R_far (p := ⟨gb354, 1, none⟩) (Kd.R_far (p := ⟨gb354, 0, none⟩) (Kd.R_types HO_6.out BK354.out (by decide)) (fun _ hk => hk.2) (.int .u8 39)) (fun _ hk => hk.2) (.int .u8 92)) (fun _ hk => hk.2) (.int .u8 10)) (fun _ h_ => h_.1))) (Kd.R_base ho27) hb); have n1_ := Aside0.mk (Kd.R_elder' (by (with_reducible repeat (first | apply Kd.R_alloc | apply Kd.R_drewN | apply Kd.R_drew)); exact (Kd.R_mono (Kd.R_far (p := ⟨gb354, 2, none⟩) (Kd.R_far (p := ⟨gb354, 1, none⟩) (Kd.R_far (p := ⟨gb354, 0, none⟩) (Kd.R_types HO353.out BK354.out (by decide)) (fun _ hk => hk.2) (.int .u8 39)) (fun _ hk => hk.2) (.int .u8 92)) (fun _ hk => hk.2) (.int .u8 10)) (fun _ h_ => h_.1))) (Kd.R_base ho27) hb); have n2_ := Aside0.mk (Kd.R_lower (Kd.R_new' (Kd.R_new' ho27 (Kd.R_lt (by (with_reducible repeat (first | apply Kd.R_alloc | apply Kd.R_drewN | apply Kd.R_drew)); exact (Kd.R_mono (Kd.R_far (p := ⟨gb354, 2, none⟩) (Kd.R_far (p := ⟨gb354, 1, none⟩) (Kd.R_far (p := ⟨gb354, 0, none⟩) (Kd.R_types HO_6.out BK354.out (by decide)) (fun _ hk => hk.2) (.int .u8 39)) (fun _ hk => hk.2) (.int .u8 92)) (fun _ hk => hk.2) (.int .u8 10)) (fun _ h_ => h_.1))))) (Kd.R_lt (by (with_reducible repeat (first | apply Kd.R_alloc | apply Kd.R_drewN | apply Kd.R_drew)); exact (Kd.R_mono (Kd.R_far (p := ⟨gb354, 2, none⟩) (Kd.R_far (p := ⟨gb354, 1, none⟩) (Kd.R_far (p := ⟨gb354, 0, none⟩) (Kd.R_types HO353.out BK354.out (by decide)) (fun _ hk => hk.2) (.int .u8 39)) (fun _ hk => hk.2) (.int .u8 92)) (fun _ hk => hk.2) (.int .u8 10)) (fun _ h_ => h_.1))))) (below_size (by repeat (first | (with_reducible first | exact HB.out | apply below_alloc | apply pw_below_drewN | apply below_drew1 | refine below_set ?_ GE337.out | refine below_set ?_ GE354.out) | exact HB.out)))); have n3_ := Aside0.mk (blk_below (g := gb337) (o := .cells #[.int .u8 a1_0, .int .u8 a1_1, .int .u8 a1_2] 32 (0, 0)) (by (with_reducible repeat (first | refine blk_drewN ?_ _ | refine blk_drew ?_ | refine blk_alloc ?_ _)); refine blk_far ?_ NB337_354.out _; (with_reducible repeat (first | refine blk_drewN ?_ _ | refine blk_drew ?_ | refine blk_alloc ?_ _)); refine blk_far ?_ NB337_354.out _; (with_reducible repeat (first | refine blk_drewN ?_ _ | refine blk_drew ?_ | refine blk_alloc ?_ _)); refine blk_far ?_ NB337_354.out _; (with_reducible repeat (first | refine blk_drewN ?_ _ | refine blk_drew ?_ | refine blk_alloc ?_ _)); exact BK337.out) hb); have n4_ := Aside0.mk (blk_below (g := gb354) (o := .cells #[.int .u8 39, .int .u8 92, .int .u8 10] 32 (0, 0)) (by (with_reducible repeat (first | refine blk_drewN ?_ _ | refine blk_drew ?_ | refine blk_alloc ?_ _)); refine blk_put (cs := #[.int .u8 39, .int .u8 92, .int .u8 0]) ?_ 2 _ rfl; (with_reducible repeat (first | refine blk_drewN ?_ _ | refine blk_drew ?_ | refine blk_alloc ?_ _)); refine blk_put (cs := #[.int .u8 39, .int .u8 0, .int .u8 0]) ?_ 1 _ rfl; (with_reducible repeat (first | refine blk_drewN ?_ _ | refine blk_drew ?_ | refine blk_alloc ?_ _)); refine blk_put (cs := #[.int .u8 0, .int .u8 0, .int .u8 0]) ?_ 0 _ rfl; (with_reducible repeat (first | refine blk_drewN ?_ _ | refine blk_drew ?_ | refine blk_alloc ?_ _)); exact BK354.out) hb); have n5_ := Aside0.mk (below_step (by repeat (first | (with_reducible first | exact HB.out | apply below_alloc | apply pw_below_drewN | apply below_drew1 | refine below_set ?_ GE337.out | refine below_set ?_ GE354.out) | exact HB.out)) hb); clear HO_6; clear HO353; clear BK337; clear BK354; clear HB; have HO_6 := n0_; have HO353 := n1_; have HO357 := n2_; have BK337 := n3_; have BK354 := n4_; have HB := n5_; clear n0_ n1_ n2_ n3_ n4_ n5_; clear hb ho27) | ((with_reducible refine gate_builtin (b := .append) (xs := #[.tmp 46, .tmp 47]) rfl ?_); (try (refine gate_guard (by rfl) ?_; dsimp only)); at_builtin; refine Kd.R_append_rows (Kd.int .u8) (w0 := w) w.heap.size rfl (.tmp 46) (.tmp 47) 22 5 (.int .u8 0) 1 rfl Tryd.underlying22 info5 rfl (by decide) (by omega) v356 y355 x6_1 _ _ _ (fun k_ => some k_ ≠ (.slice Ao21 x6_1.length co21 : Value).ownBlock ∧ some k_ ≠ (v352 : Value).ownBlock) (fun _ => False) rfl rfl ?aO ?aR (fun _ _ h => h) (fun _ h => h.elim) ?aF ?aB ?aS ?aL ?_; (case aR => repeat (first | exact (Kd.R_reads' HO_6.out).2.2 | (with_reducible refine Kd.C_alloc ?_ _) | (with_reducible refine Kd.C_drewN ?_ _) | (with_reducible refine Kd.C_drew ?_))); (case aB => exact (by repeat (first | (with_reducible first | exact HB.out | apply below_alloc | apply pw_below_drewN | apply below_drew1 | refine below_set ?_ GE337.out | refine below_set ?_ GE354.out) | exact HB.out))); (case aF => exact (fun k_ hk => ⟨Kd.fresh' (Kd.R_lt (by (with_reducible repeat (first | apply Kd.R_alloc | apply Kd.R_drewN | apply Kd.R_drew)); exact HO_6.out)) k_ hk, Kd.fresh' (Kd.R_lt (by (with_reducible repeat (first | apply Kd.R_alloc | apply Kd.R_drewN | apply Kd.R_drew)); exact HO353.out)) k_ hk⟩)); (case aO => exact (by (with_reducible repeat (first | apply Kd.R_alloc | apply Kd.R_drewN | apply Kd.R_drew)); exact Kd.R_mono HO357.out (fun _ hk => ⟨hk.1.2, hk.2⟩))); (case aS => exact (below_size (by repeat (first | (with_reducible first | exact HB.out | apply below_alloc | apply pw_below_drewN | apply below_drew1 | refine below_set ?_ GE337.out | refine below_set ?_ GE354.out) | exact HB.out)))); (case aL => have := LMc20.out; omega); intro v359 w28 ho hb hg hat; rw [← Ny358.out] at ho; have n0_ := Aside0.mk (Kd.R_after (ok := (fun k_ => some k_ ≠ (v352 : Value).ownBlock)) (by (with_reducible repeat (first | apply Kd.R_alloc | apply Kd.R_drewN | apply Kd.R_drew)); exact Kd.R_mono HO_6.out (fun _ hk => ⟨hk.1.2, hk.2⟩)) hg hat); have n1_ := Aside0.mk (blk_grown (g := gb337) (o := .cells #[.int .u8 a1_0, .int .u8 a1_1, .int .u8 a1_2] 32 (0, 0)) (by (with_reducible repeat (first | refine blk_drewN ?_ _ | refine blk_drew ?_ | refine blk_alloc ?_ _)); exact BK337.out) hg (Kd.R_ne HO357.out BK337.out (by decide))); have n2_ := Aside0.mk (Kd.R_after (ok := (fun k_ => some k_ ≠ (.slice Ao21 x6_1.length co21 : Value).ownBlock)) (by (with_reducible repeat (first | apply Kd.R_alloc | apply Kd.R_drewN | apply Kd.R_drew)); exact Kd.R_mono HO353.out (fun _ hk => ⟨hk.1.2, hk.2⟩)) hg hat); have n3_ := Aside0.mk (blk_grown (g := gb354) (o := .cells #[.int .u8 39, .int .u8 92, .int .u8 10] 32 (0, 0)) (by (with_reducible repeat (first | refine blk_drewN ?_ _ | refine blk_drew ?_ | refine blk_alloc ?_ _)); exact BK354.out) hg (Kd.R_ne HO357.out BK354.out (by decide))); have n4_ := Aside0.mk (hb); have n5_ := Aside0.mk (ho); clear HO_6; clear BK337; clear HO353; clear BK354; clear HB; clear HO357; have HO_6 := n0_; have BK337 := n1_; have HO353 := n2_; have BK354 := n3_; have HB := n4_; have HO360 := n5_; clear n0_ n1_ n2_ n3_ n4_ n5_; clear ho hb hg hat))
      go_loopg [10, 12, 13] k1 (fun kq v10 v12 v13 w' => ∃ (x10_2 : Int) (x12_2 : List Int) (x13_2 : Int), v10 = .int .i64 x10_2 ∧ v13 = .int .i64 x13_2 ∧ Aside0 (tmesislaw04_QuotePlain.l1 kq t338 x6_1 t350 t351 x10_2 x12_2 x13_2 a1_0 a1_1 a1_2 39 92 10 = some r) ∧ Aside0 (kq ≤ k1) ∧ Aside0 (Kd.R (Kd.int .u8) 5 w' w.heap.size (fun k_ => some k_ ≠ (v352 : Value).ownBlock ∧ some k_ ≠ (v12 : Value).ownBlock) (.slice Ao21 x6_1.length co21) x6_1) ∧ Aside0 (Kd.R (Kd.int .u8) 5 w' w.heap.size (fun k_ => some k_ ≠ ((.slice Ao21 x6_1.length co21) : Value).ownBlock ∧ some k_ ≠ (v12 : Value).ownBlock) v352 t350) ∧ Aside0 (Kd.R (Kd.int .u8) 5 w' w.heap.size (fun k_ => some k_ ≠ ((.slice Ao21 x6_1.length co21) : Value).ownBlock ∧ some k_ ≠ (v352 : Value).ownBlock) v12 x12_2) ∧ Aside0 (w'.heap[gb337]? = some (.cells #[.int .u8 a1_0, .int .u8 a1_1, .int .u8 a1_2] 32 (0, 0))) ∧ Aside0 (w'.heap[gb354]? = some (.cells #[.int .u8 39, .int .u8 92, .int .u8 10] 32 (0, 0))) ∧ Aside0 (Below w.heap.size w w'))
      case atStart => exact ⟨(0), (y358), (0), (by first | rfl | (simp; done) | (simp [*]; done)), (by first | rfl | (simp; done) | (simp [*]; done)), H', ⟨Nat.le_refl _⟩, ⟨by (with_reducible repeat (first | apply Kd.R_alloc | apply Kd.R_drewN | apply Kd.R_drew)); exact HO_6.out⟩, ⟨by (with_reducible repeat (first | apply Kd.R_alloc | apply Kd.R_drewN | apply Kd.R_drew)); exact HO353.out⟩, ⟨by (with_reducible repeat (first | apply Kd.R_alloc | apply Kd.R_drewN | apply Kd.R_drew)); exact HO360.out⟩, ⟨by (with_reducible repeat (first | refine blk_drewN ?_ _ | refine blk_drew ?_ | refine blk_alloc ?_ _)); exact BK337.out⟩, ⟨by (with_reducible repeat (first | refine blk_drewN ?_ _ | refine blk_drew ?_ | refine blk_alloc ?_ _)); exact BK354.out⟩, ⟨by repeat (first | (with_reducible first | exact HB.out | apply below_alloc | apply pw_below_drewN | apply below_drew1 | refine below_set ?_ GE337.out | refine below_set ?_ GE354.out) | exact HB.out)⟩⟩
      case round =>
       clear H'
       try clear c1
       try clear p1
       try clear q1
       try clear hx1
       try clear c2
       try clear p2
       try clear p3
       try clear q3
       try clear hx3
       try clear c5
       try clear p6
       try clear c8
       try clear c10
       try clear c12
       try clear c13
       try clear c13b0
       try clear c14
       try clear c14b0
       try clear p15
       try clear q15
       try clear hx15
       try clear hf15
       try clear c20
       try clear c24
       try clear hcz25_0
       try clear hcz25_1
       try clear hcz25_2
       try clear hfz25_0
       try clear hfz25_1
       try clear hfz25_2
       try clear hx15_0
       try clear hx348_0
       try clear p15
       try clear p2
       try clear p348
       try clear q15
       try clear q348
       obtain ⟨x10_2, x12_2, x13_2, rfl, rfl, HA, HK2, HO_6, HO_8, HO_12, BK337, BK354, HB⟩ := hrel
       cases gk with
       | zero => exact absurd HA.out (by simp [tmesislaw04_QuotePlain.l1])
       | succ k2 =>
        have H := HA.out
        clear HA
        simp only [tmesislaw04_QuotePlain.l1] at H
        by_cases c29 : x13_2 < 3
        ·rw [if_pos c29] at H
         have c29b0 : decide (x13_2 < 3) = true := decide_eq_true c29
         clear c29
         have HC30 := Aside0.mk H
         clear H
         go_upto_block 3 with (fail)
         go_cut [10, 12] (fun v10 v12 wc => ∃ (kq : Nat) (x10_29 : Int) (x12_29 : List Int), v10 = .int .i64 x10_29 ∧ Aside0 (tmesislaw04_QuotePlain.j3 kq t338 x6_1 t350 t351 x10_29 x12_29 x13_2 a1_0 a1_1 a1_2 39 92 10 = some r) ∧ Aside0 (kq ≤ k2) ∧ Aside0 (Kd.R (Kd.int .u8) 5 wc w.heap.size (fun k_ => some k_ ≠ (v352 : Value).ownBlock ∧ some k_ ≠ (v12 : Value).ownBlock) (.slice Ao21 x6_1.length co21) x6_1) ∧ Aside0 (Kd.R (Kd.int .u8) 5 wc w.heap.size (fun k_ => some k_ ≠ ((.slice Ao21 x6_1.length co21) : Value).ownBlock ∧ some k_ ≠ (v12 : Value).ownBlock) v352 t350) ∧ Aside0 (Kd.R (Kd.int .u8) 5 wc w.heap.size (fun k_ => some k_ ≠ ((.slice Ao21 x6_1.length co21) : Value).ownBlock ∧ some k_ ≠ (v352 : Value).ownBlock) v12 x12_29) ∧ Aside0 (wc.heap[gb337]? = some (.cells #[.int .u8 a1_0, .int .u8 a1_1, .int .u8 a1_2] 32 (0, 0))) ∧ Aside0 (wc.heap[gb354]? = some (.cells #[.int .u8 39, .int .u8 92, .int .u8 10] 32 (0, 0))) ∧ Aside0 (Below w.heap.size w wc))
         case first =>
          have H := HC30.out
          clear HC30
          have H' := Aside0.mk H
          clear H
          go_wp2
          go_loopg [10, 12, 14] k2 (fun kq v10 v12 v14 w' => ∃ (x10_3 : Int) (x12_3 : List Int) (x14_3 : Int), v10 = .int .i64 x10_3 ∧ v14 = .int .i64 x14_3 ∧ Aside0 (tmesislaw04_QuotePlain.l2 kq t338 x6_1 t350 t351 x10_3 x12_3 x13_2 x14_3 a1_0 a1_1 a1_2 39 92 10 = some r) ∧ Aside0 (kq ≤ k2) ∧ Aside0 (Kd.R (Kd.int .u8) 5 w' w.heap.size (fun k_ => some k_ ≠ (v352 : Value).ownBlock ∧ some k_ ≠ (v12 : Value).ownBlock) (.slice Ao21 x6_1.length co21) x6_1) ∧ Aside0 (Kd.R (Kd.int .u8) 5 w' w.heap.size (fun k_ => some k_ ≠ ((.slice Ao21 x6_1.length co21) : Value).ownBlock ∧ some k_ ≠ (v12 : Value).ownBlock) v352 t350) ∧ Aside0 (Kd.R (Kd.int .u8) 5 w' w.heap.size (fun k_ => some k_ ≠ ((.slice Ao21 x6_1.length co21) : Value).ownBlock ∧ some k_ ≠ (v352 : Value).ownBlock) v12 x12_3) ∧ Aside0 (w'.heap[gb337]? = some (.cells #[.int .u8 a1_0, .int .u8 a1_1, .int .u8 a1_2] 32 (0, 0))) ∧ Aside0 (w'.heap[gb354]? = some (.cells #[.int .u8 39, .int .u8 92, .int .u8 10] 32 (0, 0))) ∧ Aside0 (Below w.heap.size w w'))
          case atStart => exact ⟨(x10_2), (x12_2), (0), (by first | rfl | (simp; done) | (simp [*]; done)), (by first | rfl | (simp; done) | (simp [*]; done)), H', ⟨Nat.le_refl _⟩, ⟨by (with_reducible repeat (first | apply Kd.R_alloc | apply Kd.R_drewN | apply Kd.R_drew)); exact HO_6.out⟩, ⟨by (with_reducible repeat (first | apply Kd.R_alloc | apply Kd.R_drewN | apply Kd.R_drew)); exact HO_8.out⟩, ⟨by (with_reducible repeat (first | apply Kd.R_alloc | apply Kd.R_drewN | apply Kd.R_drew)); exact HO_12.out⟩, ⟨by (with_reducible repeat (first | refine blk_drewN ?_ _ | refine blk_drew ?_ | refine blk_alloc ?_ _)); exact BK337.out⟩, ⟨by (with_reducible repeat (first | refine blk_drewN ?_ _ | refine blk_drew ?_ | refine blk_alloc ?_ _)); exact BK354.out⟩, ⟨by repeat (first | (with_reducible first | exact HB.out | apply below_alloc | apply pw_below_drewN | apply below_drew1 | refine below_set ?_ GE337.out | refine below_set ?_ GE354.out) | exact HB.out)⟩⟩
          case round =>
           clear H'
           try clear c1
           try clear p1
           try clear q1
           try clear hx1
           try clear c2
           try clear p2
           try clear p3
           try clear q3
           try clear hx3
           try clear c5
           try clear p6
           try clear c8
           try clear c10
           try clear c12
           try clear c13
           try clear c13b0
           try clear c14
           try clear c14b0
           try clear p15
           try clear q15
           try clear hx15
           try clear hf15
           try clear c20
           try clear c24
           try clear c29
           try clear c29b0
           try clear hcz25_0
           try clear hcz25_1
           try clear hcz25_2
           try clear hfz25_0
           try clear hfz25_1
           try clear hfz25_2
           try clear hx15_0
           try clear hx348_0
           try clear p1
           try clear p15
           try clear p2
           try clear p3
           try clear p348
           try clear p6
           try clear q1
           try clear q15
           try clear q3
           try clear q348
           obtain ⟨x10_3, x12_3, x14_3, rfl, rfl, HA, HK3, HO_6, HO_8, HO_12, BK337, BK354, HB⟩ := hrel
           cases gk with
           | zero => exact absurd HA.out (by simp [tmesislaw04_QuotePlain.l2])
           | succ k3 =>
            have H := HA.out
            clear HA
            simp only [tmesislaw04_QuotePlain.l2] at H
            by_cases c31 : x13_2 = 0
            ·rw [if_pos c31] at H
             have c31b0 : (x13_2 == 0) = true := beq_iff_eq.mpr c31
             have c31b1 : (x13_2 != 0) = false := bne_eq_false_iff_eq.mpr c31
             have hixc31 : x13_2 = 0 := c31
             clear c31
             subst hixc31
             (first | rw [c31b0] | (simp only [i64_w, i32_w]; rw [c31b0]) | skip)
             by_cases c32 : x14_3 < (Int.tmod (wrap64 (a1_0)) 16)
             ·rw [if_pos c32] at H
              have c32b0 : decide (x14_3 < (Int.tmod (wrap64 (a1_0)) 16)) = true := decide_eq_true c32
              clear c32
              by_cases c33 : x12_3.length < 140737488355328
              ·rw [if_pos c33] at H
               have LMc33 := Aside0.mk c33
               clear c33
               obtain ⟨y361, hy361⟩ : ∃ y_ : List Int, y_ = (x12_3 ++ [39]) := ⟨_, rfl⟩
               replace H : (tmesislaw04_QuotePlain.l2 k3 t338 x6_1 t350 t351 (wrap64 (x10_3 + 1)) y361 0 (wrap64 (x14_3 + 1)) a1_0 a1_1 a1_2 39 92 10) = some r := by first | (rw [hy361]; with_reducible exact H) | (have H2_ := (Option.bind_some _ _).symm.trans H; rw [hy361]; with_reducible exact H2_) | (have H2_ := (Option.bind_some _ _).symm.trans H; with_reducible exact H2_) | with_reducible exact H | (rw [hy361]; exact H) | exact H
               have Ny361 := Aside0.mk hy361
               clear hy361
               have H' := Aside0.mk H
               clear H
               have hnb34 := NB337_354.out
               have hnc34 := NB354_337.out
               have hcz35_0 : wr.cell? ⟨gb337, 0, none⟩ = some (.int .u8 a1_0) := (blk_cell BK337.out 0).trans rfl
               have hcz35_1 : wr.cell? ⟨gb337, 1, none⟩ = some (.int .u8 a1_1) := (blk_cell BK337.out 1).trans rfl
               have hcz35_2 : wr.cell? ⟨gb337, 2, none⟩ = some (.int .u8 a1_2) := (blk_cell BK337.out 2).trans rfl
               have hfz35_0 := blk_frozen BK337.out 0
               have hfz35_1 := blk_frozen BK337.out 1
               have hfz35_2 := blk_frozen BK337.out 2
               have hcz36_0 : wr.cell? ⟨gb354, 0, none⟩ = some (.int .u8 39) := (blk_cell BK354.out 0).trans rfl
               have hcz36_1 : wr.cell? ⟨gb354, 1, none⟩ = some (.int .u8 92) := (blk_cell BK354.out 1).trans rfl
               have hcz36_2 : wr.cell? ⟨gb354, 2, none⟩ = some (.int .u8 10) := (blk_cell BK354.out 2).trans rfl
               have hfz36_0 := blk_frozen BK354.out 0
               have hfz36_1 := blk_frozen BK354.out 1
               have hfz36_2 := blk_frozen BK354.out 2
               go_wp2_with (first | ((with_reducible refine gate_builtin (b := .append) (xs := #[.tmp 62, .tmp 66]) rfl ?_); (try (refine gate_guard (by rfl) ?_; dsimp only)); at_builtin; refine Kd.R_append (Kd.int .u8) (w0 := w) w.heap.size rfl (.tmp 62) (.tmp 66) 22 5 (.int .u8 0) 1 rfl Tryd.underlying22 info5 rfl (by decide) (by omega) u12 x12_3 39 [.int .u8 39] (fun k_ => some k_ ≠ (.slice Ao21 x6_1.length co21 : Value).ownBlock ∧ some k_ ≠ (v352 : Value).ownBlock) (fun _ => False) rfl rfl ?aP (fun _ hk => hk.elim) ?aF ?aO ?aB ?aS ?aL ?_; (case aP => exact rfl); (case aB => exact (by repeat (first | (with_reducible first | exact HB.out | apply below_alloc | apply pw_below_drewN | apply below_drew1 | refine below_set ?_ GE337.out | refine below_set ?_ GE354.out) | exact HB.out))); (case aF => exact (fun k_ hk => ⟨Kd.fresh' (Kd.R_lt (by (with_reducible repeat (first | apply Kd.R_alloc | apply Kd.R_drewN | apply Kd.R_drew)); exact HO_6.out)) k_ hk, Kd.fresh' (Kd.R_lt (by (with_reducible repeat (first | apply Kd.R_alloc | apply Kd.R_drewN | apply Kd.R_drew)); exact HO_8.out)) k_ hk⟩)); (case aO => exact (by (with_reducible repeat (first | apply Kd.R_alloc | apply Kd.R_drewN | apply Kd.R_drew)); exact HO_12.out)); (case aS => exact (below_size (by repeat (first | (with_reducible first | exact HB.out | apply below_alloc | apply pw_below_drewN | apply below_drew1 | refine below_set ?_ GE337.out | refine below_set ?_ GE354.out) | exact HB.out)))); (case aL => have := LMc33.out; omega); intro v362 w37 ho hb hg hat; rw [← Ny361.out] at ho; have n0_ := Aside0.mk (Kd.R_after (ok := (fun k_ => some k_ ≠ (v352 : Value).ownBlock)) (by (with_reducible repeat (first | apply Kd.R_alloc | apply Kd.R_drewN | apply Kd.R_drew)); exact HO_6.out) hg hat); have n1_ := Aside0.mk (Kd.R_after (ok := (fun k_ => some k_ ≠ (.slice Ao21 x6_1.length co21 : Value).ownBlock)) (by (with_reducible repeat (first | apply Kd.R_alloc | apply Kd.R_drewN | apply Kd.R_drew)); exact HO_8.out) hg hat); have n2_ := Aside0.mk (blk_grown (g := gb337) (o := .cells #[.int .u8 a1_0, .int .u8 a1_1, .int .u8 a1_2] 32 (0, 0)) (by (with_reducible repeat (first | refine blk_drewN ?_ _ | refine blk_drew ?_ | refine blk_alloc ?_ _)); exact BK337.out) hg (Kd.R_ne HO_12.out BK337.out (by decide))); have n3_ := Aside0.mk (blk_grown (g := gb354) (o := .cells #[.int .u8 39, .int .u8 92, .int .u8 10] 32 (0, 0)) (by (with_reducible repeat (first | refine blk_drewN ?_ _ | refine blk_drew ?_ | refine blk_alloc ?_ _)); exact BK354.out) hg (Kd.R_ne HO_12.out BK354.out (by decide))); have n4_ := Aside0.mk (hb); have n5_ := Aside0.mk (ho); clear HO_6; clear HO_8; clear BK337; clear BK354; clear HB; clear HO_12; have HO_6 := n0_; have HO_8 := n1_; have BK337 := n2_; have BK354 := n3_; have HB := n4_; have HO363 := n5_; clear n0_ n1_ n2_ n3_ n4_ n5_; clear ho hb hg hat))
               go_roundg k3
               case measure => have := HK1.out; have := HK2.out; have := HK3.out; omega
               case rel => exact ⟨(wrap64 (x10_3 + 1)), (y361), (wrap64 (x14_3 + 1)), (by first | rfl | (simp; done) | (simp [*]; done)), (by first | rfl | (simp; done) | (simp [*]; done)), H', ⟨by have := HK1.out; have := HK2.out; have := HK3.out; omega⟩, ⟨by (with_reducible repeat (first | apply Kd.R_alloc | apply Kd.R_drewN | apply Kd.R_drew)); exact HO_6.out⟩, ⟨by (with_reducible repeat (first | apply Kd.R_alloc | apply Kd.R_drewN | apply Kd.R_drew)); exact HO_8.out⟩, ⟨by (with_reducible repeat (first | apply Kd.R_alloc | apply Kd.R_drewN | apply Kd.R_drew)); exact HO363.out⟩, ⟨by (with_reducible repeat (first | refine blk_drewN ?_ _ | refine blk_drew ?_ | refine blk_alloc ?_ _)); exact BK337.out⟩, ⟨by (with_reducible repeat (first | refine blk_drewN ?_ _ | refine blk_drew ?_ | refine blk_alloc ?_ _)); exact BK354.out⟩, ⟨by repeat (first | (with_reducible first | exact HB.out | apply below_alloc | apply pw_below_drewN | apply below_drew1 | refine below_set ?_ GE337.out | refine below_set ?_ GE354.out) | exact HB.out)⟩⟩
              ·rw [if_neg c33] at H
               exact absurd H (by simp)
             ·rw [if_neg c32] at H
              have c32b0 : decide (x14_3 < (Int.tmod (wrap64 (a1_0)) 16)) = false := decide_eq_false c32
              clear c32
              have H' := Aside0.mk H
              clear H
              have hnb38 := NB337_354.out
              have hnc38 := NB354_337.out
              have hcz39_0 : wr.cell? ⟨gb337, 0, none⟩ = some (.int .u8 a1_0) := (blk_cell BK337.out 0).trans rfl
              have hcz39_1 : wr.cell? ⟨gb337, 1, none⟩ = some (.int .u8 a1_1) := (blk_cell BK337.out 1).trans rfl
              have hcz39_2 : wr.cell? ⟨gb337, 2, none⟩ = some (.int .u8 a1_2) := (blk_cell BK337.out 2).trans rfl
              have hfz39_0 := blk_frozen BK337.out 0
              have hfz39_1 := blk_frozen BK337.out 1
              have hfz39_2 := blk_frozen BK337.out 2
              go_wp2
              go_meet
              case rel => exact ⟨_, (x10_3), (x12_3), (by first | rfl | (simp; done) | (simp [*]; done)), H', ⟨by have := HK1.out; have := HK2.out; have := HK3.out; first | omega | exact Nat.le_refl _⟩, ⟨by (with_reducible repeat (first | apply Kd.R_alloc | apply Kd.R_drewN | apply Kd.R_drew)); exact HO_6.out⟩, ⟨by (with_reducible repeat (first | apply Kd.R_alloc | apply Kd.R_drewN | apply Kd.R_drew)); exact HO_8.out⟩, ⟨by (with_reducible repeat (first | apply Kd.R_alloc | apply Kd.R_drewN | apply Kd.R_drew)); exact HO_12.out⟩, ⟨by (with_reducible repeat (first | refine blk_drewN ?_ _ | refine blk_drew ?_ | refine blk_alloc ?_ _)); exact BK337.out⟩, ⟨by (with_reducible repeat (first | refine blk_drewN ?_ _ | refine blk_drew ?_ | refine blk_alloc ?_ _)); exact BK354.out⟩, ⟨by repeat (first | (with_reducible first | exact HB.out | apply below_alloc | apply pw_below_drewN | apply below_drew1 | refine below_set ?_ GE337.out | refine below_set ?_ GE354.out) | exact HB.out)⟩⟩
            ·rw [if_neg c31] at H
             have c31b0 : (x13_2 == 0) = false := beq_eq_false_iff_ne.mpr c31
             have c31b1 : (x13_2 != 0) = true := bne_iff_ne.mpr c31
             (first | rw [c31b0] | (simp only [i64_w, i32_w]; rw [c31b0]) | skip)
             by_cases c40 : x13_2 = 1
             ·rw [if_pos c40] at H
              have c40b0 : (x13_2 == 1) = true := beq_iff_eq.mpr c40
              have c40b1 : (x13_2 != 1) = false := bne_eq_false_iff_eq.mpr c40
              have hixc40 : x13_2 = 1 := c40
              clear c40
              subst hixc40
              by_cases c41 : x14_3 < (Int.tmod (wrap64 (a1_1)) 16)
              ·rw [if_pos c41] at H
               have c41b0 : decide (x14_3 < (Int.tmod (wrap64 (a1_1)) 16)) = true := decide_eq_true c41
               clear c41
               by_cases c42 : x12_3.length < 140737488355328
               ·rw [if_pos c42] at H
                have LMc42 := Aside0.mk c42
                clear c42
                obtain ⟨y364, hy364⟩ : ∃ y_ : List Int, y_ = (x12_3 ++ [92]) := ⟨_, rfl⟩
                replace H : (tmesislaw04_QuotePlain.l2 k3 t338 x6_1 t350 t351 (wrap64 (x10_3 + 1)) y364 1 (wrap64 (x14_3 + 1)) a1_0 a1_1 a1_2 39 92 10) = some r := by first | (rw [hy364]; with_reducible exact H) | (have H2_ := (Option.bind_some _ _).symm.trans H; rw [hy364]; with_reducible exact H2_) | (have H2_ := (Option.bind_some _ _).symm.trans H; with_reducible exact H2_) | with_reducible exact H | (rw [hy364]; exact H) | exact H
                have Ny364 := Aside0.mk hy364
                clear hy364
                have H' := Aside0.mk H
                clear H
                have hnb43 := NB337_354.out
                have hnc43 := NB354_337.out
                have hcz44_0 : wr.cell? ⟨gb337, 0, none⟩ = some (.int .u8 a1_0) := (blk_cell BK337.out 0).trans rfl
                have hcz44_1 : wr.cell? ⟨gb337, 1, none⟩ = some (.int .u8 a1_1) := (blk_cell BK337.out 1).trans rfl
                have hcz44_2 : wr.cell? ⟨gb337, 2, none⟩ = some (.int .u8 a1_2) := (blk_cell BK337.out 2).trans rfl
                have hfz44_0 := blk_frozen BK337.out 0
                have hfz44_1 := blk_frozen BK337.out 1
                have hfz44_2 := blk_frozen BK337.out 2
                have hcz45_0 : wr.cell? ⟨gb354, 0, none⟩ = some (.int .u8 39) := (blk_cell BK354.out 0).trans rfl
                have hcz45_1 : wr.cell? ⟨gb354, 1, none⟩ = some (.int .u8 92) := (blk_cell BK354.out 1).trans rfl
                have hcz45_2 : wr.cell? ⟨gb354, 2, none⟩ = some (.int .u8 10) := (blk_cell BK354.out 2).trans rfl
                have hfz45_0 := blk_frozen BK354.out 0
                have hfz45_1 := blk_frozen BK354.out 1
                have hfz45_2 := blk_frozen BK354.out 2
                go_wp2_with (first | ((with_reducible refine gate_builtin (b := .append) (xs := #[.tmp 62, .tmp 66]) rfl ?_); (try (refine gate_guard (by rfl) ?_; dsimp only)); at_builtin; refine Kd.R_append (Kd.int .u8) (w0 := w) w.heap.size rfl (.tmp 62) (.tmp 66) 22 5 (.int .u8 0) 1 rfl Tryd.underlying22 info5 rfl (by decide) (by omega) u12 x12_3 92 [.int .u8 92] (fun k_ => some k_ ≠ (.slice Ao21 x6_1.length co21 : Value).ownBlock ∧ some k_ ≠ (v352 : Value).ownBlock) (fun _ => False) rfl rfl ?aP (fun _ hk => hk.elim) ?aF ?aO ?aB ?aS ?aL ?_; (case aP => exact rfl); (case aB => exact (by repeat (first | (with_reducible first | exact HB.out | apply below_alloc | apply pw_below_drewN | apply below_drew1 | refine below_set ?_ GE337.out | refine below_set ?_ GE354.out) | exact HB.out))); (case aF => exact (fun k_ hk => ⟨Kd.fresh' (Kd.R_lt (by (with_reducible repeat (first | apply Kd.R_alloc | apply Kd.R_drewN | apply Kd.R_drew)); exact HO_6.out)) k_ hk, Kd.fresh' (Kd.R_lt (by (with_reducible repeat (first | apply Kd.R_alloc | apply Kd.R_drewN | apply Kd.R_drew)); exact HO_8.out)) k_ hk⟩)); (case aO => exact (by (with_reducible repeat (first | apply Kd.R_alloc | apply Kd.R_drewN | apply Kd.R_drew)); exact HO_12.out)); (case aS => exact (below_size (by repeat (first | (with_reducible first | exact HB.out | apply below_alloc | apply pw_below_drewN | apply below_drew1 | refine below_set ?_ GE337.out | refine below_set ?_ GE354.out) | exact HB.out)))); (case aL => have := LMc42.out; omega); intro v365 w46 ho hb hg hat; rw [← Ny364.out] at ho; have n0_ := Aside0.mk (Kd.R_after (ok := (fun k_ => some k_ ≠ (v352 : Value).ownBlock)) (by (with_reducible repeat (first | apply Kd.R_alloc | apply Kd.R_drewN | apply Kd.R_drew)); exact HO_6.out) hg hat); have n1_ := Aside0.mk (Kd.R_after (ok := (fun k_ => some k_ ≠ (.slice Ao21 x6_1.length co21 : Value).ownBlock)) (by (with_reducible repeat (first | apply Kd.R_alloc | apply Kd.R_drewN | apply Kd.R_drew)); exact HO_8.out) hg hat); have n2_ := Aside0.mk (blk_grown (g := gb337) (o := .cells #[.int .u8 a1_0, .int .u8 a1_1, .int .u8 a1_2] 32 (0, 0)) (by (with_reducible repeat (first | refine blk_drewN ?_ _ | refine blk_drew ?_ | refine blk_alloc ?_ _)); exact BK337.out) hg (Kd.R_ne HO_12.out BK337.out (by decide))); have n3_ := Aside0.mk (blk_grown (g := gb354) (o := .cells #[.int .u8 39, .int .u8 92, .int .u8 10] 32 (0, 0)) (by (with_reducible repeat (first | refine blk_drewN ?_ _ | refine blk_drew ?_ | refine blk_alloc ?_ _)); exact BK354.out) hg (Kd.R_ne HO_12.out BK354.out (by decide))); have n4_ := Aside0.mk (hb); have n5_ := Aside0.mk (ho); clear HO_6; clear HO_8; clear BK337; clear BK354; clear HB; clear HO_12; have HO_6 := n0_; have HO_8 := n1_; have BK337 := n2_; have BK354 := n3_; have HB := n4_; have HO366 := n5_; clear n0_ n1_ n2_ n3_ n4_ n5_; clear ho hb hg hat))
                go_roundg k3
                case measure => have := HK1.out; have := HK2.out; have := HK3.out; omega
                case rel => exact ⟨(wrap64 (x10_3 + 1)), (y364), (wrap64 (x14_3 + 1)), (by first | rfl | (simp; done) | (simp [*]; done)), (by first | rfl | (simp; done) | (simp [*]; done)), H', ⟨by have := HK1.out; have := HK2.out; have := HK3.out; omega⟩, ⟨by (with_reducible repeat (first | apply Kd.R_alloc | apply Kd.R_drewN | apply Kd.R_drew)); exact HO_6.out⟩, ⟨by (with_reducible repeat (first | apply Kd.R_alloc | apply Kd.R_drewN | apply Kd.R_drew)); exact HO_8.out⟩, ⟨by (with_reducible repeat (first | apply Kd.R_alloc | apply Kd.R_drewN | apply Kd.R_drew)); exact HO366.out⟩, ⟨by (with_reducible repeat (first | refine blk_drewN ?_ _ | refine blk_drew ?_ | refine blk_alloc ?_ _)); exact BK337.out⟩, ⟨by (with_reducible repeat (first | refine blk_drewN ?_ _ | refine blk_drew ?_ | refine blk_alloc ?_ _)); exact BK354.out⟩, ⟨by repeat (first | (with_reducible first | exact HB.out | apply below_alloc | apply pw_below_drewN | apply below_drew1 | refine below_set ?_ GE337.out | refine below_set ?_ GE354.out) | exact HB.out)⟩⟩
               ·rw [if_neg c42] at H
                exact absurd H (by simp)
              ·rw [if_neg c41] at H
               have c41b0 : decide (x14_3 < (Int.tmod (wrap64 (a1_1)) 16)) = false := decide_eq_false c41
               clear c41
               have H' := Aside0.mk H
               clear H
               have hnb47 := NB337_354.out
               have hnc47 := NB354_337.out
               have hcz48_0 : wr.cell? ⟨gb337, 0, none⟩ = some (.int .u8 a1_0) := (blk_cell BK337.out 0).trans rfl
               have hcz48_1 : wr.cell? ⟨gb337, 1, none⟩ = some (.int .u8 a1_1) := (blk_cell BK337.out 1).trans rfl
               have hcz48_2 : wr.cell? ⟨gb337, 2, none⟩ = some (.int .u8 a1_2) := (blk_cell BK337.out 2).trans rfl
               have hfz48_0 := blk_frozen BK337.out 0
               have hfz48_1 := blk_frozen BK337.out 1
               have hfz48_2 := blk_frozen BK337.out 2
               go_wp2
               go_meet
               case rel => exact ⟨_, (x10_3), (x12_3), (by first | rfl | (simp; done) | (simp [*]; done)), H', ⟨by have := HK1.out; have := HK2.out; have := HK3.out; first | omega | exact Nat.le_refl _⟩, ⟨by (with_reducible repeat (first | apply Kd.R_alloc | apply Kd.R_drewN | apply Kd.R_drew)); exact HO_6.out⟩, ⟨by (with_reducible repeat (first | apply Kd.R_alloc | apply Kd.R_drewN | apply Kd.R_drew)); exact HO_8.out⟩, ⟨by (with_reducible repeat (first | apply Kd.R_alloc | apply Kd.R_drewN | apply Kd.R_drew)); exact HO_12.out⟩, ⟨by (with_reducible repeat (first | refine blk_drewN ?_ _ | refine blk_drew ?_ | refine blk_alloc ?_ _)); exact BK337.out⟩, ⟨by (with_reducible repeat (first | refine blk_drewN ?_ _ | refine blk_drew ?_ | refine blk_alloc ?_ _)); exact BK354.out⟩, ⟨by repeat (first | (with_reducible first | exact HB.out | apply below_alloc | apply pw_below_drewN | apply below_drew1 | refine below_set ?_ GE337.out | refine below_set ?_ GE354.out) | exact HB.out)⟩⟩
             ·rw [if_neg c40] at H
              have c40b0 : (x13_2 == 1) = false := beq_eq_false_iff_ne.mpr c40
              have c40b1 : (x13_2 != 1) = true := bne_iff_ne.mpr c40
              by_cases c49 : x13_2 = 2
              ·rw [if_pos c49] at H
               have c49b0 : (x13_2 == 2) = true := beq_iff_eq.mpr c49
               have c49b1 : (x13_2 != 2) = false := bne_eq_false_iff_eq.mpr c49
               have hixc49 : x13_2 = 2 := c49
               clear c49
               subst hixc49
               by_cases c50 : x14_3 < (Int.tmod (wrap64 (a1_2)) 16)
               ·rw [if_pos c50] at H
                have c50b0 : decide (x14_3 < (Int.tmod (wrap64 (a1_2)) 16)) = true := decide_eq_true c50
                clear c50
                by_cases c51 : x12_3.length < 140737488355328
                ·rw [if_pos c51] at H
                 have LMc51 := Aside0.mk c51
                 clear c51
                 obtain ⟨y367, hy367⟩ : ∃ y_ : List Int, y_ = (x12_3 ++ [10]) := ⟨_, rfl⟩
                 replace H : (tmesislaw04_QuotePlain.l2 k3 t338 x6_1 t350 t351 (wrap64 (x10_3 + 1)) y367 2 (wrap64 (x14_3 + 1)) a1_0 a1_1 a1_2 39 92 10) = some r := by first | (rw [hy367]; with_reducible exact H) | (have H2_ := (Option.bind_some _ _).symm.trans H; rw [hy367]; with_reducible exact H2_) | (have H2_ := (Option.bind_some _ _).symm.trans H; with_reducible exact H2_) | with_reducible exact H | (rw [hy367]; exact H) | exact H
                 have Ny367 := Aside0.mk hy367
                 clear hy367
                 have H' := Aside0.mk H
                 clear H
                 have hnb52 := NB337_354.out
                 have hnc52 := NB354_337.out
                 have hcz53_0 : wr.cell? ⟨gb337, 0, none⟩ = some (.int .u8 a1_0) := (blk_cell BK337.out 0).trans rfl
                 have hcz53_1 : wr.cell? ⟨gb337, 1, none⟩ = some (.int .u8 a1_1) := (blk_cell BK337.out 1).trans rfl
                 have hcz53_2 : wr.cell? ⟨gb337, 2, none⟩ = some (.int .u8 a1_2) := (blk_cell BK337.out 2).trans rfl
                 have hfz53_0 := blk_frozen BK337.out 0
                 have hfz53_1 := blk_frozen BK337.out 1
                 have hfz53_2 := blk_frozen BK337.out 2
                 have hcz54_0 : wr.cell? ⟨gb354, 0, none⟩ = some (.int .u8 39) := (blk_cell BK354.out 0).trans rfl
                 have hcz54_1 : wr.cell? ⟨gb354, 1, none⟩ = some (.int .u8 92) := (blk_cell BK354.out 1).trans rfl
                 have hcz54_2 : wr.cell? ⟨gb354, 2, none⟩ = some (.int .u8 10) := (blk_cell BK354.out 2).trans rfl
                 have hfz54_0 := blk_frozen BK354.out 0
                 have hfz54_1 := blk_frozen BK354.out 1
                 have hfz54_2 := blk_frozen BK354.out 2
                 go_wp2_with (first | ((with_reducible refine gate_builtin (b := .append) (xs := #[.tmp 62, .tmp 66]) rfl ?_); (try (refine gate_guard (by rfl) ?_; dsimp only)); at_builtin; refine Kd.R_append (Kd.int .u8) (w0 := w) w.heap.size rfl (.tmp 62) (.tmp 66) 22 5 (.int .u8 0) 1 rfl Tryd.underlying22 info5 rfl (by decide) (by omega) u12 x12_3 10 [.int .u8 10] (fun k_ => some k_ ≠ (.slice Ao21 x6_1.length co21 : Value).ownBlock ∧ some k_ ≠ (v352 : Value).ownBlock) (fun _ => False) rfl rfl ?aP (fun _ hk => hk.elim) ?aF ?aO ?aB ?aS ?aL ?_; (case aP => exact rfl); (case aB => exact (by repeat (first | (with_reducible first | exact HB.out | apply below_alloc | apply pw_below_drewN | apply below_drew1 | refine below_set ?_ GE337.out | refine below_set ?_ GE354.out) | exact HB.out))); (case aF => exact (fun k_ hk => ⟨Kd.fresh' (Kd.R_lt (by (with_reducible repeat (first | apply Kd.R_alloc | apply Kd.R_drewN | apply Kd.R_drew)); exact HO_6.out)) k_ hk, Kd.fresh' (Kd.R_lt (by (with_reducible repeat (first | apply Kd.R_alloc | apply Kd.R_drewN | apply Kd.R_drew)); exact HO_8.out)) k_ hk⟩)); (case aO => exact (by (with_reducible repeat (first | apply Kd.R_alloc | apply Kd.R_drewN | apply Kd.R_drew)); exact HO_12.out)); (case aS => exact (below_size (by repeat (first | (with_reducible first | exact HB.out | apply below_alloc | apply pw_below_drewN | apply below_drew1 | refine below_set ?_ GE337.out | refine below_set ?_ GE354.out) | exact HB.out)))); (case aL => have := LMc51.out; omega); intro v368 w55 ho hb hg hat; rw [← Ny367.out] at ho; have n0_ := Aside0.mk (Kd.R_after (ok := (fun k_ => some k_ ≠ (v352 : Value).ownBlock)) (by (with_reducible repeat (first | apply Kd.R_alloc | apply Kd.R_drewN | apply Kd.R_drew)); exact HO_6.out) hg hat); have n1_ := Aside0.mk (Kd.R_after (ok := (fun k_ => some k_ ≠ (.slice Ao21 x6_1.length co21 : Value).ownBlock)) (by (with_reducible repeat (first | apply Kd.R_alloc | apply Kd.R_drewN | apply Kd.R_drew)); exact HO_8.out) hg hat); have n2_ := Aside0.mk (blk_grown (g := gb337) (o := .cells #[.int .u8 a1_0, .int .u8 a1_1, .int .u8 a1_2] 32 (0, 0)) (by (with_reducible repeat (first | refine blk_drewN ?_ _ | refine blk_drew ?_ | refine blk_alloc ?_ _)); exact BK337.out) hg (Kd.R_ne HO_12.out BK337.out (by decide))); have n3_ := Aside0.mk (blk_grown (g := gb354) (o := .cells #[.int .u8 39, .int .u8 92, .int .u8 10] 32 (0, 0)) (by (with_reducible repeat (first | refine blk_drewN ?_ _ | refine blk_drew ?_ | refine blk_alloc ?_ _)); exact BK354.out) hg (Kd.R_ne HO_12.out BK354.out (by decide))); have n4_ := Aside0.mk (hb); have n5_ := Aside0.mk (ho); clear HO_6; clear HO_8; clear BK337; clear BK354; clear HB; clear HO_12; have HO_6 := n0_; have HO_8 := n1_; have BK337 := n2_; have BK354 := n3_; have HB := n4_; have HO369 := n5_; clear n0_ n1_ n2_ n3_ n4_ n5_; clear ho hb hg hat))
                 go_roundg k3
                 case measure => have := HK1.out; have := HK2.out; have := HK3.out; omega
                 case rel => exact ⟨(wrap64 (x10_3 + 1)), (y367), (wrap64 (x14_3 + 1)), (by first | rfl | (simp; done) | (simp [*]; done)), (by first | rfl | (simp; done) | (simp [*]; done)), H', ⟨by have := HK1.out; have := HK2.out; have := HK3.out; omega⟩, ⟨by (with_reducible repeat (first | apply Kd.R_alloc | apply Kd.R_drewN | apply Kd.R_drew)); exact HO_6.out⟩, ⟨by (with_reducible repeat (first | apply Kd.R_alloc | apply Kd.R_drewN | apply Kd.R_drew)); exact HO_8.out⟩, ⟨by (with_reducible repeat (first | apply Kd.R_alloc | apply Kd.R_drewN | apply Kd.R_drew)); exact HO369.out⟩, ⟨by (with_reducible repeat (first | refine blk_drewN ?_ _ | refine blk_drew ?_ | refine blk_alloc ?_ _)); exact BK337.out⟩, ⟨by (with_reducible repeat (first | refine blk_drewN ?_ _ | refine blk_drew ?_ | refine blk_alloc ?_ _)); exact BK354.out⟩, ⟨by repeat (first | (with_reducible first | exact HB.out | apply below_alloc | apply pw_below_drewN | apply below_drew1 | refine below_set ?_ GE337.out | refine below_set ?_ GE354.out) | exact HB.out)⟩⟩
                ·rw [if_neg c51] at H
                 exact absurd H (by simp)
               ·rw [if_neg c50] at H
                have c50b0 : decide (x14_3 < (Int.tmod (wrap64 (a1_2)) 16)) = false := decide_eq_false c50
                clear c50
                have H' := Aside0.mk H
                clear H
                have hnb56 := NB337_354.out
                have hnc56 := NB354_337.out
                have hcz57_0 : wr.cell? ⟨gb337, 0, none⟩ = some (.int .u8 a1_0) := (blk_cell BK337.out 0).trans rfl
                have hcz57_1 : wr.cell? ⟨gb337, 1, none⟩ = some (.int .u8 a1_1) := (blk_cell BK337.out 1).trans rfl
                have hcz57_2 : wr.cell? ⟨gb337, 2, none⟩ = some (.int .u8 a1_2) := (blk_cell BK337.out 2).trans rfl
                have hfz57_0 := blk_frozen BK337.out 0
                have hfz57_1 := blk_frozen BK337.out 1
                have hfz57_2 := blk_frozen BK337.out 2
                go_wp2
                go_meet
                case rel => exact ⟨_, (x10_3), (x12_3), (by first | rfl | (simp; done) | (simp [*]; done)), H', ⟨by have := HK1.out; have := HK2.out; have := HK3.out; first | omega | exact Nat.le_refl _⟩, ⟨by (with_reducible repeat (first | apply Kd.R_alloc | apply Kd.R_drewN | apply Kd.R_drew)); exact HO_6.out⟩, ⟨by (with_reducible repeat (first | apply Kd.R_alloc | apply Kd.R_drewN | apply Kd.R_drew)); exact HO_8.out⟩, ⟨by (with_reducible repeat (first | apply Kd.R_alloc | apply Kd.R_drewN | apply Kd.R_drew)); exact HO_12.out⟩, ⟨by (with_reducible repeat (first | refine blk_drewN ?_ _ | refine blk_drew ?_ | refine blk_alloc ?_ _)); exact BK337.out⟩, ⟨by (with_reducible repeat (first | refine blk_drewN ?_ _ | refine blk_drew ?_ | refine blk_alloc ?_ _)); exact BK354.out⟩, ⟨by repeat (first | (with_reducible first | exact HB.out | apply below_alloc | apply pw_below_drewN | apply below_drew1 | refine below_set ?_ GE337.out | refine below_set ?_ GE354.out) | exact HB.out)⟩⟩
              ·rw [if_neg c49] at H
               exact absurd H (by simp)
         case rest =>
          clear HC30
          try clear c1
          try clear p1
          try clear q1
          try clear hx1
          try clear c2
          try clear p2
          try clear c3
          try clear p3
          try clear q3
          try clear hx3
          try clear c4
          try clear c5
          try clear p6
          try clear c8
          try clear c10
          try clear c12
          try clear c13
          try clear c13b0
          try clear c14
          try clear c14b0
          try clear p15
          try clear q15
          try clear hx15
          try clear hf15
          try clear c20
          try clear c24
          try clear c29
          try clear c29b0
          try clear c31
          try clear c31b0
          try clear c31b1
          try clear c32
          try clear c32b0
          try clear c33
          try clear c34
          try clear p34
          try clear q34
          try clear hx34
          try clear c38
          try clear c40
          try clear c40b0
          try clear c40b1
          try clear c41
          try clear c41b0
          try clear c42
          try clear c43
          try clear c47
          try clear c49
          try clear c49b0
          try clear c49b1
          try clear c50
          try clear c50b0
          try clear c51
          try clear c52
          try clear c56
          try clear hcz25_0
          try clear hcz25_1
          try clear hcz25_2
          try clear hcz35_0
          try clear hcz35_1
          try clear hcz35_2
          try clear hcz36_0
          try clear hcz36_1
          try clear hcz36_2
          try clear hcz39_0
          try clear hcz39_1
          try clear hcz39_2
          try clear hcz44_0
          try clear hcz44_1
          try clear hcz44_2
          try clear hcz45_0
          try clear hcz45_1
          try clear hcz45_2
          try clear hcz48_0
          try clear hcz48_1
          try clear hcz48_2
          try clear hcz53_0
          try clear hcz53_1
          try clear hcz53_2
          try clear hcz54_0
          try clear hcz54_1
          try clear hcz54_2
          try clear hcz57_0
          try clear hcz57_1
          try clear hcz57_2
          try clear hfz25_0
          try clear hfz25_1
          try clear hfz25_2
          try clear hfz35_0
          try clear hfz35_1
          try clear hfz35_2
          try clear hfz36_0
          try clear hfz36_1
          try clear hfz36_2
          try clear hfz39_0
          try clear hfz39_1
          try clear hfz39_2
          try clear hfz44_0
          try clear hfz44_1
          try clear hfz44_2
          try clear hfz45_0
          try clear hfz45_1
          try clear hfz45_2
          try clear hfz48_0
          try clear hfz48_1
          try clear hfz48_2
          try clear hfz53_0
          try clear hfz53_1
          try clear hfz53_2
          try clear hfz54_0
          try clear hfz54_1
          try clear hfz54_2
          try clear hfz57_0
          try clear hfz57_1
          try clear hfz57_2
          try clear hx15_0
          try clear hx348_0
          try clear p1
          try clear p15
          try clear p2
          try clear p3
          try clear p348
          try clear p6
          try clear q1
          try clear q15
          try clear q3
          try clear q348
          obtain ⟨kq, x10_29, x12_29, rfl, HA, HJ29, HO_6, HO_8, HO_12, BK337, BK354, HB⟩ := hcut
          cases kq with
          | zero => exact absurd HA.out (by simp [tmesislaw04_QuotePlain.j3])
          | succ kj29 =>
           have H := HA.out
           clear HA
           simp only [tmesislaw04_QuotePlain.j3] at H
           have H' := Aside0.mk H
           clear H
           go_wp2
           go_roundg kj29
           case measure => have := HK1.out; have := HK2.out; have := HJ29.out; omega
           case rel => exact ⟨(x10_29), (x12_29), (wrap64 (x13_2 + 1)), (by first | rfl | (simp; done) | (simp [*]; done)), (by first | rfl | (simp; done) | (simp [*]; done)), H', ⟨by have := HK1.out; have := HK2.out; have := HJ29.out; omega⟩, ⟨by (with_reducible repeat (first | apply Kd.R_alloc | apply Kd.R_drewN | apply Kd.R_drew)); exact HO_6.out⟩, ⟨by (with_reducible repeat (first | apply Kd.R_alloc | apply Kd.R_drewN | apply Kd.R_drew)); exact HO_8.out⟩, ⟨by (with_reducible repeat (first | apply Kd.R_alloc | apply Kd.R_drewN | apply Kd.R_drew)); exact HO_12.out⟩, ⟨by (with_reducible repeat (first | refine blk_drewN ?_ _ | refine blk_drew ?_ | refine blk_alloc ?_ _)); exact BK337.out⟩, ⟨by (with_reducible repeat (first | refine blk_drewN ?_ _ | refine blk_drew ?_ | refine blk_alloc ?_ _)); exact BK354.out⟩, ⟨by repeat (first | (with_reducible first | exact HB.out | apply below_alloc | apply pw_below_drewN | apply below_drew1 | refine below_set ?_ GE337.out | refine below_set ?_ GE354.out) | exact HB.out)⟩⟩
        ·rw [if_neg c29] at H
         have c29b0 : decide (x13_2 < 3) = false := decide_eq_false c29
         clear c29
         replace H := Option.bind_eq_some_iff.mp H
         obtain ⟨⟨t370, t371⟩, A580, H⟩ := H
         replace H : ((quote_Take.f k2 t370).bind fun bt374 => (if t338 = true then (if t351 = 0 then (if 1 + (strOfNums x6_1).size ≤ 9223372036854775807 then (if ((⟨#[39]⟩ : ByteArray) ++ (strOfNums x6_1)).size + 1 ≤ 9223372036854775807 then (if (strOfNums t350).toList = (((⟨#[39]⟩ : ByteArray) ++ (strOfNums x6_1)) ++ (⟨#[39]⟩ : ByteArray)).toList then (if t371 = 0 then (if (t370.length : Int) = (wrap64 ((wrap64 ((x6_1.length : Int) + (wrap64 (2 * x10_2)))) + 2)) then (if bt374.2.2 = 0 then (if (strOfNums bt374.1).toList = (strOfNums x12_2).toList then (tmesislaw04_QuotePlain.j4 k2 (bt374.2.1 == (t370.length : Int))) else (tmesislaw04_QuotePlain.j4 k2 false)) else (tmesislaw04_QuotePlain.j4 k2 false)) else (tmesislaw04_QuotePlain.j4 k2 false)) else (tmesislaw04_QuotePlain.j4 k2 false)) else (tmesislaw04_QuotePlain.j4 k2 false)) else (none)) else (none)) else (tmesislaw04_QuotePlain.j4 k2 false)) else (tmesislaw04_QuotePlain.j4 k2 false))) = some r := H
         have A58 := Aside0.mk A580
         clear A580
         replace H := Option.bind_eq_some_iff.mp H
         obtain ⟨⟨t374, t375, t376⟩, A590, H⟩ := H
         replace H : (if t338 = true then (if t351 = 0 then (if 1 + (strOfNums x6_1).size ≤ 9223372036854775807 then (if ((⟨#[39]⟩ : ByteArray) ++ (strOfNums x6_1)).size + 1 ≤ 9223372036854775807 then (if (strOfNums t350).toList = (((⟨#[39]⟩ : ByteArray) ++ (strOfNums x6_1)) ++ (⟨#[39]⟩ : ByteArray)).toList then (if t371 = 0 then (if (t370.length : Int) = (wrap64 ((wrap64 ((x6_1.length : Int) + (wrap64 (2 * x10_2)))) + 2)) then (if t376 = 0 then (if (strOfNums t374).toList = (strOfNums x12_2).toList then (tmesislaw04_QuotePlain.j4 k2 (t375 == (t370.length : Int))) else (tmesislaw04_QuotePlain.j4 k2 false)) else (tmesislaw04_QuotePlain.j4 k2 false)) else (tmesislaw04_QuotePlain.j4 k2 false)) else (tmesislaw04_QuotePlain.j4 k2 false)) else (tmesislaw04_QuotePlain.j4 k2 false)) else (none)) else (none)) else (tmesislaw04_QuotePlain.j4 k2 false)) else (tmesislaw04_QuotePlain.j4 k2 false)) = some r := H
         have A59 := Aside0.mk A590
         clear A590
         have HC60 := Aside0.mk H
         clear H
         obtain ⟨Ao61, co61, eo61⟩ := Kd.R_slice HO_12.out
         subst eo61
         go_upto_region 21 with (first | ((with_reducible refine gate_callee (f := 12) rfl ?_); refine goesL_ (some 72) rfl rfl Tryd.func12 (by kernel_rfl) rfl #[.slice Ao61 x12_2.length co61] rfl (by (try simp only [List.map_toArray, List.map_cons, List.map_nil]); first | done | rfl | (simp only [List.length_drop, List.length_take]; rfl)) ?_; (with_reducible refine (quote_Put.calls k2 _ _ x12_2 t370 t371 _ ?side1 ?side2 ?side3 A58.out).mono ?_); (case side1 => exact Gl.below HG.out (by repeat (first | (with_reducible first | exact HB.out | apply below_alloc | apply pw_below_drewN | apply below_drew1 | refine below_set ?_ GE337.out | refine below_set ?_ GE354.out) | exact HB.out))); (case side2 => repeat (first | exact (Kd.R_reads' HO_12.out).2.2 | (with_reducible refine Kd.C_alloc ?_ _) | (with_reducible refine Kd.C_drewN ?_ _) | (with_reducible refine Kd.C_drew ?_))); (case side3 => exact (Kd.R_reads' HO_12.out).2.1); rintro e w62 ⟨v372, rfl, ho0, hb⟩; refine ⟨_, rfl, ?_⟩; have n0_ := Aside0.mk (Kd.R_elder' (by (with_reducible repeat (first | apply Kd.R_alloc | apply Kd.R_drewN | apply Kd.R_drew)); exact HO_6.out) (Kd.R_base ho0) hb); have n1_ := Aside0.mk (Kd.R_elder' (by (with_reducible repeat (first | apply Kd.R_alloc | apply Kd.R_drewN | apply Kd.R_drew)); exact HO_8.out) (Kd.R_base ho0) hb); have n2_ := Aside0.mk (Kd.R_elder' (by (with_reducible repeat (first | apply Kd.R_alloc | apply Kd.R_drewN | apply Kd.R_drew)); exact HO_12.out) (Kd.R_base ho0) hb); have n3_ := Aside0.mk (Kd.R_lower (Kd.R_new' (Kd.R_new' (Kd.R_new' ho0 (Kd.R_lt (by (with_reducible repeat (first | apply Kd.R_alloc | apply Kd.R_drewN | apply Kd.R_drew)); exact HO_6.out))) (Kd.R_lt (by (with_reducible repeat (first | apply Kd.R_alloc | apply Kd.R_drewN | apply Kd.R_drew)); exact HO_8.out))) (Kd.R_lt (by (with_reducible repeat (first | apply Kd.R_alloc | apply Kd.R_drewN | apply Kd.R_drew)); exact HO_12.out))) (below_size (by repeat (first | (with_reducible first | exact HB.out | apply below_alloc | apply pw_below_drewN | apply below_drew1 | refine below_set ?_ GE337.out | refine below_set ?_ GE354.out) | exact HB.out)))); have n4_ := Aside0.mk (blk_below (g := gb337) (o := .cells #[.int .u8 a1_0, .int .u8 a1_1, .int .u8 a1_2] 32 (0, 0)) (by (with_reducible repeat (first | refine blk_drewN ?_ _ | refine blk_drew ?_ | refine blk_alloc ?_ _)); exact BK337.out) hb); have n5_ := Aside0.mk (blk_below (g := gb354) (o := .cells #[.int .u8 39, .int .u8 92, .int .u8 10] 32 (0, 0)) (by (with_reducible repeat (first | refine blk_drewN ?_ _ | refine blk_drew ?_ | refine blk_alloc ?_ _)); exact BK354.out) hb); have n6_ := Aside0.mk (below_step (by repeat (first | (with_reducible first | exact HB.out | apply below_alloc | apply pw_below_drewN | apply below_drew1 | refine below_set ?_ GE337.out | refine below_set ?_ GE354.out) | exact HB.out)) hb); clear HO_6; clear HO_8; clear HO_12; clear BK337; clear BK354; clear HB; have HO_6 := n0_; have HO_8 := n1_; have HO_12 := n2_; have HO373 := n3_; have BK337 := n4_; have BK354 := n5_; have HB := n6_; clear n0_ n1_ n2_ n3_ n4_ n5_ n6_; (try clear hb); (try clear hb2); (try clear hk); (try clear hi); (try clear ho0); obtain ⟨Ao63, co63, eo63⟩ := Kd.R_slice HO373.out; subst eo63) | ((with_reducible refine gate_callee (f := 9) rfl ?_); refine goesL_ (some 77) rfl rfl Tryd.func9 (by kernel_rfl) rfl #[.slice Ao63 t370.length co63] rfl (by (try simp only [List.map_toArray, List.map_cons, List.map_nil]); first | done | rfl | (simp only [List.length_drop, List.length_take]; rfl)) ?_; (with_reducible refine (quote_Take.calls k2 _ _ t370 t374 t375 t376 _ ?side1 ?side2 A59.out).mono ?_); (case side1 => repeat (first | exact (Kd.R_reads' HO373.out).2.2 | (with_reducible refine Kd.C_alloc ?_ _) | (with_reducible refine Kd.C_drewN ?_ _) | (with_reducible refine Kd.C_drew ?_))); (case side2 => exact (Kd.R_reads' HO373.out).2.1); rintro e w64 ⟨v377, rfl, ho0, hb⟩; refine ⟨_, rfl, ?_⟩; have n0_ := Aside0.mk (Kd.R_elder' (by (with_reducible repeat (first | apply Kd.R_alloc | apply Kd.R_drewN | apply Kd.R_drew)); exact HO_6.out) (Kd.R_base ho0) hb); have n1_ := Aside0.mk (Kd.R_elder' (by (with_reducible repeat (first | apply Kd.R_alloc | apply Kd.R_drewN | apply Kd.R_drew)); exact HO_8.out) (Kd.R_base ho0) hb); have n2_ := Aside0.mk (Kd.R_elder' (by (with_reducible repeat (first | apply Kd.R_alloc | apply Kd.R_drewN | apply Kd.R_drew)); exact HO_12.out) (Kd.R_base ho0) hb); have n3_ := Aside0.mk (Kd.R_elder' (by (with_reducible repeat (first | apply Kd.R_alloc | apply Kd.R_drewN | apply Kd.R_drew)); exact HO373.out) (Kd.R_base ho0) hb); have n4_ := Aside0.mk (Kd.R_lower (Kd.R_new' (Kd.R_new' (Kd.R_new' (Kd.R_new' ho0 (Kd.R_lt (by (with_reducible repeat (first | apply Kd.R_alloc | apply Kd.R_drewN | apply Kd.R_drew)); exact HO_6.out))) (Kd.R_lt (by (with_reducible repeat (first | apply Kd.R_alloc | apply Kd.R_drewN | apply Kd.R_drew)); exact HO_8.out))) (Kd.R_lt (by (with_reducible repeat (first | apply Kd.R_alloc | apply Kd.R_drewN | apply Kd.R_drew)); exact HO_12.out))) (Kd.R_lt (by (with_reducible repeat (first | apply Kd.R_alloc | apply Kd.R_drewN | apply Kd.R_drew)); exact HO373.out))) (below_size (by repeat (first | (with_reducible first | exact HB.out | apply below_alloc | apply pw_below_drewN | apply below_drew1 | refine below_set ?_ GE337.out | refine below_set ?_ GE354.out) | exact HB.out)))); have n5_ := Aside0.mk (blk_below (g := gb337) (o := .cells #[.int .u8 a1_0, .int .u8 a1_1, .int .u8 a1_2] 32 (0, 0)) (by (with_reducible repeat (first | refine blk_drewN ?_ _ | refine blk_drew ?_ | refine blk_alloc ?_ _)); exact BK337.out) hb); have n6_ := Aside0.mk (blk_below (g := gb354) (o := .cells #[.int .u8 39, .int .u8 92, .int .u8 10] 32 (0, 0)) (by (with_reducible repeat (first | refine blk_drewN ?_ _ | refine blk_drew ?_ | refine blk_alloc ?_ _)); exact BK354.out) hb); have n7_ := Aside0.mk (below_step (by repeat (first | (with_reducible first | exact HB.out | apply below_alloc | apply pw_below_drewN | apply below_drew1 | refine below_set ?_ GE337.out | refine below_set ?_ GE354.out) | exact HB.out)) hb); clear HO_6; clear HO_8; clear HO_12; clear HO373; clear BK337; clear BK354; clear HB; have HO_6 := n0_; have HO_8 := n1_; have HO_12 := n2_; have HO373 := n3_; have HO378 := n4_; have BK337 := n5_; have BK354 := n6_; have HB := n7_; clear n0_ n1_ n2_ n3_ n4_ n5_ n6_ n7_; (try clear hb); (try clear hb2); (try clear hk); (try clear hi); (try clear ho0)))
         (try simp only [Act.put, List.setIfInBounds_toArray, List.set_cons_zero, List.set_cons_succ])
         go_cut [4] (fun v4 wc => ∃ (kq : Nat) (x4_59 : Bool), v4 = .bool x4_59 ∧ Aside0 (tmesislaw04_QuotePlain.j4 kq x4_59 = some r) ∧ Aside0 (kq ≤ k2) ∧ Aside0 (wc.heap[gb337]? = some (.cells #[.int .u8 a1_0, .int .u8 a1_1, .int .u8 a1_2] 32 (0, 0))) ∧ Aside0 (wc.heap[gb354]? = some (.cells #[.int .u8 39, .int .u8 92, .int .u8 10] 32 (0, 0))) ∧ Aside0 (Below w.heap.size w wc))
         case first =>
          have H := HC60.out
          clear HC60
          by_cases c65 : t338 = true
          ·subst c65
           have H1 : (if t351 = 0 then (if 1 + (strOfNums x6_1).size ≤ 9223372036854775807 then (if ((⟨#[39]⟩ : ByteArray) ++ (strOfNums x6_1)).size + 1 ≤ 9223372036854775807 then (if (strOfNums t350).toList = (((⟨#[39]⟩ : ByteArray) ++ (strOfNums x6_1)) ++ (⟨#[39]⟩ : ByteArray)).toList then (if t371 = 0 then (if (t370.length : Int) = (wrap64 ((wrap64 ((x6_1.length : Int) + (wrap64 (2 * x10_2)))) + 2)) then (if t376 = 0 then (if (strOfNums t374).toList = (strOfNums x12_2).toList then (tmesislaw04_QuotePlain.j4 k2 (t375 == (t370.length : Int))) else (tmesislaw04_QuotePlain.j4 k2 false)) else (tmesislaw04_QuotePlain.j4 k2 false)) else (tmesislaw04_QuotePlain.j4 k2 false)) else (tmesislaw04_QuotePlain.j4 k2 false)) else (tmesislaw04_QuotePlain.j4 k2 false)) else (none)) else (none)) else (tmesislaw04_QuotePlain.j4 k2 false)) = some r := by rw [if_pos rfl] at H; exact H
           clear H
           have H := H1
           clear H1
           by_cases c66 : t351 = 0
           ·rw [if_pos c66] at H
            have c66b0 : (t351 == 0) = true := beq_iff_eq.mpr c66
            have c66b1 : (t351 != 0) = false := bne_eq_false_iff_eq.mpr c66
            clear c66
            (first | rw [c66b0] | (simp only [i64_w, i32_w]; rw [c66b0]) | skip)
            by_cases c67 : 1 + (strOfNums x6_1).size ≤ 9223372036854775807
            ·rw [if_pos c67] at H
             have c67b0 := eq_true c67
             have c67b1 : decide (1 + (strOfNums x6_1).size ≤ 9223372036854775807) = true := decide_eq_true c67
             try have c67b2 : (9223372036854775807 < 1 + (strOfNums x6_1).size) = False := eq_false (Nat.not_lt.2 c67)
             by_cases c68 : ((⟨#[39]⟩ : ByteArray) ++ (strOfNums x6_1)).size + 1 ≤ 9223372036854775807
             ·rw [if_pos c68] at H
              have c68b0 := eq_true c68
              have c68b1 : decide (((⟨#[39]⟩ : ByteArray) ++ (strOfNums x6_1)).size + 1 ≤ 9223372036854775807) = true := decide_eq_true c68
              try have c68b2 : (9223372036854775807 < ((⟨#[39]⟩ : ByteArray) ++ (strOfNums x6_1)).size + 1) = False := eq_false (Nat.not_lt.2 c68)
              have c68e : 1 + (strOfNums x6_1).size + 1 ≤ 9223372036854775807 := by have z_ := c68; simp only [ByteArray.size_append] at z_; exact z_
              have c68e0 := eq_true c68e
              have c68e1 : decide (1 + (strOfNums x6_1).size + 1 ≤ 9223372036854775807) = true := decide_eq_true c68e
              have c68e2 : (9223372036854775807 < 1 + (strOfNums x6_1).size + 1) = False := eq_false (Nat.not_lt.2 c68e)
              clear c68e
              by_cases c69 : (strOfNums t350).toList = (((⟨#[39]⟩ : ByteArray) ++ (strOfNums x6_1)) ++ (⟨#[39]⟩ : ByteArray)).toList
              ·rw [if_pos c69] at H
               have c69b0 : ((strOfNums t350).toList == (((⟨#[39]⟩ : ByteArray) ++ (strOfNums x6_1)) ++ (⟨#[39]⟩ : ByteArray)).toList) = true := beq_iff_eq.mpr c69
               have c69b1 : ((strOfNums t350).toList != (((⟨#[39]⟩ : ByteArray) ++ (strOfNums x6_1)) ++ (⟨#[39]⟩ : ByteArray)).toList) = false := bne_eq_false_iff_eq.mpr c69
               clear c69
               by_cases c70 : t371 = 0
               ·rw [if_pos c70] at H
                have c70b0 : (t371 == 0) = true := beq_iff_eq.mpr c70
                have c70b1 : (t371 != 0) = false := bne_eq_false_iff_eq.mpr c70
                clear c70
                by_cases c71 : (t370.length : Int) = (wrap64 ((wrap64 ((x6_1.length : Int) + (wrap64 (2 * x10_2)))) + 2))
                ·rw [if_pos c71] at H
                 have c71b0 : ((t370.length : Int) == (wrap64 ((wrap64 ((x6_1.length : Int) + (wrap64 (2 * x10_2)))) + 2))) = true := beq_iff_eq.mpr c71
                 have c71b1 : ((t370.length : Int) != (wrap64 ((wrap64 ((x6_1.length : Int) + (wrap64 (2 * x10_2)))) + 2))) = false := bne_eq_false_iff_eq.mpr c71
                 clear c71
                 by_cases c72 : t376 = 0
                 ·rw [if_pos c72] at H
                  have c72b0 : (t376 == 0) = true := beq_iff_eq.mpr c72
                  have c72b1 : (t376 != 0) = false := bne_eq_false_iff_eq.mpr c72
                  clear c72
                  by_cases c73 : (strOfNums t374).toList = (strOfNums x12_2).toList
                  ·rw [if_pos c73] at H
                   have c73b0 : ((strOfNums t374).toList == (strOfNums x12_2).toList) = true := beq_iff_eq.mpr c73
                   have c73b1 : ((strOfNums t374).toList != (strOfNums x12_2).toList) = false := bne_eq_false_iff_eq.mpr c73
                   clear c73
                   have H' := Aside0.mk H
                   clear H
                   (first | (have hcv74 := own_string (P := Tryd.prog) Tryd.underlying22 Tryd.underlying5 Tryd.underlying9 (Kd.own_of_R HO_8.out); have hcv74q := fun (q_ : Nat) => own_string (P := Tryd.prog) Tryd.underlying22 Tryd.underlying5 Tryd.underlying9 (pw_own_drewN (Kd.own_of_R HO_8.out) q_)) | (have hcv74 := V_string (P := Tryd.prog) Tryd.underlying22 Tryd.underlying5 Tryd.underlying9 HO_8.out; have hcv74q := fun (q_ : Nat) => V_string (P := Tryd.prog) Tryd.underlying22 Tryd.underlying5 Tryd.underlying9 (Kd.V_drewN HO_8.out q_)))
                   (first | (have hcv75 := own_string (P := Tryd.prog) Tryd.underlying22 Tryd.underlying5 Tryd.underlying9 (Kd.own_of_R HO_6.out); have hcv75q := fun (q_ : Nat) => own_string (P := Tryd.prog) Tryd.underlying22 Tryd.underlying5 Tryd.underlying9 (pw_own_drewN (Kd.own_of_R HO_6.out) q_)) | (have hcv75 := V_string (P := Tryd.prog) Tryd.underlying22 Tryd.underlying5 Tryd.underlying9 HO_6.out; have hcv75q := fun (q_ : Nat) => V_string (P := Tryd.prog) Tryd.underlying22 Tryd.underlying5 Tryd.underlying9 (Kd.V_drewN HO_6.out q_)))
                   (first | (have hcv76 := own_string (P := Tryd.prog) Tryd.underlying22 Tryd.underlying5 Tryd.underlying9 (Kd.own_of_R HO378.out); have hcv76q := fun (q_ : Nat) => own_string (P := Tryd.prog) Tryd.underlying22 Tryd.underlying5 Tryd.underlying9 (pw_own_drewN (Kd.own_of_R HO378.out) q_)) | (have hcv76 := V_string (P := Tryd.prog) Tryd.underlying22 Tryd.underlying5 Tryd.underlying9 HO378.out; have hcv76q := fun (q_ : Nat) => V_string (P := Tryd.prog) Tryd.underlying22 Tryd.underlying5 Tryd.underlying9 (Kd.V_drewN HO378.out q_)))
                   (first | (have hcv77 := own_string (P := Tryd.prog) Tryd.underlying22 Tryd.underlying5 Tryd.underlying9 (Kd.own_of_R HO_12.out); have hcv77q := fun (q_ : Nat) => own_string (P := Tryd.prog) Tryd.underlying22 Tryd.underlying5 Tryd.underlying9 (pw_own_drewN (Kd.own_of_R HO_12.out) q_)) | (have hcv77 := V_string (P := Tryd.prog) Tryd.underlying22 Tryd.underlying5 Tryd.underlying9 HO_12.out; have hcv77q := fun (q_ : Nat) => V_string (P := Tryd.prog) Tryd.underlying22 Tryd.underlying5 Tryd.underlying9 (Kd.V_drewN HO_12.out q_)))
                   go_wp2
                   go_meet
                   case rel => exact ⟨_, ((t375 == (t370.length : Int))), (by first | rfl | (simp; done) | (simp [*]; done)), H', ⟨by have := HK1.out; have := HK2.out; first | omega | exact Nat.le_refl _⟩, ⟨by (with_reducible repeat (first | refine blk_drewN ?_ _ | refine blk_drew ?_ | refine blk_alloc ?_ _)); exact BK337.out⟩, ⟨by (with_reducible repeat (first | refine blk_drewN ?_ _ | refine blk_drew ?_ | refine blk_alloc ?_ _)); exact BK354.out⟩, ⟨by repeat (first | (with_reducible first | exact HB.out | apply below_alloc | apply pw_below_drewN | apply below_drew1 | refine below_set ?_ GE337.out | refine below_set ?_ GE354.out) | exact HB.out)⟩⟩
                  ·rw [if_neg c73] at H
                   have c73b0 : ((strOfNums t374).toList == (strOfNums x12_2).toList) = false := beq_eq_false_iff_ne.mpr c73
                   have c73b1 : ((strOfNums t374).toList != (strOfNums x12_2).toList) = true := bne_iff_ne.mpr c73
                   have H' := Aside0.mk H
                   clear H
                   (first | (have hcv78 := own_string (P := Tryd.prog) Tryd.underlying22 Tryd.underlying5 Tryd.underlying9 (Kd.own_of_R HO_8.out); have hcv78q := fun (q_ : Nat) => own_string (P := Tryd.prog) Tryd.underlying22 Tryd.underlying5 Tryd.underlying9 (pw_own_drewN (Kd.own_of_R HO_8.out) q_)) | (have hcv78 := V_string (P := Tryd.prog) Tryd.underlying22 Tryd.underlying5 Tryd.underlying9 HO_8.out; have hcv78q := fun (q_ : Nat) => V_string (P := Tryd.prog) Tryd.underlying22 Tryd.underlying5 Tryd.underlying9 (Kd.V_drewN HO_8.out q_)))
                   (first | (have hcv79 := own_string (P := Tryd.prog) Tryd.underlying22 Tryd.underlying5 Tryd.underlying9 (Kd.own_of_R HO_6.out); have hcv79q := fun (q_ : Nat) => own_string (P := Tryd.prog) Tryd.underlying22 Tryd.underlying5 Tryd.underlying9 (pw_own_drewN (Kd.own_of_R HO_6.out) q_)) | (have hcv79 := V_string (P := Tryd.prog) Tryd.underlying22 Tryd.underlying5 Tryd.underlying9 HO_6.out; have hcv79q := fun (q_ : Nat) => V_string (P := Tryd.prog) Tryd.underlying22 Tryd.underlying5 Tryd.underlying9 (Kd.V_drewN HO_6.out q_)))
                   (first | (have hcv80 := own_string (P := Tryd.prog) Tryd.underlying22 Tryd.underlying5 Tryd.underlying9 (Kd.own_of_R HO378.out); have hcv80q := fun (q_ : Nat) => own_string (P := Tryd.prog) Tryd.underlying22 Tryd.underlying5 Tryd.underlying9 (pw_own_drewN (Kd.own_of_R HO378.out) q_)) | (have hcv80 := V_string (P := Tryd.prog) Tryd.underlying22 Tryd.underlying5 Tryd.underlying9 HO378.out; have hcv80q := fun (q_ : Nat) => V_string (P := Tryd.prog) Tryd.underlying22 Tryd.underlying5 Tryd.underlying9 (Kd.V_drewN HO378.out q_)))
                   (first | (have hcv81 := own_string (P := Tryd.prog) Tryd.underlying22 Tryd.underlying5 Tryd.underlying9 (Kd.own_of_R HO_12.out); have hcv81q := fun (q_ : Nat) => own_string (P := Tryd.prog) Tryd.underlying22 Tryd.underlying5 Tryd.underlying9 (pw_own_drewN (Kd.own_of_R HO_12.out) q_)) | (have hcv81 := V_string (P := Tryd.prog) Tryd.underlying22 Tryd.underlying5 Tryd.underlying9 HO_12.out; have hcv81q := fun (q_ : Nat) => V_string (P := Tryd.prog) Tryd.underlying22 Tryd.underlying5 Tryd.underlying9 (Kd.V_drewN HO_12.out q_)))
                   go_wp2
                   go_meet
                   case rel => exact ⟨_, (false), (by first | rfl | (simp; done) | (simp [*]; done)), H', ⟨by have := HK1.out; have := HK2.out; first | omega | exact Nat.le_refl _⟩, ⟨by (with_reducible repeat (first | refine blk_drewN ?_ _ | refine blk_drew ?_ | refine blk_alloc ?_ _)); exact BK337.out⟩, ⟨by (with_reducible repeat (first | refine blk_drewN ?_ _ | refine blk_drew ?_ | refine blk_alloc ?_ _)); exact BK354.out⟩, ⟨by repeat (first | (with_reducible first | exact HB.out | apply below_alloc | apply pw_below_drewN | apply below_drew1 | refine below_set ?_ GE337.out | refine below_set ?_ GE354.out) | exact HB.out)⟩⟩
                 ·rw [if_neg c72] at H
                  have c72b0 : (t376 == 0) = false := beq_eq_false_iff_ne.mpr c72
                  have c72b1 : (t376 != 0) = true := bne_iff_ne.mpr c72
                  have H' := Aside0.mk H
                  clear H
                  (first | (have hcv82 := own_string (P := Tryd.prog) Tryd.underlying22 Tryd.underlying5 Tryd.underlying9 (Kd.own_of_R HO_8.out); have hcv82q := fun (q_ : Nat) => own_string (P := Tryd.prog) Tryd.underlying22 Tryd.underlying5 Tryd.underlying9 (pw_own_drewN (Kd.own_of_R HO_8.out) q_)) | (have hcv82 := V_string (P := Tryd.prog) Tryd.underlying22 Tryd.underlying5 Tryd.underlying9 HO_8.out; have hcv82q := fun (q_ : Nat) => V_string (P := Tryd.prog) Tryd.underlying22 Tryd.underlying5 Tryd.underlying9 (Kd.V_drewN HO_8.out q_)))
                  (first | (have hcv83 := own_string (P := Tryd.prog) Tryd.underlying22 Tryd.underlying5 Tryd.underlying9 (Kd.own_of_R HO_6.out); have hcv83q := fun (q_ : Nat) => own_string (P := Tryd.prog) Tryd.underlying22 Tryd.underlying5 Tryd.underlying9 (pw_own_drewN (Kd.own_of_R HO_6.out) q_)) | (have hcv83 := V_string (P := Tryd.prog) Tryd.underlying22 Tryd.underlying5 Tryd.underlying9 HO_6.out; have hcv83q := fun (q_ : Nat) => V_string (P := Tryd.prog) Tryd.underlying22 Tryd.underlying5 Tryd.underlying9 (Kd.V_drewN HO_6.out q_)))
                  go_wp2
                  go_meet
                  case rel => exact ⟨_, (false), (by first | rfl | (simp; done) | (simp [*]; done)), H', ⟨by have := HK1.out; have := HK2.out; first | omega | exact Nat.le_refl _⟩, ⟨by (with_reducible repeat (first | refine blk_drewN ?_ _ | refine blk_drew ?_ | refine blk_alloc ?_ _)); exact BK337.out⟩, ⟨by (with_reducible repeat (first | refine blk_drewN ?_ _ | refine blk_drew ?_ | refine blk_alloc ?_ _)); exact BK354.out⟩, ⟨by repeat (first | (with_reducible first | exact HB.out | apply below_alloc | apply pw_below_drewN | apply below_drew1 | refine below_set ?_ GE337.out | refine below_set ?_ GE354.out) | exact HB.out)⟩⟩
                ·rw [if_neg c71] at H
                 have c71b0 : ((t370.length : Int) == (wrap64 ((wrap64 ((x6_1.length : Int) + (wrap64 (2 * x10_2)))) + 2))) = false := beq_eq_false_iff_ne.mpr c71
                 have c71b1 : ((t370.length : Int) != (wrap64 ((wrap64 ((x6_1.length : Int) + (wrap64 (2 * x10_2)))) + 2))) = true := bne_iff_ne.mpr c71
                 have H' := Aside0.mk H
                 clear H
                 (first | (have hcv84 := own_string (P := Tryd.prog) Tryd.underlying22 Tryd.underlying5 Tryd.underlying9 (Kd.own_of_R HO_8.out); have hcv84q := fun (q_ : Nat) => own_string (P := Tryd.prog) Tryd.underlying22 Tryd.underlying5 Tryd.underlying9 (pw_own_drewN (Kd.own_of_R HO_8.out) q_)) | (have hcv84 := V_string (P := Tryd.prog) Tryd.underlying22 Tryd.underlying5 Tryd.underlying9 HO_8.out; have hcv84q := fun (q_ : Nat) => V_string (P := Tryd.prog) Tryd.underlying22 Tryd.underlying5 Tryd.underlying9 (Kd.V_drewN HO_8.out q_)))
                 (first | (have hcv85 := own_string (P := Tryd.prog) Tryd.underlying22 Tryd.underlying5 Tryd.underlying9 (Kd.own_of_R HO_6.out); have hcv85q := fun (q_ : Nat) => own_string (P := Tryd.prog) Tryd.underlying22 Tryd.underlying5 Tryd.underlying9 (pw_own_drewN (Kd.own_of_R HO_6.out) q_)) | (have hcv85 := V_string (P := Tryd.prog) Tryd.underlying22 Tryd.underlying5 Tryd.underlying9 HO_6.out; have hcv85q := fun (q_ : Nat) => V_string (P := Tryd.prog) Tryd.underlying22 Tryd.underlying5 Tryd.underlying9 (Kd.V_drewN HO_6.out q_)))
                 go_wp2
                 go_meet
                 case rel => exact ⟨_, (false), (by first | rfl | (simp; done) | (simp [*]; done)), H', ⟨by have := HK1.out; have := HK2.out; first | omega | exact Nat.le_refl _⟩, ⟨by (with_reducible repeat (first | refine blk_drewN ?_ _ | refine blk_drew ?_ | refine blk_alloc ?_ _)); exact BK337.out⟩, ⟨by (with_reducible repeat (first | refine blk_drewN ?_ _ | refine blk_drew ?_ | refine blk_alloc ?_ _)); exact BK354.out⟩, ⟨by repeat (first | (with_reducible first | exact HB.out | apply below_alloc | apply pw_below_drewN | apply below_drew1 | refine below_set ?_ GE337.out | refine below_set ?_ GE354.out) | exact HB.out)⟩⟩
               ·rw [if_neg c70] at H
                have c70b0 : (t371 == 0) = false := beq_eq_false_iff_ne.mpr c70
                have c70b1 : (t371 != 0) = true := bne_iff_ne.mpr c70
                have H' := Aside0.mk H
                clear H
                (first | (have hcv86 := own_string (P := Tryd.prog) Tryd.underlying22 Tryd.underlying5 Tryd.underlying9 (Kd.own_of_R HO_8.out); have hcv86q := fun (q_ : Nat) => own_string (P := Tryd.prog) Tryd.underlying22 Tryd.underlying5 Tryd.underlying9 (pw_own_drewN (Kd.own_of_R HO_8.out) q_)) | (have hcv86 := V_string (P := Tryd.prog) Tryd.underlying22 Tryd.underlying5 Tryd.underlying9 HO_8.out; have hcv86q := fun (q_ : Nat) => V_string (P := Tryd.prog) Tryd.underlying22 Tryd.underlying5 Tryd.underlying9 (Kd.V_drewN HO_8.out q_)))
                (first | (have hcv87 := own_string (P := Tryd.prog) Tryd.underlying22 Tryd.underlying5 Tryd.underlying9 (Kd.own_of_R HO_6.out); have hcv87q := fun (q_ : Nat) => own_string (P := Tryd.prog) Tryd.underlying22 Tryd.underlying5 Tryd.underlying9 (pw_own_drewN (Kd.own_of_R HO_6.out) q_)) | (have hcv87 := V_string (P := Tryd.prog) Tryd.underlying22 Tryd.underlying5 Tryd.underlying9 HO_6.out; have hcv87q := fun (q_ : Nat) => V_string (P := Tryd.prog) Tryd.underlying22 Tryd.underlying5 Tryd.underlying9 (Kd.V_drewN HO_6.out q_)))
                go_wp2
                go_meet
                case rel => exact ⟨_, (false), (by first | rfl | (simp; done) | (simp [*]; done)), H', ⟨by have := HK1.out; have := HK2.out; first | omega | exact Nat.le_refl _⟩, ⟨by (with_reducible repeat (first | refine blk_drewN ?_ _ | refine blk_drew ?_ | refine blk_alloc ?_ _)); exact BK337.out⟩, ⟨by (with_reducible repeat (first | refine blk_drewN ?_ _ | refine blk_drew ?_ | refine blk_alloc ?_ _)); exact BK354.out⟩, ⟨by repeat (first | (with_reducible first | exact HB.out | apply below_alloc | apply pw_below_drewN | apply below_drew1 | refine below_set ?_ GE337.out | refine below_set ?_ GE354.out) | exact HB.out)⟩⟩
              ·rw [if_neg c69] at H
               have c69b0 : ((strOfNums t350).toList == (((⟨#[39]⟩ : ByteArray) ++ (strOfNums x6_1)) ++ (⟨#[39]⟩ : ByteArray)).toList) = false := beq_eq_false_iff_ne.mpr c69
               have c69b1 : ((strOfNums t350).toList != (((⟨#[39]⟩ : ByteArray) ++ (strOfNums x6_1)) ++ (⟨#[39]⟩ : ByteArray)).toList) = true := bne_iff_ne.mpr c69
               have H' := Aside0.mk H
               clear H
               (first | (have hcv88 := own_string (P := Tryd.prog) Tryd.underlying22 Tryd.underlying5 Tryd.underlying9 (Kd.own_of_R HO_8.out); have hcv88q := fun (q_ : Nat) => own_string (P := Tryd.prog) Tryd.underlying22 Tryd.underlying5 Tryd.underlying9 (pw_own_drewN (Kd.own_of_R HO_8.out) q_)) | (have hcv88 := V_string (P := Tryd.prog) Tryd.underlying22 Tryd.underlying5 Tryd.underlying9 HO_8.out; have hcv88q := fun (q_ : Nat) => V_string (P := Tryd.prog) Tryd.underlying22 Tryd.underlying5 Tryd.underlying9 (Kd.V_drewN HO_8.out q_)))
               (first | (have hcv89 := own_string (P := Tryd.prog) Tryd.underlying22 Tryd.underlying5 Tryd.underlying9 (Kd.own_of_R HO_6.out); have hcv89q := fun (q_ : Nat) => own_string (P := Tryd.prog) Tryd.underlying22 Tryd.underlying5 Tryd.underlying9 (pw_own_drewN (Kd.own_of_R HO_6.out) q_)) | (have hcv89 := V_string (P := Tryd.prog) Tryd.underlying22 Tryd.underlying5 Tryd.underlying9 HO_6.out; have hcv89q := fun (q_ : Nat) => V_string (P := Tryd.prog) Tryd.underlying22 Tryd.underlying5 Tryd.underlying9 (Kd.V_drewN HO_6.out q_)))
               go_wp2
               go_meet
               case rel => exact ⟨_, (false), (by first | rfl | (simp; done) | (simp [*]; done)), H', ⟨by have := HK1.out; have := HK2.out; first | omega | exact Nat.le_refl _⟩, ⟨by (with_reducible repeat (first | refine blk_drewN ?_ _ | refine blk_drew ?_ | refine blk_alloc ?_ _)); exact BK337.out⟩, ⟨by (with_reducible repeat (first | refine blk_drewN ?_ _ | refine blk_drew ?_ | refine blk_alloc ?_ _)); exact BK354.out⟩, ⟨by repeat (first | (with_reducible first | exact HB.out | apply below_alloc | apply pw_below_drewN | apply below_drew1 | refine below_set ?_ GE337.out | refine below_set ?_ GE354.out) | exact HB.out)⟩⟩
             ·rw [if_neg c68] at H
              exact absurd H (by simp)
            ·rw [if_neg c67] at H
             exact absurd H (by simp)
           ·rw [if_neg c66] at H
            have c66b0 : (t351 == 0) = false := beq_eq_false_iff_ne.mpr c66
            have c66b1 : (t351 != 0) = true := bne_iff_ne.mpr c66
            (first | rw [c66b0] | (simp only [i64_w, i32_w]; rw [c66b0]) | skip)
            have H' := Aside0.mk H
            clear H
            go_wp2
            go_meet
            case rel => exact ⟨_, (false), (by first | rfl | (simp; done) | (simp [*]; done)), H', ⟨by have := HK1.out; have := HK2.out; first | omega | exact Nat.le_refl _⟩, ⟨by (with_reducible repeat (first | refine blk_drewN ?_ _ | refine blk_drew ?_ | refine blk_alloc ?_ _)); exact BK337.out⟩, ⟨by (with_reducible repeat (first | refine blk_drewN ?_ _ | refine blk_drew ?_ | refine blk_alloc ?_ _)); exact BK354.out⟩, ⟨by repeat (first | (with_reducible first | exact HB.out | apply below_alloc | apply pw_below_drewN | apply below_drew1 | refine below_set ?_ GE337.out | refine below_set ?_ GE354.out) | exact HB.out)⟩⟩
          ·replace c65 := Bool.eq_false_iff.mpr c65
           subst c65
           have H1 : (tmesislaw04_QuotePlain.j4 k2 false) = some r := by rw [if_neg (show ¬ (false = true) by decide)] at H; exact H
           clear H
           have H := H1
           clear H1
           have H' := Aside0.mk H
           clear H
           go_wp2
           go_meet
           case rel => exact ⟨_, (false), (by first | rfl | (simp; done) | (simp [*]; done)), H', ⟨by have := HK1.out; have := HK2.out; first | omega | exact Nat.le_refl _⟩, ⟨by (with_reducible repeat (first | refine blk_drewN ?_ _ | refine blk_drew ?_ | refine blk_alloc ?_ _)); exact BK337.out⟩, ⟨by (with_reducible repeat (first | refine blk_drewN ?_ _ | refine blk_drew ?_ | refine blk_alloc ?_ _)); exact BK354.out⟩, ⟨by repeat (first | (with_reducible first | exact HB.out | apply below_alloc | apply pw_below_drewN | apply below_drew1 | refine below_set ?_ GE337.out | refine below_set ?_ GE354.out) | exact HB.out)⟩⟩
         case rest =>
          clear HC60
          try clear c1
          try clear p1
          try clear q1
          try clear hx1
          try clear c2
          try clear p2
          try clear c3
          try clear p3
          try clear q3
          try clear hx3
          try clear c4
          try clear c5
          try clear c6
          try clear p6
          try clear c7
          try clear hcv7
          try clear c8
          try clear hcv8
          try clear c9
          try clear c10
          try clear c12
          try clear c13
          try clear c13b0
          try clear c14
          try clear c14b0
          try clear p15
          try clear q15
          try clear hx15
          try clear hf15
          try clear c20
          try clear c24
          try clear c29
          try clear c29b0
          try clear c31
          try clear c31b0
          try clear c31b1
          try clear c32
          try clear c32b0
          try clear c33
          try clear c34
          try clear p34
          try clear q34
          try clear hx34
          try clear c38
          try clear c40
          try clear c40b0
          try clear c40b1
          try clear c41
          try clear c41b0
          try clear c42
          try clear c43
          try clear c47
          try clear c49
          try clear c49b0
          try clear c49b1
          try clear c50
          try clear c50b0
          try clear c51
          try clear c52
          try clear c56
          try clear p64
          try clear c65
          try clear c66
          try clear c66b0
          try clear c66b1
          try clear c67
          try clear c67b0
          try clear c67b1
          try clear c67b2
          try clear c68
          try clear c68b0
          try clear c68b1
          try clear c68b2
          try clear c69
          try clear c69b0
          try clear c69b1
          try clear c70
          try clear c70b0
          try clear c70b1
          try clear c71
          try clear c71b0
          try clear c71b1
          try clear c72
          try clear c72b0
          try clear c72b1
          try clear c73
          try clear c73b0
          try clear c73b1
          try clear hcv74
          try clear hcv75
          try clear hcv76
          try clear hcv77
          try clear hcv78
          try clear hcv79
          try clear hcv80
          try clear hcv81
          try clear hcv82
          try clear hcv83
          try clear hcv84
          try clear hcv85
          try clear hcv86
          try clear hcv87
          try clear hcv88
          try clear hcv89
          try clear hcz25_0
          try clear hcz25_1
          try clear hcz25_2
          try clear hcz35_0
          try clear hcz35_1
          try clear hcz35_2
          try clear hcz36_0
          try clear hcz36_1
          try clear hcz36_2
          try clear hcz39_0
          try clear hcz39_1
          try clear hcz39_2
          try clear hcz44_0
          try clear hcz44_1
          try clear hcz44_2
          try clear hcz45_0
          try clear hcz45_1
          try clear hcz45_2
          try clear hcz48_0
          try clear hcz48_1
          try clear hcz48_2
          try clear hcz53_0
          try clear hcz53_1
          try clear hcz53_2
          try clear hcz54_0
          try clear hcz54_1
          try clear hcz54_2
          try clear hcz57_0
          try clear hcz57_1
          try clear hcz57_2
          try clear hfz25_0
          try clear hfz25_1
          try clear hfz25_2
          try clear hfz35_0
          try clear hfz35_1
          try clear hfz35_2
          try clear hfz36_0
          try clear hfz36_1
          try clear hfz36_2
          try clear hfz39_0
          try clear hfz39_1
          try clear hfz39_2
          try clear hfz44_0
          try clear hfz44_1
          try clear hfz44_2
          try clear hfz45_0
          try clear hfz45_1
          try clear hfz45_2
          try clear hfz48_0
          try clear hfz48_1
          try clear hfz48_2
          try clear hfz53_0
          try clear hfz53_1
          try clear hfz53_2
          try clear hfz54_0
          try clear hfz54_1
          try clear hfz54_2
          try clear hfz57_0
          try clear hfz57_1
          try clear hfz57_2
          try clear hx15_0
          try clear hx348_0
          try clear p1
          try clear p15
          try clear p2
          try clear p3
          try clear p34
          try clear p348
          try clear p6
          try clear q1
          try clear q15
          try clear q3
          try clear q34
          try clear q348
          obtain ⟨kq, x4_59, rfl, HA, HJ59, BK337, BK354, HB⟩ := hcut
          cases kq with
          | zero => exact absurd HA.out (by simp [tmesislaw04_QuotePlain.j4])
          | succ kj59 =>
           have H := HA.out
           clear HA
           simp only [tmesislaw04_QuotePlain.j4] at H
           obtain rfl := Option.some.inj H
           go_wp2
           go_ret
           exact ⟨by first | rfl | (simp [errW_none, errW_some] <;> rfl) | (simp [*, errW_none, errW_some] <;> rfl), by repeat (first | (with_reducible first | exact HB.out | apply below_alloc | apply pw_below_drewN | apply below_drew1 | refine below_set ?_ GE337.out | refine below_set ?_ GE354.out) | exact HB.out)⟩
     ·rw [if_neg c20] at H
      exact absurd H (by simp)
 ·rw [if_neg c5] at H
  exact absurd H (by simp)
/-- THE ONE PURE STATEMENT of tmesislaw04_QuotePlain: yours. -/
def tmesislaw04_QuotePlain.Pure : Prop := ∀ (l0 : List Int) (a1_0 : Int) (a1_1 : Int) (a1_2 : Int), l0.length ≤ maxLen → l0.length * 1 ≤ 140737488351232 → (∀ x ∈ l0, (Lit.int .u8 x).wf = true) → (Lit.int .u8 a1_0).wf = true → (Lit.int .u8 a1_1).wf = true → (Lit.int .u8 a1_2).wf = true → ∃ k, tmesislaw04_QuotePlain.f k l0 a1_0 a1_1 a1_2 = some true
theorem tmesislaw04_QuotePlain.walk (P : tmesislaw04_QuotePlain.Pure) (a0 : Option Addr) (len0 cap0 : Nat) (z0 : List Int) (a1_0 : Int) (a1_1 : Int) (a1_2 : Int) (w : World) (hG : Gl w) (w0 : (a0 = none ∧ len0 = 0 ∧ cap0 = 0 ∧ z0 = []) ∨ ∃ x, a0 = some x ∧ len0 ≤ cap0 ∧ cap0 ≤ maxLen ∧ z0.length = cap0 ∧ (∀ i, i < z0.length → w.cell? (x.add i) = some (.int .u8 (z0.getD i 0))) ∧ ∀ n ∈ z0, (Lit.int .u8 n).wf = true) (y0 : len0 * 1 ≤ 140737488351232) (w1_0 : (Lit.int .u8 a1_0).wf = true) (w1_1 : (Lit.int .u8 a1_1).wf = true) (w1_2 : (Lit.int .u8 a1_2).wf = true) :
  Calls Tryd.prog 5 #[.slice a0 len0 cap0, .agg #[.int .u8 a1_0, .int .u8 a1_1, .int .u8 a1_2]] w fun e w' => e = .returned (.bool true) ∧ Below w.heap.size w w' := by
 obtain ⟨l0, rfl, hr0, hm0, hw0, hc0⟩ := ReadsInt.ofRowC w0
 obtain ⟨k, h⟩ := P l0 a1_0 a1_1 a1_2 hm0 y0 hw0 w1_0 w1_1 w1_2
 refine (tmesislaw04_QuotePlain.calls k _ _ l0 a1_0 a1_1 a1_2 true w hG (Kd.C_of_reads (d := (0 : Int)) (h1 := fun _ => rfl) hr0) hc0 h).mono ?_
 rintro e w' ⟨rfl, hd⟩
 exact ⟨rfl, hd⟩
end Go.Proofs.YtkicabbgcopjdaaDoor.P
