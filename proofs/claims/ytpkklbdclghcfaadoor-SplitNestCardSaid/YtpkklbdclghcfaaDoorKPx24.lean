/- Part of the proof: what the theorem needs of this text. -/
import Derived.Test.YtpkklbdclghcfaaDoorKHG
import Derived.Test.YtpkklbdclghcfaaDoorKPx0
import Derived.Test.YtpkklbdclghcfaaDoorKPx10
namespace Go.Proofs.YtpkklbdclghcfaaDoor.P
open Go.RowKit Go.Proofs.YtpkklbdclghcfaaDoorW.PrintWords Go.Proofs.YtpkklbdclghcfaaDoorW.PrintLast Go.Proofs.YtpkklbdclghcfaaDoorW.PrintMore
attribute [local go_sem] max2_int min2_int max_two min_two max_three min_three max_four min_four   -- for this text's walks alone
set_option linter.unusedVariables false
set_option linter.unusedSimpArgs false
mutual
def tmesislaw10_SplitNest.l0 : Nat → Bool → List (S38) → Int → Int → Int → Int → Int → Option (Bool)
 | 0, _, _, _, _, _, _, _ => none
 | k + 1, x3, x4, x5, x588000, x588001, x588002, x588003 => if x5 < 4 then (if (Int.tmod x5 2) = 0 then (tmesislaw10_SplitNest.j1 k x3 x4 x5 (⟨#[41]⟩ : ByteArray) x588000 x588001 x588002 x588003) else (tmesislaw10_SplitNest.j1 k x3 x4 x5 (⟨#[40]⟩ : ByteArray) x588000 x588001 x588002 x588003)) else (if x3 = true then ((split_Nest.f k 0 0 0 x4).bind fun t604 => (tmesislaw10_SplitNest.j4 k (t604 == (mx (Int.tmod (wrap64 (x588001)) 16) (wrap64 ((mx (wrap64 ((Int.tmod (wrap64 (x588001)) 16) - (Int.tmod (wrap64 (x588002)) 16))) 0) + (Int.tmod (wrap64 (x588003)) 16))))))) else (tmesislaw10_SplitNest.j4 k false))
def tmesislaw10_SplitNest.j3 : Nat → Bool → List (S38) → Int → Int → Int → Int → Int → Option (Bool)
 | 0, _, _, _, _, _, _, _ => none
 | k + 1, x3, x4, x5, x588000, x588001, x588002, x588003 => tmesislaw10_SplitNest.l0 k x3 x4 (wrap64 (x5 + 1)) x588000 x588001 x588002 x588003
def tmesislaw10_SplitNest.j1 : Nat → Bool → List (S38) → Int → ByteArray → Int → Int → Int → Int → Option (Bool)
 | 0, _, _, _, _, _, _, _, _ => none
 | k + 1, x3, x4, x5, x6, x588000, x588001, x588002, x588003 => tmesislaw10_SplitNest.l1 k x3 x4 x5 x6 0 x588000 x588001 x588002 x588003
def tmesislaw10_SplitNest.l1 : Nat → Bool → List (S38) → Int → ByteArray → Int → Int → Int → Int → Int → Option (Bool)
 | 0, _, _, _, _, _, _, _, _, _ => none
 | k + 1, x3, x4, x5, x6, x7, x588000, x588001, x588002, x588003 => if x5 = 0 then (if x7 < (Int.tmod (wrap64 (x588000)) 16) then (if x4.length < 2932031007402 then (tmesislaw10_SplitNest.l1 k x3 (x4 ++ [(⟨6, 0, 0, x6, 0⟩ : S38)]) x5 x6 (wrap64 (x7 + 1)) x588000 x588001 x588002 x588003) else (none)) else (tmesislaw10_SplitNest.j3 k x3 x4 x5 x588000 x588001 x588002 x588003)) else (if x5 = 1 then (if x7 < (Int.tmod (wrap64 (x588001)) 16) then (if x4.length < 2932031007402 then (tmesislaw10_SplitNest.l1 k x3 (x4 ++ [(⟨6, 0, 0, x6, 0⟩ : S38)]) x5 x6 (wrap64 (x7 + 1)) x588000 x588001 x588002 x588003) else (none)) else (tmesislaw10_SplitNest.j3 k x3 x4 x5 x588000 x588001 x588002 x588003)) else (if x5 = 2 then (if x7 < (Int.tmod (wrap64 (x588002)) 16) then (if x4.length < 2932031007402 then (tmesislaw10_SplitNest.l1 k x3 (x4 ++ [(⟨6, 0, 0, x6, 0⟩ : S38)]) x5 x6 (wrap64 (x7 + 1)) x588000 x588001 x588002 x588003) else (none)) else (tmesislaw10_SplitNest.j3 k x3 x4 x5 x588000 x588001 x588002 x588003)) else (if x5 = 3 then (if x7 < (Int.tmod (wrap64 (x588003)) 16) then (if x4.length < 2932031007402 then (tmesislaw10_SplitNest.l1 k x3 (x4 ++ [(⟨6, 0, 0, x6, 0⟩ : S38)]) x5 x6 (wrap64 (x7 + 1)) x588000 x588001 x588002 x588003) else (none)) else (tmesislaw10_SplitNest.j3 k x3 x4 x5 x588000 x588001 x588002 x588003)) else (none))))
def tmesislaw10_SplitNest.j4 : Nat → Bool → Option (Bool)
 | 0, _ => none
 | k + 1, x2 => some x2
end
def tmesislaw10_SplitNest.f (k : Nat) (a0_0 : Int) (a0_1 : Int) (a0_2 : Int) (a0_3 : Int) : Option (Bool) := (tmesislaw10_shown.f k).bind fun t588 => (tmesislaw10_SplitNest.l0 k t588 (([] : List (S38))) 0 a0_0 a0_1 a0_2 a0_3)
theorem tmesislaw10_SplitNest.mono_l : ∀ k, (∀ y0 y1 y2 y3 y4 y5 y6, LeO (tmesislaw10_SplitNest.l0 k y0 y1 y2 y3 y4 y5 y6) (tmesislaw10_SplitNest.l0 (k + 1) y0 y1 y2 y3 y4 y5 y6)) ∧ (∀ y0 y1 y2 y3 y4 y5 y6, LeO (tmesislaw10_SplitNest.j3 k y0 y1 y2 y3 y4 y5 y6) (tmesislaw10_SplitNest.j3 (k + 1) y0 y1 y2 y3 y4 y5 y6)) ∧ (∀ y0 y1 y2 y3 y4 y5 y6 y7, LeO (tmesislaw10_SplitNest.j1 k y0 y1 y2 y3 y4 y5 y6 y7) (tmesislaw10_SplitNest.j1 (k + 1) y0 y1 y2 y3 y4 y5 y6 y7)) ∧ (∀ y0 y1 y2 y3 y4 y5 y6 y7 y8, LeO (tmesislaw10_SplitNest.l1 k y0 y1 y2 y3 y4 y5 y6 y7 y8) (tmesislaw10_SplitNest.l1 (k + 1) y0 y1 y2 y3 y4 y5 y6 y7 y8)) ∧ (∀ y0, LeO (tmesislaw10_SplitNest.j4 k y0) (tmesislaw10_SplitNest.j4 (k + 1) y0))
 | 0 => ⟨fun _ _ _ _ _ _ _ r h => by simp [tmesislaw10_SplitNest.l0] at h, fun _ _ _ _ _ _ _ r h => by simp [tmesislaw10_SplitNest.j3] at h, fun _ _ _ _ _ _ _ _ r h => by simp [tmesislaw10_SplitNest.j1] at h, fun _ _ _ _ _ _ _ _ _ r h => by simp [tmesislaw10_SplitNest.l1] at h, fun _ r h => by simp [tmesislaw10_SplitNest.j4] at h⟩
 | k + 1 => by
  obtain ⟨ih0, ih1, ih2, ih3, ih4⟩ := tmesislaw10_SplitNest.mono_l k
  refine ⟨?_, ?_, ?_, ?_, ?_⟩
  ·intro y0 y1 y2 y3 y4 y5 y6
   unfold tmesislaw10_SplitNest.l0
   repeat' first
   | (with_reducible exact ih0 _ _ _ _ _ _ _)
   | (with_reducible exact ih1 _ _ _ _ _ _ _)
   | (with_reducible exact ih2 _ _ _ _ _ _ _ _)
   | (with_reducible exact ih3 _ _ _ _ _ _ _ _ _)
   | (with_reducible exact ih4 _)
   | (with_reducible exact split_Nest.mono _ _ _ _ _)
   | (with_reducible exact tmesislaw10_shown.mono _)
   | (with_reducible exact LeO.refl _)
   | (with_reducible exact LeO.none _)
   | (with_reducible refine LeO.ite ?_ ?_)
   | (with_reducible refine LeO.bind ?_ (fun _ => ?_))
   | exact ih0 _ _ _ _ _ _ _
   | exact ih1 _ _ _ _ _ _ _
   | exact ih2 _ _ _ _ _ _ _ _
   | exact ih3 _ _ _ _ _ _ _ _ _
   | exact ih4 _
   | exact split_Nest.mono _ _ _ _ _
   | exact tmesislaw10_shown.mono _
   | exact LeO.none _
   | refine LeO.ite ?_ ?_
   | refine LeO.bind ?_ (fun _ => ?_)
  ·intro y0 y1 y2 y3 y4 y5 y6
   unfold tmesislaw10_SplitNest.j3
   repeat' first
   | (with_reducible exact ih0 _ _ _ _ _ _ _)
   | (with_reducible exact ih1 _ _ _ _ _ _ _)
   | (with_reducible exact ih2 _ _ _ _ _ _ _ _)
   | (with_reducible exact ih3 _ _ _ _ _ _ _ _ _)
   | (with_reducible exact ih4 _)
   | (with_reducible exact split_Nest.mono _ _ _ _ _)
   | (with_reducible exact tmesislaw10_shown.mono _)
   | (with_reducible exact LeO.refl _)
   | (with_reducible exact LeO.none _)
   | (with_reducible refine LeO.ite ?_ ?_)
   | (with_reducible refine LeO.bind ?_ (fun _ => ?_))
   | exact ih0 _ _ _ _ _ _ _
   | exact ih1 _ _ _ _ _ _ _
   | exact ih2 _ _ _ _ _ _ _ _
   | exact ih3 _ _ _ _ _ _ _ _ _
   | exact ih4 _
   | exact split_Nest.mono _ _ _ _ _
   | exact tmesislaw10_shown.mono _
   | exact LeO.none _
   | refine LeO.ite ?_ ?_
   | refine LeO.bind ?_ (fun _ => ?_)
  ·intro y0 y1 y2 y3 y4 y5 y6 y7
   unfold tmesislaw10_SplitNest.j1
   repeat' first
   | (with_reducible exact ih0 _ _ _ _ _ _ _)
   | (with_reducible exact ih1 _ _ _ _ _ _ _)
   | (with_reducible exact ih2 _ _ _ _ _ _ _ _)
   | (with_reducible exact ih3 _ _ _ _ _ _ _ _ _)
   | (with_reducible exact ih4 _)
   | (with_reducible exact split_Nest.mono _ _ _ _ _)
   | (with_reducible exact tmesislaw10_shown.mono _)
   | (with_reducible exact LeO.refl _)
   | (with_reducible exact LeO.none _)
   | (with_reducible refine LeO.ite ?_ ?_)
   | (with_reducible refine LeO.bind ?_ (fun _ => ?_))
   | exact ih0 _ _ _ _ _ _ _
   | exact ih1 _ _ _ _ _ _ _
   | exact ih2 _ _ _ _ _ _ _ _
   | exact ih3 _ _ _ _ _ _ _ _ _
   | exact ih4 _
   | exact split_Nest.mono _ _ _ _ _
   | exact tmesislaw10_shown.mono _
   | exact LeO.none _
   | refine LeO.ite ?_ ?_
   | refine LeO.bind ?_ (fun _ => ?_)
  ·intro y0 y1 y2 y3 y4 y5 y6 y7 y8
   unfold tmesislaw10_SplitNest.l1
   repeat' first
   | (with_reducible exact ih0 _ _ _ _ _ _ _)
   | (with_reducible exact ih1 _ _ _ _ _ _ _)
   | (with_reducible exact ih2 _ _ _ _ _ _ _ _)
   | (with_reducible exact ih3 _ _ _ _ _ _ _ _ _)
   | (with_reducible exact ih4 _)
   | (with_reducible exact split_Nest.mono _ _ _ _ _)
   | (with_reducible exact tmesislaw10_shown.mono _)
   | (with_reducible exact LeO.refl _)
   | (with_reducible exact LeO.none _)
   | (with_reducible refine LeO.ite ?_ ?_)
   | (with_reducible refine LeO.bind ?_ (fun _ => ?_))
   | exact ih0 _ _ _ _ _ _ _
   | exact ih1 _ _ _ _ _ _ _
   | exact ih2 _ _ _ _ _ _ _ _
   | exact ih3 _ _ _ _ _ _ _ _ _
   | exact ih4 _
   | exact split_Nest.mono _ _ _ _ _
   | exact tmesislaw10_shown.mono _
   | exact LeO.none _
   | refine LeO.ite ?_ ?_
   | refine LeO.bind ?_ (fun _ => ?_)
  ·intro y0
   unfold tmesislaw10_SplitNest.j4
   repeat' first
   | (with_reducible exact ih0 _ _ _ _ _ _ _)
   | (with_reducible exact ih1 _ _ _ _ _ _ _)
   | (with_reducible exact ih2 _ _ _ _ _ _ _ _)
   | (with_reducible exact ih3 _ _ _ _ _ _ _ _ _)
   | (with_reducible exact ih4 _)
   | (with_reducible exact split_Nest.mono _ _ _ _ _)
   | (with_reducible exact tmesislaw10_shown.mono _)
   | (with_reducible exact LeO.refl _)
   | (with_reducible exact LeO.none _)
   | (with_reducible refine LeO.ite ?_ ?_)
   | (with_reducible refine LeO.bind ?_ (fun _ => ?_))
   | exact ih0 _ _ _ _ _ _ _
   | exact ih1 _ _ _ _ _ _ _
   | exact ih2 _ _ _ _ _ _ _ _
   | exact ih3 _ _ _ _ _ _ _ _ _
   | exact ih4 _
   | exact split_Nest.mono _ _ _ _ _
   | exact tmesislaw10_shown.mono _
   | exact LeO.none _
   | refine LeO.ite ?_ ?_
   | refine LeO.bind ?_ (fun _ => ?_)
theorem tmesislaw10_SplitNest.mono : ∀ a0 a1 a2 a3 k, LeO (tmesislaw10_SplitNest.f k a0 a1 a2 a3) (tmesislaw10_SplitNest.f (k + 1) a0 a1 a2 a3) := by
 intro a0 a1 a2 a3 k
 obtain ⟨ih0, ih1, ih2, ih3, ih4⟩ := tmesislaw10_SplitNest.mono_l k
 unfold tmesislaw10_SplitNest.f
 repeat' first
   | (with_reducible exact ih0 _ _ _ _ _ _ _)
   | (with_reducible exact ih1 _ _ _ _ _ _ _)
   | (with_reducible exact ih2 _ _ _ _ _ _ _ _)
   | (with_reducible exact ih3 _ _ _ _ _ _ _ _ _)
   | (with_reducible exact ih4 _)
   | (with_reducible exact split_Nest.mono _ _ _ _ _)
   | (with_reducible exact tmesislaw10_shown.mono _)
   | (with_reducible exact LeO.refl _)
   | (with_reducible exact LeO.none _)
   | (with_reducible refine LeO.ite ?_ ?_)
   | (with_reducible refine LeO.bind ?_ (fun _ => ?_))
   | exact ih0 _ _ _ _ _ _ _
   | exact ih1 _ _ _ _ _ _ _
   | exact ih2 _ _ _ _ _ _ _ _
   | exact ih3 _ _ _ _ _ _ _ _ _
   | exact ih4 _
   | exact split_Nest.mono _ _ _ _ _
   | exact tmesislaw10_shown.mono _
   | exact LeO.none _
   | refine LeO.ite ?_ ?_
   | refine LeO.bind ?_ (fun _ => ?_)
def tmesislaw10_SplitNest.T15 : Bool × List (List Nat × List Nat) := (true, [([], []), ([0], [0]), ([1], [1]), ([2, 1], [1, 2]), ([3, 1, 1], [1, 3]), ([1], [1]), ([1], [1]), ([1], [1]), ([7, 1], [1, 7]), ([8, 1], [1, 8]), ([9, 1], [1, 9]), ([6, 10, 1], [1, 6, 10]), ([5, 11, 1], [1, 5, 11]), ([4, 12, 1], [1, 4, 12]), ([1, 13], [1, 13]), ([14, 4, 0, 1, 2, 3, 4, 5, 6, 7, 8, 9, 10, 11, 12, 13, 14], [14])])
def tmesislaw10_SplitNest.B15 : List Nat := [0, 1, 3, 7, 15, 3, 3, 3, 131, 387, 899, 1987, 4067, 8191, 16383, 32767]
theorem tmesislaw10_SplitNest.tab15 : rtab .any (opsOf Tryd.f6 15) = tmesislaw10_SplitNest.T15 := by kernel_rfl
theorem tmesislaw10_SplitNest.bits15 : waitsOk tmesislaw10_SplitNest.T15.2 tmesislaw10_SplitNest.B15 = true := by kernel_rfl
set_option maxHeartbeats 8000000 in
set_option maxRecDepth 100000 in
theorem tmesislaw10_SplitNest.calls (k : Nat) (a0_0 : Int) (a0_1 : Int) (a0_2 : Int) (a0_3 : Int) (r : Bool) (w : World) (hG : Gl w) (h : tmesislaw10_SplitNest.f k a0_0 a0_1 a0_2 a0_3 = some r) :
  Calls Tryd.prog 6 #[.agg #[.int .u8 a0_0, .int .u8 a0_1, .int .u8 a0_2, .int .u8 a0_3]] w fun e w' => e = .returned (.bool r) ∧ Below w.heap.size w w' := by
 have hu44 := Tryd.underlying44
 have hu38 := Tryd.underlying38
 have hu25 := Tryd.underlying25
 have HB := Aside0.mk (Below.refl w.heap.size w)
 have HG := Aside0.mk hG
 clear hG
 have H : ((tmesislaw10_shown.f k).bind fun t588 => (tmesislaw10_SplitNest.l0 k t588 (([] : List (S38))) 0 a0_0 a0_1 a0_2 a0_3)) = some r := h
 clear h
 replace H := Option.bind_eq_some_iff.mp H
 obtain ⟨t588, A20, H⟩ := H
 replace H : (tmesislaw10_SplitNest.l0 k t588 (([] : List (S38))) 0 a0_0 a0_1 a0_2 a0_3) = some r := H
 have A2 := Aside0.mk A20
 clear A20
 obtain ⟨y589, hy589⟩ : ∃ y_ : List (S38), y_ = (([] : List (S38))) := ⟨_, rfl⟩
 replace H : (tmesislaw10_SplitNest.l0 k t588 y589 0 a0_0 a0_1 a0_2 a0_3) = some r := by first | (rw [hy589]; with_reducible exact H) | (have H2_ := (Option.bind_some _ _).symm.trans H; rw [hy589]; with_reducible exact H2_) | (have H2_ := (Option.bind_some _ _).symm.trans H; with_reducible exact H2_) | with_reducible exact H | (rw [hy589]; exact H) | exact H
 have Ny589 := Aside0.mk hy589
 clear hy589
 have H' := Aside0.mk H
 clear H
 go_enter Tryd.func6, Tryd.ntmps6
 go_wp2_with (first | ((with_reducible refine gate_dst (N := 1) rfl ?_); (try (refine gate_guard (by rfl) ?_; dsimp only)); refine box_event ?hg (N := 1) ?hd (cs := #[.int .u8 a0_0, .int .u8 a0_1, .int .u8 a0_2, .int .u8 a0_3]) (t := 44) ?hr ?_; (case hd => rfl); (case hg => rfl); (case hr => first | (go_simp; done) | (go_simp; rfl)); intro gb587 hg w3 hbox hb; have n0_ := Aside0.mk (below_step (by repeat (first | (with_reducible first | exact HB.out | apply below_alloc | apply pw_below_drewN | apply below_drew1) | exact HB.out)) hb); have n1_ := Aside0.mk (hbox); have n2_ := Aside0.mk ((by rw [hg]; exact (below_size (by repeat (first | (with_reducible first | exact HB.out | apply below_alloc | apply pw_below_drewN | apply below_drew1) | exact HB.out))) : w.heap.size ≤ gb587)); have n3_ := Aside0.mk ((by rw [hg]; exact (below_size (by repeat (first | (with_reducible first | exact HB.out | apply below_alloc | apply pw_below_drewN | apply below_drew1) | exact HB.out))) : w.heap.size ≤ gb587)); clear HB; have HB := n0_; have BK587 := n1_; have GW587 := n2_; have GE587 := n3_; clear n0_ n1_ n2_ n3_; clear hb hbox hg) | ((with_reducible refine gate_callee (f := 8) rfl ?_); refine goesL_ (some 10) rfl rfl Tryd.func8 (by kernel_rfl) rfl #[] rfl (by (try simp only [List.map_toArray, List.map_cons, List.map_nil]); first | done | rfl | (simp only [List.length_drop, List.length_take]; rfl)) ?_; (with_reducible refine (tmesislaw10_shown.calls k  t588 _ ?side1 A2.out).mono ?_); (case side1 => exact Gl.below HG.out (by repeat (first | (with_reducible first | exact HB.out | apply below_alloc | apply pw_below_drewN | apply below_drew1 | refine below_set ?_ GE587.out) | exact HB.out))); rintro e w4 ⟨rfl, hb⟩; refine ⟨_, rfl, ?_⟩; have n0_ := Aside0.mk (blk_below (g := gb587) (o := .cells #[.int .u8 a0_0, .int .u8 a0_1, .int .u8 a0_2, .int .u8 a0_3] 44 (0, 0)) (by (with_reducible repeat (first | refine blk_drewN ?_ _ | refine blk_drew ?_ | refine blk_alloc ?_ _)); exact BK587.out) hb); have n1_ := Aside0.mk (below_step (by repeat (first | (with_reducible first | exact HB.out | apply below_alloc | apply pw_below_drewN | apply below_drew1 | refine below_set ?_ GE587.out) | exact HB.out)) hb); clear BK587; clear HB; have BK587 := n0_; have HB := n1_; clear n0_ n1_; (try clear hb); (try clear hb2); (try clear hk); (try clear hi)) | ((with_reducible refine gate_dst (N := 11) rfl ?_); (try (refine gate_guard (by rfl) ?_; dsimp only)); refine Kd.R_lit k38 _ 38 ?hg (N := 11) ?hd (xs := ([] : List (S38))) (inner := []) (ok := fun _ => True) (okp := fun _ => True) ?hr ?hp (fun _ hk => hk) trivial (Below.refl _ _) (Nat.le_refl _) (by simp) ?_; (case hd => rfl); (case hg => rfl); (case hr => first | (go_simp; done) | (go_simp; rfl)); (case hp => exact (Reps.none _ _)); intro v590 w5 ho6 hb hg_ hnew_; clear hg_ hnew_; (first | rw [← Ny589.out] at ho6 | (simp only [Int.reduceToNat] at ho6; rw [← Ny589.out] at ho6)); have n0_ := Aside0.mk (Kd.R_lower ho6 (below_size (by repeat (first | (with_reducible first | exact HB.out | apply below_alloc | apply pw_below_drewN | apply below_drew1 | refine below_set ?_ GE587.out) | exact HB.out)))); have n1_ := Aside0.mk (blk_below (g := gb587) (o := .cells #[.int .u8 a0_0, .int .u8 a0_1, .int .u8 a0_2, .int .u8 a0_3] 44 (0, 0)) (by (with_reducible repeat (first | refine blk_drewN ?_ _ | refine blk_drew ?_ | refine blk_alloc ?_ _)); exact BK587.out) hb); have n2_ := Aside0.mk (below_step (by repeat (first | (with_reducible first | exact HB.out | apply below_alloc | apply pw_below_drewN | apply below_drew1 | refine below_set ?_ GE587.out) | exact HB.out)) hb); clear BK587; clear HB; have HO591 := n0_; have BK587 := n1_; have HB := n2_; clear n0_ n1_ n2_; clear hb ho6))
 go_loopg [4, 5] k (fun kq v4 v5 w' => ∃ (x4_1 : List (S38)) (x5_1 : Int), v5 = .int .i64 x5_1 ∧ Aside0 (tmesislaw10_SplitNest.l0 kq t588 x4_1 x5_1 a0_0 a0_1 a0_2 a0_3 = some r) ∧ Aside0 (kq ≤ k) ∧ Aside0 (Kd.R k38 38 w' w.heap.size (fun _ => True) v4 x4_1) ∧ Aside0 (w'.heap[gb587]? = some (.cells #[.int .u8 a0_0, .int .u8 a0_1, .int .u8 a0_2, .int .u8 a0_3] 44 (0, 0))) ∧ Aside0 (Below w.heap.size w w'))
 case atStart => exact ⟨(y589), (0), (by first | rfl | (simp; done) | (simp [*]; done)), H', ⟨Nat.le_refl _⟩, ⟨by (with_reducible repeat (first | apply Kd.R_alloc | apply Kd.R_drewN | apply Kd.R_drew)); exact HO591.out⟩, ⟨by (with_reducible repeat (first | refine blk_drewN ?_ _ | refine blk_drew ?_ | refine blk_alloc ?_ _)); exact BK587.out⟩, ⟨by repeat (first | (with_reducible first | exact HB.out | apply below_alloc | apply pw_below_drewN | apply below_drew1 | refine below_set ?_ GE587.out) | exact HB.out)⟩⟩
 case round =>
  clear H'
  try clear p2
  try clear c6
  obtain ⟨x4_1, x5_1, rfl, HA, HK1, HO_4, BK587, HB⟩ := hrel
  cases gk with
  | zero => exact absurd HA.out (by simp [tmesislaw10_SplitNest.l0])
  | succ k1 =>
   have H := HA.out
   clear HA
   simp only [tmesislaw10_SplitNest.l0] at H
   by_cases c7 : x5_1 < 4
   ·rw [if_pos c7] at H
    have c7b0 : decide (x5_1 < 4) = true := decide_eq_true c7
    clear c7
    have HC8 := Aside0.mk H
    clear H
    go_upto_block 1 with (fail)
    go_cut [4] (fun v4 wc => ∃ (kq : Nat) (x4_7 : List (S38)), Aside0 (tmesislaw10_SplitNest.j3 kq t588 x4_7 x5_1 a0_0 a0_1 a0_2 a0_3 = some r) ∧ Aside0 (kq ≤ k1) ∧ Aside0 (Kd.R k38 38 wc w.heap.size (fun _ => True) v4 x4_7) ∧ Aside0 (wc.heap[gb587]? = some (.cells #[.int .u8 a0_0, .int .u8 a0_1, .int .u8 a0_2, .int .u8 a0_3] 44 (0, 0))) ∧ Aside0 (Below w.heap.size w wc))
    case first =>
     have H := HC8.out
     clear HC8
     have HC9 := Aside0.mk H
     clear H
     go_upto_if 18 with (fail)
     go_cut [6] (fun v6 wc => ∃ (kq : Nat) (x6_8 : ByteArray), v6 = .string x6_8 ∧ Aside0 (tmesislaw10_SplitNest.j1 kq t588 x4_1 x5_1 x6_8 a0_0 a0_1 a0_2 a0_3 = some r) ∧ Aside0 (kq ≤ k1) ∧ Aside0 (Kd.R k38 38 wc w.heap.size (fun _ => True) u4 x4_1) ∧ Aside0 (wc.heap[gb587]? = some (.cells #[.int .u8 a0_0, .int .u8 a0_1, .int .u8 a0_2, .int .u8 a0_3] 44 (0, 0))) ∧ Aside0 (Below w.heap.size w wc))
     case first =>
      have H := HC9.out
      clear HC9
      by_cases c10 : (Int.tmod x5_1 2) = 0
      ·rw [if_pos c10] at H
       have c10b0 : ((Int.tmod x5_1 2) == 0) = true := beq_iff_eq.mpr c10
       have c10b1 : ((Int.tmod x5_1 2) != 0) = false := bne_eq_false_iff_eq.mpr c10
       clear c10
       (first | rw [c10b0] | (simp only [i64_w, i32_w]; rw [c10b0]) | skip)
       have H' := Aside0.mk H
       clear H
       go_wp2
       go_meet
       case rel => exact ⟨_, ((⟨#[41]⟩ : ByteArray)), (by first | rfl | (simp; done) | (simp [*]; done)), H', ⟨by have := HK1.out; first | omega | exact Nat.le_refl _⟩, ⟨by (with_reducible repeat (first | apply Kd.R_alloc | apply Kd.R_drewN | apply Kd.R_drew)); exact HO_4.out⟩, ⟨by (with_reducible repeat (first | refine blk_drewN ?_ _ | refine blk_drew ?_ | refine blk_alloc ?_ _)); exact BK587.out⟩, ⟨by repeat (first | (with_reducible first | exact HB.out | apply below_alloc | apply pw_below_drewN | apply below_drew1 | refine below_set ?_ GE587.out) | exact HB.out)⟩⟩
      ·rw [if_neg c10] at H
       have c10b0 : ((Int.tmod x5_1 2) == 0) = false := beq_eq_false_iff_ne.mpr c10
       have c10b1 : ((Int.tmod x5_1 2) != 0) = true := bne_iff_ne.mpr c10
       (first | rw [c10b0] | (simp only [i64_w, i32_w]; rw [c10b0]) | skip)
       have H' := Aside0.mk H
       clear H
       go_wp2
       go_meet
       case rel => exact ⟨_, ((⟨#[40]⟩ : ByteArray)), (by first | rfl | (simp; done) | (simp [*]; done)), H', ⟨by have := HK1.out; first | omega | exact Nat.le_refl _⟩, ⟨by (with_reducible repeat (first | apply Kd.R_alloc | apply Kd.R_drewN | apply Kd.R_drew)); exact HO_4.out⟩, ⟨by (with_reducible repeat (first | refine blk_drewN ?_ _ | refine blk_drew ?_ | refine blk_alloc ?_ _)); exact BK587.out⟩, ⟨by repeat (first | (with_reducible first | exact HB.out | apply below_alloc | apply pw_below_drewN | apply below_drew1 | refine below_set ?_ GE587.out) | exact HB.out)⟩⟩
     case rest =>
      clear HC9
      try clear c1
      try clear p2
      try clear c6
      try clear c7
      try clear c7b0
      try clear c8
      try clear c10
      try clear c10b0
      try clear c10b1
      try clear p2
      obtain ⟨kq, x6_8, rfl, HA, HJ8, HO_4, BK587, HB⟩ := hcut
      cases kq with
      | zero => exact absurd HA.out (by simp [tmesislaw10_SplitNest.j1])
      | succ kj8 =>
       have H := HA.out
       clear HA
       simp only [tmesislaw10_SplitNest.j1] at H
       have H' := Aside0.mk H
       clear H
       go_wp2
       go_loopg [4, 7] kj8 (fun kq v4 v7 w' => ∃ (x4_3 : List (S38)) (x7_3 : Int), v7 = .int .i64 x7_3 ∧ Aside0 (tmesislaw10_SplitNest.l1 kq t588 x4_3 x5_1 x6_8 x7_3 a0_0 a0_1 a0_2 a0_3 = some r) ∧ Aside0 (kq ≤ kj8) ∧ Aside0 (Kd.R k38 38 w' w.heap.size (fun _ => True) v4 x4_3) ∧ Aside0 (w'.heap[gb587]? = some (.cells #[.int .u8 a0_0, .int .u8 a0_1, .int .u8 a0_2, .int .u8 a0_3] 44 (0, 0))) ∧ Aside0 (Below w.heap.size w w'))
       case atStart => exact ⟨(x4_1), (0), (by first | rfl | (simp; done) | (simp [*]; done)), H', ⟨Nat.le_refl _⟩, ⟨by (with_reducible repeat (first | apply Kd.R_alloc | apply Kd.R_drewN | apply Kd.R_drew)); exact HO_4.out⟩, ⟨by (with_reducible repeat (first | refine blk_drewN ?_ _ | refine blk_drew ?_ | refine blk_alloc ?_ _)); exact BK587.out⟩, ⟨by repeat (first | (with_reducible first | exact HB.out | apply below_alloc | apply pw_below_drewN | apply below_drew1 | refine below_set ?_ GE587.out) | exact HB.out)⟩⟩
       case round =>
        clear H'
        try clear c1
        try clear p2
        try clear c6
        try clear c7
        try clear c7b0
        try clear c8
        try clear c10
        try clear c10b0
        try clear c10b1
        try clear p2
        obtain ⟨x4_3, x7_3, rfl, HA, HK3, HO_4, BK587, HB⟩ := hrel
        cases gk with
        | zero => exact absurd HA.out (by simp [tmesislaw10_SplitNest.l1])
        | succ k3 =>
         have H := HA.out
         clear HA
         simp only [tmesislaw10_SplitNest.l1] at H
         by_cases c11 : x5_1 = 0
         ·rw [if_pos c11] at H
          have c11b0 : (x5_1 == 0) = true := beq_iff_eq.mpr c11
          have c11b1 : (x5_1 != 0) = false := bne_eq_false_iff_eq.mpr c11
          have hixc11 : x5_1 = 0 := c11
          clear c11
          subst hixc11
          by_cases c12 : x7_3 < (Int.tmod (wrap64 (a0_0)) 16)
          ·rw [if_pos c12] at H
           have c12b0 : decide (x7_3 < (Int.tmod (wrap64 (a0_0)) 16)) = true := decide_eq_true c12
           clear c12
           by_cases c13 : x4_3.length < 2932031007402
           ·rw [if_pos c13] at H
            have LMc13 := Aside0.mk c13
            clear c13
            obtain ⟨y592, hy592⟩ : ∃ y_ : List (S38), y_ = (x4_3 ++ [(⟨6, 0, 0, x6_8, 0⟩ : S38)]) := ⟨_, rfl⟩
            replace H : (tmesislaw10_SplitNest.l1 k3 t588 y592 0 x6_8 (wrap64 (x7_3 + 1)) a0_0 a0_1 a0_2 a0_3) = some r := by first | (rw [hy592]; with_reducible exact H) | (have H2_ := (Option.bind_some _ _).symm.trans H; rw [hy592]; with_reducible exact H2_) | (have H2_ := (Option.bind_some _ _).symm.trans H; with_reducible exact H2_) | with_reducible exact H | (rw [hy592]; exact H) | exact H
            have Ny592 := Aside0.mk hy592
            clear hy592
            have H' := Aside0.mk H
            clear H
            have hcz14_0 : wr.cell? ⟨gb587, 0, none⟩ = some (.int .u8 a0_0) := (blk_cell BK587.out 0).trans rfl
            have hcz14_1 : wr.cell? ⟨gb587, 1, none⟩ = some (.int .u8 a0_1) := (blk_cell BK587.out 1).trans rfl
            have hcz14_2 : wr.cell? ⟨gb587, 2, none⟩ = some (.int .u8 a0_2) := (blk_cell BK587.out 2).trans rfl
            have hcz14_3 : wr.cell? ⟨gb587, 3, none⟩ = some (.int .u8 a0_3) := (blk_cell BK587.out 3).trans rfl
            have hfz14_0 := blk_frozen BK587.out 0
            have hfz14_1 := blk_frozen BK587.out 1
            have hfz14_2 := blk_frozen BK587.out 2
            have hfz14_3 := blk_frozen BK587.out 3
            go_wp2_with (first | ((with_reducible refine gate_builtin (b := .append) (xs := #[.tmp 28, .tmp 31]) rfl ?_); (try (refine gate_guard (by rfl) ?_; dsimp only)); at_builtin; refine Kd.R_append k38 (w0 := w) w.heap.size rfl (.tmp 28) (.tmp 31) 23 38 (.agg #[(.int .i64 0), (.int .i64 0), (.int .i64 0), (.string ⟨#[]⟩), (.int .i64 0)]) 48 rfl Tryd.underlying23 info38 rfl (by decide) (by omega) u4 x4_3 (⟨6, 0, 0, x6_8, 0⟩ : S38) [.int .i64 6, .int .i64 0, .int .i64 0, .string x6_8, .int .i64 0] (fun _ => True) (fun _ => False) rfl rfl ?aP (fun _ hk => hk.elim) ?aF ?aO ?aB ?aS ?aL ?_; (case aP => exact k38_mkM _ _ _ (⟨6, 0, 0, x6_8, 0⟩ : S38)); (case aB => exact (by repeat (first | (with_reducible first | exact HB.out | apply below_alloc | apply pw_below_drewN | apply below_drew1 | refine below_set ?_ GE587.out) | exact HB.out))); (case aF => exact (fun _ _ => trivial)); (case aO => exact (by (with_reducible repeat (first | apply Kd.R_alloc | apply Kd.R_drewN | apply Kd.R_drew)); exact HO_4.out)); (case aS => exact (below_size (by repeat (first | (with_reducible first | exact HB.out | apply below_alloc | apply pw_below_drewN | apply below_drew1 | refine below_set ?_ GE587.out) | exact HB.out)))); (case aL => have := LMc13.out; omega); intro v593 w15 ho hb hg hat; rw [← Ny592.out] at ho; have n0_ := Aside0.mk (blk_grown (g := gb587) (o := .cells #[.int .u8 a0_0, .int .u8 a0_1, .int .u8 a0_2, .int .u8 a0_3] 44 (0, 0)) (by (with_reducible repeat (first | refine blk_drewN ?_ _ | refine blk_drew ?_ | refine blk_alloc ?_ _)); exact BK587.out) hg (Kd.R_ne HO_4.out BK587.out (by decide))); have n1_ := Aside0.mk (hb); have n2_ := Aside0.mk (ho); clear BK587; clear HB; clear HO_4; have BK587 := n0_; have HB := n1_; have HO594 := n2_; clear n0_ n1_ n2_; clear ho hb hg hat))
            go_roundg k3
            case measure => have := HK1.out; have := HJ8.out; have := HK3.out; omega
            case rel => exact ⟨(y592), (wrap64 (x7_3 + 1)), (by first | rfl | (simp; done) | (simp [*]; done)), H', ⟨by have := HK1.out; have := HJ8.out; have := HK3.out; omega⟩, ⟨by (with_reducible repeat (first | apply Kd.R_alloc | apply Kd.R_drewN | apply Kd.R_drew)); exact HO594.out⟩, ⟨by (with_reducible repeat (first | refine blk_drewN ?_ _ | refine blk_drew ?_ | refine blk_alloc ?_ _)); exact BK587.out⟩, ⟨by repeat (first | (with_reducible first | exact HB.out | apply below_alloc | apply pw_below_drewN | apply below_drew1 | refine below_set ?_ GE587.out) | exact HB.out)⟩⟩
           ·rw [if_neg c13] at H
            exact absurd H (by simp)
          ·rw [if_neg c12] at H
           have c12b0 : decide (x7_3 < (Int.tmod (wrap64 (a0_0)) 16)) = false := decide_eq_false c12
           clear c12
           have H' := Aside0.mk H
           clear H
           have hcz16_0 : wr.cell? ⟨gb587, 0, none⟩ = some (.int .u8 a0_0) := (blk_cell BK587.out 0).trans rfl
           have hcz16_1 : wr.cell? ⟨gb587, 1, none⟩ = some (.int .u8 a0_1) := (blk_cell BK587.out 1).trans rfl
           have hcz16_2 : wr.cell? ⟨gb587, 2, none⟩ = some (.int .u8 a0_2) := (blk_cell BK587.out 2).trans rfl
           have hcz16_3 : wr.cell? ⟨gb587, 3, none⟩ = some (.int .u8 a0_3) := (blk_cell BK587.out 3).trans rfl
           have hfz16_0 := blk_frozen BK587.out 0
           have hfz16_1 := blk_frozen BK587.out 1
           have hfz16_2 := blk_frozen BK587.out 2
           have hfz16_3 := blk_frozen BK587.out 3
           go_wp2
           go_meet
           case rel => exact ⟨_, (x4_3), H', ⟨by have := HK1.out; have := HJ8.out; have := HK3.out; first | omega | exact Nat.le_refl _⟩, ⟨by (with_reducible repeat (first | apply Kd.R_alloc | apply Kd.R_drewN | apply Kd.R_drew)); exact HO_4.out⟩, ⟨by (with_reducible repeat (first | refine blk_drewN ?_ _ | refine blk_drew ?_ | refine blk_alloc ?_ _)); exact BK587.out⟩, ⟨by repeat (first | (with_reducible first | exact HB.out | apply below_alloc | apply pw_below_drewN | apply below_drew1 | refine below_set ?_ GE587.out) | exact HB.out)⟩⟩
         ·rw [if_neg c11] at H
          have c11b0 : (x5_1 == 0) = false := beq_eq_false_iff_ne.mpr c11
          have c11b1 : (x5_1 != 0) = true := bne_iff_ne.mpr c11
          by_cases c17 : x5_1 = 1
          ·rw [if_pos c17] at H
           have c17b0 : (x5_1 == 1) = true := beq_iff_eq.mpr c17
           have c17b1 : (x5_1 != 1) = false := bne_eq_false_iff_eq.mpr c17
           have hixc17 : x5_1 = 1 := c17
           clear c17
           subst hixc17
           by_cases c18 : x7_3 < (Int.tmod (wrap64 (a0_1)) 16)
           ·rw [if_pos c18] at H
            have c18b0 : decide (x7_3 < (Int.tmod (wrap64 (a0_1)) 16)) = true := decide_eq_true c18
            clear c18
            by_cases c19 : x4_3.length < 2932031007402
            ·rw [if_pos c19] at H
             have LMc19 := Aside0.mk c19
             clear c19
             obtain ⟨y595, hy595⟩ : ∃ y_ : List (S38), y_ = (x4_3 ++ [(⟨6, 0, 0, x6_8, 0⟩ : S38)]) := ⟨_, rfl⟩
             replace H : (tmesislaw10_SplitNest.l1 k3 t588 y595 1 x6_8 (wrap64 (x7_3 + 1)) a0_0 a0_1 a0_2 a0_3) = some r := by first | (rw [hy595]; with_reducible exact H) | (have H2_ := (Option.bind_some _ _).symm.trans H; rw [hy595]; with_reducible exact H2_) | (have H2_ := (Option.bind_some _ _).symm.trans H; with_reducible exact H2_) | with_reducible exact H | (rw [hy595]; exact H) | exact H
             have Ny595 := Aside0.mk hy595
             clear hy595
             have H' := Aside0.mk H
             clear H
             have hcz20_0 : wr.cell? ⟨gb587, 0, none⟩ = some (.int .u8 a0_0) := (blk_cell BK587.out 0).trans rfl
             have hcz20_1 : wr.cell? ⟨gb587, 1, none⟩ = some (.int .u8 a0_1) := (blk_cell BK587.out 1).trans rfl
             have hcz20_2 : wr.cell? ⟨gb587, 2, none⟩ = some (.int .u8 a0_2) := (blk_cell BK587.out 2).trans rfl
             have hcz20_3 : wr.cell? ⟨gb587, 3, none⟩ = some (.int .u8 a0_3) := (blk_cell BK587.out 3).trans rfl
             have hfz20_0 := blk_frozen BK587.out 0
             have hfz20_1 := blk_frozen BK587.out 1
             have hfz20_2 := blk_frozen BK587.out 2
             have hfz20_3 := blk_frozen BK587.out 3
             go_wp2_with (first | ((with_reducible refine gate_builtin (b := .append) (xs := #[.tmp 28, .tmp 31]) rfl ?_); (try (refine gate_guard (by rfl) ?_; dsimp only)); at_builtin; refine Kd.R_append k38 (w0 := w) w.heap.size rfl (.tmp 28) (.tmp 31) 23 38 (.agg #[(.int .i64 0), (.int .i64 0), (.int .i64 0), (.string ⟨#[]⟩), (.int .i64 0)]) 48 rfl Tryd.underlying23 info38 rfl (by decide) (by omega) u4 x4_3 (⟨6, 0, 0, x6_8, 0⟩ : S38) [.int .i64 6, .int .i64 0, .int .i64 0, .string x6_8, .int .i64 0] (fun _ => True) (fun _ => False) rfl rfl ?aP (fun _ hk => hk.elim) ?aF ?aO ?aB ?aS ?aL ?_; (case aP => exact k38_mkM _ _ _ (⟨6, 0, 0, x6_8, 0⟩ : S38)); (case aB => exact (by repeat (first | (with_reducible first | exact HB.out | apply below_alloc | apply pw_below_drewN | apply below_drew1 | refine below_set ?_ GE587.out) | exact HB.out))); (case aF => exact (fun _ _ => trivial)); (case aO => exact (by (with_reducible repeat (first | apply Kd.R_alloc | apply Kd.R_drewN | apply Kd.R_drew)); exact HO_4.out)); (case aS => exact (below_size (by repeat (first | (with_reducible first | exact HB.out | apply below_alloc | apply pw_below_drewN | apply below_drew1 | refine below_set ?_ GE587.out) | exact HB.out)))); (case aL => have := LMc19.out; omega); intro v596 w21 ho hb hg hat; rw [← Ny595.out] at ho; have n0_ := Aside0.mk (blk_grown (g := gb587) (o := .cells #[.int .u8 a0_0, .int .u8 a0_1, .int .u8 a0_2, .int .u8 a0_3] 44 (0, 0)) (by (with_reducible repeat (first | refine blk_drewN ?_ _ | refine blk_drew ?_ | refine blk_alloc ?_ _)); exact BK587.out) hg (Kd.R_ne HO_4.out BK587.out (by decide))); have n1_ := Aside0.mk (hb); have n2_ := Aside0.mk (ho); clear BK587; clear HB; clear HO_4; have BK587 := n0_; have HB := n1_; have HO597 := n2_; clear n0_ n1_ n2_; clear ho hb hg hat))
             go_roundg k3
             case measure => have := HK1.out; have := HJ8.out; have := HK3.out; omega
             case rel => exact ⟨(y595), (wrap64 (x7_3 + 1)), (by first | rfl | (simp; done) | (simp [*]; done)), H', ⟨by have := HK1.out; have := HJ8.out; have := HK3.out; omega⟩, ⟨by (with_reducible repeat (first | apply Kd.R_alloc | apply Kd.R_drewN | apply Kd.R_drew)); exact HO597.out⟩, ⟨by (with_reducible repeat (first | refine blk_drewN ?_ _ | refine blk_drew ?_ | refine blk_alloc ?_ _)); exact BK587.out⟩, ⟨by repeat (first | (with_reducible first | exact HB.out | apply below_alloc | apply pw_below_drewN | apply below_drew1 | refine below_set ?_ GE587.out) | exact HB.out)⟩⟩
            ·rw [if_neg c19] at H
             exact absurd H (by simp)
           ·rw [if_neg c18] at H
            have c18b0 : decide (x7_3 < (Int.tmod (wrap64 (a0_1)) 16)) = false := decide_eq_false c18
            clear c18
            have H' := Aside0.mk H
            clear H
            have hcz22_0 : wr.cell? ⟨gb587, 0, none⟩ = some (.int .u8 a0_0) := (blk_cell BK587.out 0).trans rfl
            have hcz22_1 : wr.cell? ⟨gb587, 1, none⟩ = some (.int .u8 a0_1) := (blk_cell BK587.out 1).trans rfl
            have hcz22_2 : wr.cell? ⟨gb587, 2, none⟩ = some (.int .u8 a0_2) := (blk_cell BK587.out 2).trans rfl
            have hcz22_3 : wr.cell? ⟨gb587, 3, none⟩ = some (.int .u8 a0_3) := (blk_cell BK587.out 3).trans rfl
            have hfz22_0 := blk_frozen BK587.out 0
            have hfz22_1 := blk_frozen BK587.out 1
            have hfz22_2 := blk_frozen BK587.out 2
            have hfz22_3 := blk_frozen BK587.out 3
            go_wp2
            go_meet
            case rel => exact ⟨_, (x4_3), H', ⟨by have := HK1.out; have := HJ8.out; have := HK3.out; first | omega | exact Nat.le_refl _⟩, ⟨by (with_reducible repeat (first | apply Kd.R_alloc | apply Kd.R_drewN | apply Kd.R_drew)); exact HO_4.out⟩, ⟨by (with_reducible repeat (first | refine blk_drewN ?_ _ | refine blk_drew ?_ | refine blk_alloc ?_ _)); exact BK587.out⟩, ⟨by repeat (first | (with_reducible first | exact HB.out | apply below_alloc | apply pw_below_drewN | apply below_drew1 | refine below_set ?_ GE587.out) | exact HB.out)⟩⟩
          ·rw [if_neg c17] at H
           have c17b0 : (x5_1 == 1) = false := beq_eq_false_iff_ne.mpr c17
           have c17b1 : (x5_1 != 1) = true := bne_iff_ne.mpr c17
           by_cases c23 : x5_1 = 2
           ·rw [if_pos c23] at H
            have c23b0 : (x5_1 == 2) = true := beq_iff_eq.mpr c23
            have c23b1 : (x5_1 != 2) = false := bne_eq_false_iff_eq.mpr c23
            have hixc23 : x5_1 = 2 := c23
            clear c23
            subst hixc23
            by_cases c24 : x7_3 < (Int.tmod (wrap64 (a0_2)) 16)
            ·rw [if_pos c24] at H
             have c24b0 : decide (x7_3 < (Int.tmod (wrap64 (a0_2)) 16)) = true := decide_eq_true c24
             clear c24
             by_cases c25 : x4_3.length < 2932031007402
             ·rw [if_pos c25] at H
              have LMc25 := Aside0.mk c25
              clear c25
              obtain ⟨y598, hy598⟩ : ∃ y_ : List (S38), y_ = (x4_3 ++ [(⟨6, 0, 0, x6_8, 0⟩ : S38)]) := ⟨_, rfl⟩
              replace H : (tmesislaw10_SplitNest.l1 k3 t588 y598 2 x6_8 (wrap64 (x7_3 + 1)) a0_0 a0_1 a0_2 a0_3) = some r := by first | (rw [hy598]; with_reducible exact H) | (have H2_ := (Option.bind_some _ _).symm.trans H; rw [hy598]; with_reducible exact H2_) | (have H2_ := (Option.bind_some _ _).symm.trans H; with_reducible exact H2_) | with_reducible exact H | (rw [hy598]; exact H) | exact H
              have Ny598 := Aside0.mk hy598
              clear hy598
              have H' := Aside0.mk H
              clear H
              have hcz26_0 : wr.cell? ⟨gb587, 0, none⟩ = some (.int .u8 a0_0) := (blk_cell BK587.out 0).trans rfl
              have hcz26_1 : wr.cell? ⟨gb587, 1, none⟩ = some (.int .u8 a0_1) := (blk_cell BK587.out 1).trans rfl
              have hcz26_2 : wr.cell? ⟨gb587, 2, none⟩ = some (.int .u8 a0_2) := (blk_cell BK587.out 2).trans rfl
              have hcz26_3 : wr.cell? ⟨gb587, 3, none⟩ = some (.int .u8 a0_3) := (blk_cell BK587.out 3).trans rfl
              have hfz26_0 := blk_frozen BK587.out 0
              have hfz26_1 := blk_frozen BK587.out 1
              have hfz26_2 := blk_frozen BK587.out 2
              have hfz26_3 := blk_frozen BK587.out 3
              go_wp2_with (first | ((with_reducible refine gate_builtin (b := .append) (xs := #[.tmp 28, .tmp 31]) rfl ?_); (try (refine gate_guard (by rfl) ?_; dsimp only)); at_builtin; refine Kd.R_append k38 (w0 := w) w.heap.size rfl (.tmp 28) (.tmp 31) 23 38 (.agg #[(.int .i64 0), (.int .i64 0), (.int .i64 0), (.string ⟨#[]⟩), (.int .i64 0)]) 48 rfl Tryd.underlying23 info38 rfl (by decide) (by omega) u4 x4_3 (⟨6, 0, 0, x6_8, 0⟩ : S38) [.int .i64 6, .int .i64 0, .int .i64 0, .string x6_8, .int .i64 0] (fun _ => True) (fun _ => False) rfl rfl ?aP (fun _ hk => hk.elim) ?aF ?aO ?aB ?aS ?aL ?_; (case aP => exact k38_mkM _ _ _ (⟨6, 0, 0, x6_8, 0⟩ : S38)); (case aB => exact (by repeat (first | (with_reducible first | exact HB.out | apply below_alloc | apply pw_below_drewN | apply below_drew1 | refine below_set ?_ GE587.out) | exact HB.out))); (case aF => exact (fun _ _ => trivial)); (case aO => exact (by (with_reducible repeat (first | apply Kd.R_alloc | apply Kd.R_drewN | apply Kd.R_drew)); exact HO_4.out)); (case aS => exact (below_size (by repeat (first | (with_reducible first | exact HB.out | apply below_alloc | apply pw_below_drewN | apply below_drew1 | refine below_set ?_ GE587.out) | exact HB.out)))); (case aL => have := LMc25.out; omega); intro v599 w27 ho hb hg hat; rw [← Ny598.out] at ho; have n0_ := Aside0.mk (blk_grown (g := gb587) (o := .cells #[.int .u8 a0_0, .int .u8 a0_1, .int .u8 a0_2, .int .u8 a0_3] 44 (0, 0)) (by (with_reducible repeat (first | refine blk_drewN ?_ _ | refine blk_drew ?_ | refine blk_alloc ?_ _)); exact BK587.out) hg (Kd.R_ne HO_4.out BK587.out (by decide))); have n1_ := Aside0.mk (hb); have n2_ := Aside0.mk (ho); clear BK587; clear HB; clear HO_4; have BK587 := n0_; have HB := n1_; have HO600 := n2_; clear n0_ n1_ n2_; clear ho hb hg hat))
              go_roundg k3
              case measure => have := HK1.out; have := HJ8.out; have := HK3.out; omega
              case rel => exact ⟨(y598), (wrap64 (x7_3 + 1)), (by first | rfl | (simp; done) | (simp [*]; done)), H', ⟨by have := HK1.out; have := HJ8.out; have := HK3.out; omega⟩, ⟨by (with_reducible repeat (first | apply Kd.R_alloc | apply Kd.R_drewN | apply Kd.R_drew)); exact HO600.out⟩, ⟨by (with_reducible repeat (first | refine blk_drewN ?_ _ | refine blk_drew ?_ | refine blk_alloc ?_ _)); exact BK587.out⟩, ⟨by repeat (first | (with_reducible first | exact HB.out | apply below_alloc | apply pw_below_drewN | apply below_drew1 | refine below_set ?_ GE587.out) | exact HB.out)⟩⟩
             ·rw [if_neg c25] at H
              exact absurd H (by simp)
            ·rw [if_neg c24] at H
             have c24b0 : decide (x7_3 < (Int.tmod (wrap64 (a0_2)) 16)) = false := decide_eq_false c24
             clear c24
             have H' := Aside0.mk H
             clear H
             have hcz28_0 : wr.cell? ⟨gb587, 0, none⟩ = some (.int .u8 a0_0) := (blk_cell BK587.out 0).trans rfl
             have hcz28_1 : wr.cell? ⟨gb587, 1, none⟩ = some (.int .u8 a0_1) := (blk_cell BK587.out 1).trans rfl
             have hcz28_2 : wr.cell? ⟨gb587, 2, none⟩ = some (.int .u8 a0_2) := (blk_cell BK587.out 2).trans rfl
             have hcz28_3 : wr.cell? ⟨gb587, 3, none⟩ = some (.int .u8 a0_3) := (blk_cell BK587.out 3).trans rfl
             have hfz28_0 := blk_frozen BK587.out 0
             have hfz28_1 := blk_frozen BK587.out 1
             have hfz28_2 := blk_frozen BK587.out 2
             have hfz28_3 := blk_frozen BK587.out 3
             go_wp2
             go_meet
             case rel => exact ⟨_, (x4_3), H', ⟨by have := HK1.out; have := HJ8.out; have := HK3.out; first | omega | exact Nat.le_refl _⟩, ⟨by (with_reducible repeat (first | apply Kd.R_alloc | apply Kd.R_drewN | apply Kd.R_drew)); exact HO_4.out⟩, ⟨by (with_reducible repeat (first | refine blk_drewN ?_ _ | refine blk_drew ?_ | refine blk_alloc ?_ _)); exact BK587.out⟩, ⟨by repeat (first | (with_reducible first | exact HB.out | apply below_alloc | apply pw_below_drewN | apply below_drew1 | refine below_set ?_ GE587.out) | exact HB.out)⟩⟩
           ·rw [if_neg c23] at H
            have c23b0 : (x5_1 == 2) = false := beq_eq_false_iff_ne.mpr c23
            have c23b1 : (x5_1 != 2) = true := bne_iff_ne.mpr c23
            by_cases c29 : x5_1 = 3
            ·rw [if_pos c29] at H
             have c29b0 : (x5_1 == 3) = true := beq_iff_eq.mpr c29
             have c29b1 : (x5_1 != 3) = false := bne_eq_false_iff_eq.mpr c29
             have hixc29 : x5_1 = 3 := c29
             clear c29
             subst hixc29
             by_cases c30 : x7_3 < (Int.tmod (wrap64 (a0_3)) 16)
             ·rw [if_pos c30] at H
              have c30b0 : decide (x7_3 < (Int.tmod (wrap64 (a0_3)) 16)) = true := decide_eq_true c30
              clear c30
              by_cases c31 : x4_3.length < 2932031007402
              ·rw [if_pos c31] at H
               have LMc31 := Aside0.mk c31
               clear c31
               obtain ⟨y601, hy601⟩ : ∃ y_ : List (S38), y_ = (x4_3 ++ [(⟨6, 0, 0, x6_8, 0⟩ : S38)]) := ⟨_, rfl⟩
               replace H : (tmesislaw10_SplitNest.l1 k3 t588 y601 3 x6_8 (wrap64 (x7_3 + 1)) a0_0 a0_1 a0_2 a0_3) = some r := by first | (rw [hy601]; with_reducible exact H) | (have H2_ := (Option.bind_some _ _).symm.trans H; rw [hy601]; with_reducible exact H2_) | (have H2_ := (Option.bind_some _ _).symm.trans H; with_reducible exact H2_) | with_reducible exact H | (rw [hy601]; exact H) | exact H
               have Ny601 := Aside0.mk hy601
               clear hy601
               have H' := Aside0.mk H
               clear H
               have hcz32_0 : wr.cell? ⟨gb587, 0, none⟩ = some (.int .u8 a0_0) := (blk_cell BK587.out 0).trans rfl
               have hcz32_1 : wr.cell? ⟨gb587, 1, none⟩ = some (.int .u8 a0_1) := (blk_cell BK587.out 1).trans rfl
               have hcz32_2 : wr.cell? ⟨gb587, 2, none⟩ = some (.int .u8 a0_2) := (blk_cell BK587.out 2).trans rfl
               have hcz32_3 : wr.cell? ⟨gb587, 3, none⟩ = some (.int .u8 a0_3) := (blk_cell BK587.out 3).trans rfl
               have hfz32_0 := blk_frozen BK587.out 0
               have hfz32_1 := blk_frozen BK587.out 1
               have hfz32_2 := blk_frozen BK587.out 2
               have hfz32_3 := blk_frozen BK587.out 3
               go_wp2_with (first | ((with_reducible refine gate_builtin (b := .append) (xs := #[.tmp 28, .tmp 31]) rfl ?_); (try (refine gate_guard (by rfl) ?_; dsimp only)); at_builtin; refine Kd.R_append k38 (w0 := w) w.heap.size rfl (.tmp 28) (.tmp 31) 23 38 (.agg #[(.int .i64 0), (.int .i64 0), (.int .i64 0), (.string ⟨#[]⟩), (.int .i64 0)]) 48 rfl Tryd.underlying23 info38 rfl (by decide) (by omega) u4 x4_3 (⟨6, 0, 0, x6_8, 0⟩ : S38) [.int .i64 6, .int .i64 0, .int .i64 0, .string x6_8, .int .i64 0] (fun _ => True) (fun _ => False) rfl rfl ?aP (fun _ hk => hk.elim) ?aF ?aO ?aB ?aS ?aL ?_; (case aP => exact k38_mkM _ _ _ (⟨6, 0, 0, x6_8, 0⟩ : S38)); (case aB => exact (by repeat (first | (with_reducible first | exact HB.out | apply below_alloc | apply pw_below_drewN | apply below_drew1 | refine below_set ?_ GE587.out) | exact HB.out))); (case aF => exact (fun _ _ => trivial)); (case aO => exact (by (with_reducible repeat (first | apply Kd.R_alloc | apply Kd.R_drewN | apply Kd.R_drew)); exact HO_4.out)); (case aS => exact (below_size (by repeat (first | (with_reducible first | exact HB.out | apply below_alloc | apply pw_below_drewN | apply below_drew1 | refine below_set ?_ GE587.out) | exact HB.out)))); (case aL => have := LMc31.out; omega); intro v602 w33 ho hb hg hat; rw [← Ny601.out] at ho; have n0_ := Aside0.mk (blk_grown (g := gb587) (o := .cells #[.int .u8 a0_0, .int .u8 a0_1, .int .u8 a0_2, .int .u8 a0_3] 44 (0, 0)) (by (with_reducible repeat (first | refine blk_drewN ?_ _ | refine blk_drew ?_ | refine blk_alloc ?_ _)); exact BK587.out) hg (Kd.R_ne HO_4.out BK587.out (by decide))); have n1_ := Aside0.mk (hb); have n2_ := Aside0.mk (ho); clear BK587; clear HB; clear HO_4; have BK587 := n0_; have HB := n1_; have HO603 := n2_; clear n0_ n1_ n2_; clear ho hb hg hat))
               go_roundg k3
               case measure => have := HK1.out; have := HJ8.out; have := HK3.out; omega
               case rel => exact ⟨(y601), (wrap64 (x7_3 + 1)), (by first | rfl | (simp; done) | (simp [*]; done)), H', ⟨by have := HK1.out; have := HJ8.out; have := HK3.out; omega⟩, ⟨by (with_reducible repeat (first | apply Kd.R_alloc | apply Kd.R_drewN | apply Kd.R_drew)); exact HO603.out⟩, ⟨by (with_reducible repeat (first | refine blk_drewN ?_ _ | refine blk_drew ?_ | refine blk_alloc ?_ _)); exact BK587.out⟩, ⟨by repeat (first | (with_reducible first | exact HB.out | apply below_alloc | apply pw_below_drewN | apply below_drew1 | refine below_set ?_ GE587.out) | exact HB.out)⟩⟩
              ·rw [if_neg c31] at H
               exact absurd H (by simp)
             ·rw [if_neg c30] at H
              have c30b0 : decide (x7_3 < (Int.tmod (wrap64 (a0_3)) 16)) = false := decide_eq_false c30
              clear c30
              have H' := Aside0.mk H
              clear H
              have hcz34_0 : wr.cell? ⟨gb587, 0, none⟩ = some (.int .u8 a0_0) := (blk_cell BK587.out 0).trans rfl
              have hcz34_1 : wr.cell? ⟨gb587, 1, none⟩ = some (.int .u8 a0_1) := (blk_cell BK587.out 1).trans rfl
              have hcz34_2 : wr.cell? ⟨gb587, 2, none⟩ = some (.int .u8 a0_2) := (blk_cell BK587.out 2).trans rfl
              have hcz34_3 : wr.cell? ⟨gb587, 3, none⟩ = some (.int .u8 a0_3) := (blk_cell BK587.out 3).trans rfl
              have hfz34_0 := blk_frozen BK587.out 0
              have hfz34_1 := blk_frozen BK587.out 1
              have hfz34_2 := blk_frozen BK587.out 2
              have hfz34_3 := blk_frozen BK587.out 3
              go_wp2
              go_meet
              case rel => exact ⟨_, (x4_3), H', ⟨by have := HK1.out; have := HJ8.out; have := HK3.out; first | omega | exact Nat.le_refl _⟩, ⟨by (with_reducible repeat (first | apply Kd.R_alloc | apply Kd.R_drewN | apply Kd.R_drew)); exact HO_4.out⟩, ⟨by (with_reducible repeat (first | refine blk_drewN ?_ _ | refine blk_drew ?_ | refine blk_alloc ?_ _)); exact BK587.out⟩, ⟨by repeat (first | (with_reducible first | exact HB.out | apply below_alloc | apply pw_below_drewN | apply below_drew1 | refine below_set ?_ GE587.out) | exact HB.out)⟩⟩
            ·rw [if_neg c29] at H
             exact absurd H (by simp)
    case rest =>
     clear HC8
     try clear c1
     try clear c2
     try clear p2
     try clear c3
     try clear c6
     try clear p6
     try clear c7
     try clear c7b0
     try clear c8
     try clear c10
     try clear c10b0
     try clear c10b1
     try clear c11
     try clear c11b0
     try clear c11b1
     try clear c12
     try clear c12b0
     try clear c13
     try clear c17
     try clear c17b0
     try clear c17b1
     try clear c18
     try clear c18b0
     try clear c19
     try clear c23
     try clear c23b0
     try clear c23b1
     try clear c24
     try clear c24b0
     try clear c25
     try clear c29
     try clear c29b0
     try clear c29b1
     try clear c30
     try clear c30b0
     try clear c31
     try clear hcz14_0
     try clear hcz14_1
     try clear hcz14_2
     try clear hcz14_3
     try clear hcz16_0
     try clear hcz16_1
     try clear hcz16_2
     try clear hcz16_3
     try clear hcz20_0
     try clear hcz20_1
     try clear hcz20_2
     try clear hcz20_3
     try clear hcz22_0
     try clear hcz22_1
     try clear hcz22_2
     try clear hcz22_3
     try clear hcz26_0
     try clear hcz26_1
     try clear hcz26_2
     try clear hcz26_3
     try clear hcz28_0
     try clear hcz28_1
     try clear hcz28_2
     try clear hcz28_3
     try clear hcz32_0
     try clear hcz32_1
     try clear hcz32_2
     try clear hcz32_3
     try clear hcz34_0
     try clear hcz34_1
     try clear hcz34_2
     try clear hcz34_3
     try clear hfz14_0
     try clear hfz14_1
     try clear hfz14_2
     try clear hfz14_3
     try clear hfz16_0
     try clear hfz16_1
     try clear hfz16_2
     try clear hfz16_3
     try clear hfz20_0
     try clear hfz20_1
     try clear hfz20_2
     try clear hfz20_3
     try clear hfz22_0
     try clear hfz22_1
     try clear hfz22_2
     try clear hfz22_3
     try clear hfz26_0
     try clear hfz26_1
     try clear hfz26_2
     try clear hfz26_3
     try clear hfz28_0
     try clear hfz28_1
     try clear hfz28_2
     try clear hfz28_3
     try clear hfz32_0
     try clear hfz32_1
     try clear hfz32_2
     try clear hfz32_3
     try clear hfz34_0
     try clear hfz34_1
     try clear hfz34_2
     try clear hfz34_3
     try clear p2
     obtain ⟨kq, x4_7, HA, HJ7, HO_4, BK587, HB⟩ := hcut
     cases kq with
     | zero => exact absurd HA.out (by simp [tmesislaw10_SplitNest.j3])
     | succ kj7 =>
      have H := HA.out
      clear HA
      simp only [tmesislaw10_SplitNest.j3] at H
      have H' := Aside0.mk H
      clear H
      go_wp2
      go_roundg kj7
      case measure => have := HK1.out; have := HJ7.out; omega
      case rel => exact ⟨(x4_7), (wrap64 (x5_1 + 1)), (by first | rfl | (simp; done) | (simp [*]; done)), H', ⟨by have := HK1.out; have := HJ7.out; omega⟩, ⟨by (with_reducible repeat (first | apply Kd.R_alloc | apply Kd.R_drewN | apply Kd.R_drew)); exact HO_4.out⟩, ⟨by (with_reducible repeat (first | refine blk_drewN ?_ _ | refine blk_drew ?_ | refine blk_alloc ?_ _)); exact BK587.out⟩, ⟨by repeat (first | (with_reducible first | exact HB.out | apply below_alloc | apply pw_below_drewN | apply below_drew1 | refine below_set ?_ GE587.out) | exact HB.out)⟩⟩
   ·rw [if_neg c7] at H
    have c7b0 : decide (x5_1 < 4) = false := decide_eq_false c7
    clear c7
    obtain ⟨ji35, hji35⟩ : ∃ j_ : Int, (mx (wrap64 ((Int.tmod (wrap64 (a0_1)) 16) - (Int.tmod (wrap64 (a0_2)) 16))) 0) = j_ := ⟨_, rfl⟩
    replace H : (if t588 = true then ((split_Nest.f k1 0 0 0 x4_1).bind fun t604 => (tmesislaw10_SplitNest.j4 k1 (t604 == (mx (Int.tmod (wrap64 (a0_1)) 16) (wrap64 ((ji35) + (Int.tmod (wrap64 (a0_3)) 16))))))) else (tmesislaw10_SplitNest.j4 k1 false)) = some r := by first | (rw [hji35] at H; exact H) | (simp only [hji35] at H ⊢; exact H)
    have hji35_ : (if (wrap64 ((Int.tmod (wrap64 (a0_1)) 16) - (Int.tmod (wrap64 (a0_2)) 16))) < 0 then 0 else (wrap64 ((Int.tmod (wrap64 (a0_1)) 16) - (Int.tmod (wrap64 (a0_2)) 16)))) = ji35 := hji35
    have HC36 := Aside0.mk H
    clear H
    have hcz37_0 : wr.cell? ⟨gb587, 0, none⟩ = some (.int .u8 a0_0) := (blk_cell BK587.out 0).trans rfl
    have hcz37_1 : wr.cell? ⟨gb587, 1, none⟩ = some (.int .u8 a0_1) := (blk_cell BK587.out 1).trans rfl
    have hcz37_2 : wr.cell? ⟨gb587, 2, none⟩ = some (.int .u8 a0_2) := (blk_cell BK587.out 2).trans rfl
    have hcz37_3 : wr.cell? ⟨gb587, 3, none⟩ = some (.int .u8 a0_3) := (blk_cell BK587.out 3).trans rfl
    have hfz37_0 := blk_frozen BK587.out 0
    have hfz37_1 := blk_frozen BK587.out 1
    have hfz37_2 := blk_frozen BK587.out 2
    have hfz37_3 := blk_frozen BK587.out 3
    go_upto_region 15 with (fail)
    go_cut [2] (fun v2 wc => ∃ (kq : Nat) (x2_35 : Bool), v2 = .bool x2_35 ∧ Aside0 (tmesislaw10_SplitNest.j4 kq x2_35 = some r) ∧ Aside0 (kq ≤ k1) ∧ Aside0 (wc.heap[gb587]? = some (.cells #[.int .u8 a0_0, .int .u8 a0_1, .int .u8 a0_2, .int .u8 a0_3] 44 (0, 0))) ∧ Aside0 (Below w.heap.size w wc))
    case first =>
     have H := HC36.out
     clear HC36
     by_cases c38 : t588 = true
     ·subst c38
      have H1 : ((split_Nest.f k1 0 0 0 x4_1).bind fun t604 => (tmesislaw10_SplitNest.j4 k1 (t604 == (mx (Int.tmod (wrap64 (a0_1)) 16) (wrap64 ((ji35) + (Int.tmod (wrap64 (a0_3)) 16))))))) = some r := by rw [if_pos rfl] at H; exact H
      clear H
      have H := H1
      clear H1
      replace H := Option.bind_eq_some_iff.mp H
      obtain ⟨t604, A390, H⟩ := H
      replace H : (tmesislaw10_SplitNest.j4 k1 (t604 == (mx (Int.tmod (wrap64 (a0_1)) 16) (wrap64 ((ji35) + (Int.tmod (wrap64 (a0_3)) 16)))))) = some r := H
      have A39 := Aside0.mk A390
      clear A390
      obtain ⟨ji40, hji40⟩ : ∃ j_ : Int, (mx (Int.tmod (wrap64 (a0_1)) 16) (wrap64 ((ji35) + (Int.tmod (wrap64 (a0_3)) 16)))) = j_ := ⟨_, rfl⟩
      replace H : (tmesislaw10_SplitNest.j4 k1 (t604 == (ji40))) = some r := by first | (rw [hji40] at H; exact H) | (simp only [hji40] at H ⊢; exact H)
      (try rw [hji40] at A39)
      have hji40_ : (if (Int.tmod (wrap64 (a0_1)) 16) < (wrap64 ((ji35) + (Int.tmod (wrap64 (a0_3)) 16))) then (wrap64 ((ji35) + (Int.tmod (wrap64 (a0_3)) 16))) else (Int.tmod (wrap64 (a0_1)) 16)) = ji40 := hji40
      have H' := Aside0.mk H
      clear H
      try go_wp2
      have n0_ := Aside0.mk (Kd.R_drew HO_4.out)
      have n1_ := Aside0.mk (blk_drew BK587.out)
      have n2_ := Aside0.mk (below_drew1 HB.out)
      clear HO_4
      clear BK587
      clear HB
      have HO_4 := n0_
      have BK587 := n1_
      have HB := n2_
      clear n0_ n1_ n2_
      obtain ⟨Ao42, co42, eo42⟩ := Kd.R_slice HO_4.out
      (first | subst eo42 | (injection eo42 with f1_ f2_ f3_; have f4_ := f1_.symm; have f5_ := f3_.symm; clear f1_ f2_ f3_; subst f4_; subst f5_))
      refine start_ (n := 16) (S := fun w' => w'.cell? ⟨gb587, 0, none⟩ = some (.int .u8 a0_0) ∧ w'.cell? ⟨gb587, 1, none⟩ = some (.int .u8 a0_1) ∧ w'.cell? ⟨gb587, 2, none⟩ = some (.int .u8 a0_2) ∧ w'.cell? ⟨gb587, 3, none⟩ = some (.int .u8 a0_3)) (ds := []) #[false, false, false, false, false, false, false, false, false, false, false, false, false, false, false, false] (by kernel_rfl) rfl rfl ⟨(blk_cell BK587.out 0).trans rfl, (blk_cell BK587.out 1).trans rfl, (blk_cell BK587.out 2).trans rfl, (blk_cell BK587.out 3).trans rfl⟩ (fun hHeld => ?_); refine with_tabW tmesislaw10_SplitNest.tab15 tmesislaw10_SplitNest.bits15 (fun HT_ HW_ => ?_)
      generalize wr.drew = w41 at HO_4 BK587 HB hHeld ⊢
      refine pure_ (i := 0) (N := some 44) (v := ?_) (a' := ?_) #[true, false, false, false, false, false, false, false, false, false, false, false, false, false, false, false] rfl rfl (any_of HT_.out (by kernel_rfl)) (fun _ _ _ h => h) (Or.inl ⟨by rfl, ?_⟩) ?_ ?_
      rotate_left
      ·intro w'
       go_simp
       with_reducible rfl
      rotate_left
      ·simp only [Act.put, List.setIfInBounds_toArray, List.set_cons_zero, List.set_cons_succ, i64_w, i32_w]
       rfl
      refine pure_ (i := 1) (N := some 45) (v := ?_) (a' := ?_) #[true, true, false, false, false, false, false, false, false, false, false, false, false, false, false, false] rfl rfl (any_of HT_.out (by kernel_rfl)) (fun _ _ _ h => h) (Or.inl ⟨by rfl, ?_⟩) ?_ ?_
      rotate_left
      ·intro w'
       go_simp
       with_reducible rfl
      rotate_left
      ·simp only [Act.put, List.setIfInBounds_toArray, List.set_cons_zero, List.set_cons_succ, i64_w, i32_w]
       rfl
      refine pure_ (i := 2) (N := some 46) (v := ?_) (a' := ?_) #[true, true, true, false, false, false, false, false, false, false, false, false, false, false, false, false] rfl rfl (any_of HT_.out (by kernel_rfl)) (fun _ _ _ h => h) (Or.inl ⟨by rfl, ?_⟩) ?_ ?_
      rotate_left
      ·intro w'
       go_simp
       with_reducible rfl
      rotate_left
      ·simp only [Act.put, List.setIfInBounds_toArray, List.set_cons_zero, List.set_cons_succ, i64_w, i32_w]
       rfl
      refine pure_ (i := 3) (N := some 47) (v := ?_) (a' := ?_) #[true, true, true, true, false, false, false, false, false, false, false, false, false, false, false, false] rfl rfl (any_of HT_.out (by kernel_rfl)) (fun _ _ _ h => h) (Or.inl ⟨by rfl, ?_⟩) ?_ ?_
      rotate_left
      ·intro w'
       go_simp
       with_reducible rfl
      rotate_left
      ·simp only [Act.put, List.setIfInBounds_toArray, List.set_cons_zero, List.set_cons_succ, i64_w, i32_w]
       rfl
      refine pure_ (i := 5) (N := some 49) (v := ?_) (a' := ?_) #[true, true, true, true, false, true, false, false, false, false, false, false, false, false, false, false] rfl rfl (any_of HT_.out (by kernel_rfl)) (fun _ _ _ h => h) (Or.inl ⟨by rfl, ?_⟩) ?_ ?_
      rotate_left
      ·intro w'
       go_simp
       with_reducible rfl
      rotate_left
      ·simp only [Act.put, List.setIfInBounds_toArray, List.set_cons_zero, List.set_cons_succ, i64_w, i32_w]
       rfl
      refine pure_ (i := 6) (N := some 50) (v := ?_) (a' := ?_) #[true, true, true, true, false, true, true, false, false, false, false, false, false, false, false, false] rfl rfl (any_of HT_.out (by kernel_rfl)) (fun _ _ _ h => h) (Or.inl ⟨by rfl, ?_⟩) ?_ ?_
      rotate_left
      ·intro w'
       go_simp
       with_reducible rfl
      rotate_left
      ·simp only [Act.put, List.setIfInBounds_toArray, List.set_cons_zero, List.set_cons_succ, i64_w, i32_w]
       rfl
      refine pure_ (i := 7) (N := some 51) (v := ?_) (a' := ?_) #[true, true, true, true, false, true, true, true, false, false, false, false, false, false, false, false] rfl rfl (any_of HT_.out (by kernel_rfl)) (fun _ _ _ h => h) (Or.inl ⟨by rfl, ?_⟩) ?_ ?_
      rotate_left
      ·intro w'
       go_simp
       with_reducible rfl
      rotate_left
      ·simp only [Act.put, List.setIfInBounds_toArray, List.set_cons_zero, List.set_cons_succ, i64_w, i32_w]
       rfl
      refine take_ (i := 8) (N := some 52) (v := ?_) (a' := ?_) #[true, true, true, true, false, true, true, true, true, false, false, false, false, false, false, false] rfl rfl (take_ofW HT_.out HW_.out (by kernel_rfl)) (fun _ _ _ h => h) (Or.inl ⟨by rfl, ?_⟩) hHeld ?_ ?_
      rotate_left
      ·rintro w' ⟨s0, s1, s2, s3⟩
       go_simp
       with_reducible rfl
      rotate_left
      ·simp only [Act.put, List.setIfInBounds_toArray, List.set_cons_zero, List.set_cons_succ, i64_w, i32_w]
       rfl
      refine pure_ (i := 9) (N := some 53) (v := ?_) (a' := ?_) #[true, true, true, true, false, true, true, true, true, true, false, false, false, false, false, false] rfl rfl (any_of HT_.out (by kernel_rfl)) (fun _ _ _ h => h) (Or.inl ⟨by rfl, ?_⟩) ?_ ?_
      rotate_left
      ·intro w'
       go_simp
       with_reducible rfl
      rotate_left
      ·simp only [Act.put, List.setIfInBounds_toArray, List.set_cons_zero, List.set_cons_succ, i64_w, i32_w]
       rfl
      refine pure_ (i := 10) (N := some 54) (v := ?_) (a' := ?_) #[true, true, true, true, false, true, true, true, true, true, true, false, false, false, false, false] rfl rfl (any_of HT_.out (by kernel_rfl)) (fun _ _ _ h => h) (Or.inl ⟨by rfl, ?_⟩) ?_ ?_
      rotate_left
      ·intro w'
       go_simp
       with_reducible rfl
      rotate_left
      ·simp only [Act.put, List.setIfInBounds_toArray, List.set_cons_zero, List.set_cons_succ, i64_w, i32_w]
       rfl
      refine pure_ (i := 11) (N := some 55) (v := ?_) (a' := ?_) #[true, true, true, true, false, true, true, true, true, true, true, true, false, false, false, false] rfl rfl (any_of HT_.out (by kernel_rfl)) (fun _ _ _ h => h) (Or.inl ⟨by rfl, ?_⟩) ?_ ?_
      rotate_left
      ·intro w'
       go_simp
       with_reducible rfl
      rotate_left
      ·simp only [Act.put, List.setIfInBounds_toArray, List.set_cons_zero, List.set_cons_succ, i64_w, i32_w]
       rfl
      refine pure_ (i := 12) (N := some 56) (v := ?_) (a' := ?_) #[true, true, true, true, false, true, true, true, true, true, true, true, true, false, false, false] rfl rfl (any_of HT_.out (by kernel_rfl)) (fun _ _ _ h => h) (Or.inl ⟨by rfl, ?_⟩) ?_ ?_
      rotate_left
      ·intro w'
       go_simp
       with_reducible rfl
      rotate_left
      ·simp only [Act.put, List.setIfInBounds_toArray, List.set_cons_zero, List.set_cons_succ, i64_w, i32_w]
       rfl
      refine one_ (i := 4) (N := some 48) #[true, true, true, true, true, true, true, true, true, true, true, true, true, false, false, false] rfl rfl (one_of HT_.out (by kernel_rfl)) (by decide) (fun K hK => ?_)
      refine goes_ Tryd.func16 (by kernel_rfl) rfl #[.agg #[.int .i64 0, .int .i64 0, .int .i64 0, .slice Ao42 x4_1.length co42]] (by rfl) rfl rfl (by (try simp only [List.map_toArray, List.map_cons, List.map_nil]); first | done | rfl | (simp only [List.length_drop, List.length_take]; rfl)) ?_
      with_reducible refine (split_Nest.calls k1 0 0 0 _ _ x4_1 t604 _ ?side1 ?side2 A39.out).mono ?_
      (case side1 => repeat (first | exact (Kd.R_reads' HO_4.out).2.2 | (with_reducible refine Kd.C_alloc ?_ _) | (with_reducible refine Kd.C_drewN ?_ _) | (with_reducible refine Kd.C_drew ?_)))
      (case side2 => exact (Kd.R_reads' HO_4.out).2.1)
      rintro e w43 ⟨rfl, hb⟩
      refine ⟨_, rfl, ?_⟩
      have n0_ := Aside0.mk (Kd.R_below (by (with_reducible repeat (first | apply Kd.R_alloc | apply Kd.R_drewN | apply Kd.R_drew)); exact HO_4.out) hb)
      have n1_ := Aside0.mk (blk_below (g := gb587) (o := .cells #[.int .u8 a0_0, .int .u8 a0_1, .int .u8 a0_2, .int .u8 a0_3] 44 (0, 0)) (by (with_reducible repeat (first | refine blk_drewN ?_ _ | refine blk_drew ?_ | refine blk_alloc ?_ _)); exact BK587.out) hb)
      have n2_ := Aside0.mk (below_step (by repeat (first | (with_reducible first | exact HB.out | apply below_alloc | apply pw_below_drewN | apply below_drew1 | refine below_set ?_ GE587.out) | exact HB.out)) hb)
      clear HO_4
      clear BK587
      clear HB
      have HO_4 := n0_
      have BK587 := n1_
      have HB := n2_
      clear n0_ n1_ n2_
      (try clear hb)
      (try clear hb2)
      (try clear hk)
      (try clear hi)
      refine hK.out _ _ ⟨(blk_cell BK587.out 0).trans rfl, (blk_cell BK587.out 1).trans rfl, (blk_cell BK587.out 2).trans rfl, (blk_cell BK587.out 3).trans rfl⟩ (fun hHeld => ?_)
      clear hK K
      refine norm_ (a' := ?_) ?_ ?_
      rotate_left
      ·show Act.put _ (some 48) _ = _
       simp only [Act.put, List.setIfInBounds_toArray, List.set_cons_zero, List.set_cons_succ, i64_w, i32_w]
       rfl
      refine pure_ (i := 13) (N := some 57) (v := ?_) (a' := ?_) #[true, true, true, true, true, true, true, true, true, true, true, true, true, true, false, false] rfl rfl (any_of HT_.out (by kernel_rfl)) (fun _ _ _ h => h) (Or.inl ⟨by rfl, ?_⟩) ?_ ?_
      rotate_left
      ·intro w'
       go_simp
       with_reducible rfl
      rotate_left
      ·simp only [Act.put, List.setIfInBounds_toArray, List.set_cons_zero, List.set_cons_succ, i64_w, i32_w]
       rfl
      refine pure_ (i := 14) (N := some 58) (v := ?_) (a' := ?_) #[true, true, true, true, true, true, true, true, true, true, true, true, true, true, true, false] rfl rfl (any_of HT_.out (by kernel_rfl)) (fun _ _ _ h => h) (Or.inl ⟨by rfl, ?_⟩) ?_ ?_
      rotate_left
      ·intro w'
       go_simp
       with_reducible rfl
      rotate_left
      ·simp only [Act.put, List.setIfInBounds_toArray, List.set_cons_zero, List.set_cons_succ, i64_w, i32_w]
       rfl
      refine pure_ (i := 15) (N := some 2) (v := ?_) (a' := ?_) #[true, true, true, true, true, true, true, true, true, true, true, true, true, true, true, true] rfl rfl (any_of HT_.out (by kernel_rfl)) (fun _ _ _ h => h) (Or.inl ⟨by rfl, ?_⟩) ?_ ?_
      rotate_left
      ·intro w'
       go_simp
       with_reducible rfl
      rotate_left
      ·simp only [Act.put, List.setIfInBounds_toArray, List.set_cons_zero, List.set_cons_succ, i64_w, i32_w]
       rfl
      refine done_ (done_of HT_.out (by kernel_rfl)) ?_
      try go_wp2
      go_meet
      case rel => exact ⟨_, ((t604 == (ji40))), (by first | rfl | (simp; done) | (simp only [← hji40] <;> (first | rfl | simp)) | (simp [*]; done)), H', ⟨by have := HK1.out; first | omega | exact Nat.le_refl _⟩, ⟨by (with_reducible repeat (first | refine blk_drewN ?_ _ | refine blk_drew ?_ | refine blk_alloc ?_ _)); exact BK587.out⟩, ⟨by repeat (first | (with_reducible first | exact HB.out | apply below_alloc | apply pw_below_drewN | apply below_drew1 | refine below_set ?_ GE587.out) | exact HB.out)⟩⟩
     ·replace c38 := Bool.eq_false_iff.mpr c38
      subst c38
      have H1 : (tmesislaw10_SplitNest.j4 k1 false) = some r := by rw [if_neg (show ¬ (false = true) by decide)] at H; exact H
      clear H
      have H := H1
      clear H1
      have H' := Aside0.mk H
      clear H
      try go_wp2
      have n0_ := Aside0.mk (Kd.R_drew HO_4.out)
      have n1_ := Aside0.mk (blk_drew BK587.out)
      have n2_ := Aside0.mk (below_drew1 HB.out)
      clear HO_4
      clear BK587
      clear HB
      have HO_4 := n0_
      have BK587 := n1_
      have HB := n2_
      clear n0_ n1_ n2_
      refine start_ (n := 16) (S := fun w' => True) (ds := []) #[false, false, false, false, false, false, false, false, false, false, false, false, false, false, false, false] (by kernel_rfl) rfl rfl trivial (fun hHeld => ?_); refine with_tabW tmesislaw10_SplitNest.tab15 tmesislaw10_SplitNest.bits15 (fun HT_ HW_ => ?_)
      generalize wr.drew = w44 at HO_4 BK587 HB hHeld ⊢
      refine pure_ (i := 0) (N := some 44) (v := ?_) (a' := ?_) #[true, false, false, false, false, false, false, false, false, false, false, false, false, false, false, false] rfl rfl (any_of HT_.out (by kernel_rfl)) (fun _ _ _ h => h) (Or.inl ⟨by rfl, ?_⟩) ?_ ?_
      rotate_left
      ·intro w'
       go_simp
       with_reducible rfl
      rotate_left
      ·simp only [Act.put, List.setIfInBounds_toArray, List.set_cons_zero, List.set_cons_succ, i64_w, i32_w]
       rfl
      refine pure_ (i := 1) (N := some 45) (v := ?_) (a' := ?_) #[true, true, false, false, false, false, false, false, false, false, false, false, false, false, false, false] rfl rfl (any_of HT_.out (by kernel_rfl)) (fun _ _ _ h => h) (Or.inl ⟨by rfl, ?_⟩) ?_ ?_
      rotate_left
      ·intro w'
       go_simp
       with_reducible rfl
      rotate_left
      ·simp only [Act.put, List.setIfInBounds_toArray, List.set_cons_zero, List.set_cons_succ, i64_w, i32_w]
       rfl
      refine pure_ (i := 2) (N := some 46) (v := undef) (a' := ?_) #[true, true, true, false, false, false, false, false, false, false, false, false, false, false, false, false] rfl rfl (any_of HT_.out (by kernel_rfl)) (fun _ _ _ h => h) (Or.inr ⟨by rfl, rfl⟩) ?_ ?_
      rotate_left
      ·simp only [Act.put, List.setIfInBounds_toArray, List.set_cons_zero, List.set_cons_succ, i64_w, i32_w]
       rfl
      refine pure_ (i := 3) (N := some 47) (v := undef) (a' := ?_) #[true, true, true, true, false, false, false, false, false, false, false, false, false, false, false, false] rfl rfl (any_of HT_.out (by kernel_rfl)) (fun _ _ _ h => h) (Or.inr ⟨by rfl, rfl⟩) ?_ ?_
      rotate_left
      ·simp only [Act.put, List.setIfInBounds_toArray, List.set_cons_zero, List.set_cons_succ, i64_w, i32_w]
       rfl
      refine pure_ (i := 4) (N := some 48) (v := undef) (a' := ?_) #[true, true, true, true, true, false, false, false, false, false, false, false, false, false, false, false] rfl rfl (any_of HT_.out (by kernel_rfl)) (fun _ _ _ h => h) (Or.inr ⟨by rfl, rfl⟩) ?_ ?_
      rotate_left
      ·simp only [Act.put, List.setIfInBounds_toArray, List.set_cons_zero, List.set_cons_succ, i64_w, i32_w]
       rfl
      refine pure_ (i := 5) (N := some 49) (v := undef) (a' := ?_) #[true, true, true, true, true, true, false, false, false, false, false, false, false, false, false, false] rfl rfl (any_of HT_.out (by kernel_rfl)) (fun _ _ _ h => h) (Or.inr ⟨by rfl, rfl⟩) ?_ ?_
      rotate_left
      ·simp only [Act.put, List.setIfInBounds_toArray, List.set_cons_zero, List.set_cons_succ, i64_w, i32_w]
       rfl
      refine pure_ (i := 6) (N := some 50) (v := undef) (a' := ?_) #[true, true, true, true, true, true, true, false, false, false, false, false, false, false, false, false] rfl rfl (any_of HT_.out (by kernel_rfl)) (fun _ _ _ h => h) (Or.inr ⟨by rfl, rfl⟩) ?_ ?_
      rotate_left
      ·simp only [Act.put, List.setIfInBounds_toArray, List.set_cons_zero, List.set_cons_succ, i64_w, i32_w]
       rfl
      refine pure_ (i := 7) (N := some 51) (v := undef) (a' := ?_) #[true, true, true, true, true, true, true, true, false, false, false, false, false, false, false, false] rfl rfl (any_of HT_.out (by kernel_rfl)) (fun _ _ _ h => h) (Or.inr ⟨by rfl, rfl⟩) ?_ ?_
      rotate_left
      ·simp only [Act.put, List.setIfInBounds_toArray, List.set_cons_zero, List.set_cons_succ, i64_w, i32_w]
       rfl
      refine pure_ (i := 8) (N := some 52) (v := undef) (a' := ?_) #[true, true, true, true, true, true, true, true, true, false, false, false, false, false, false, false] rfl rfl (any_of HT_.out (by kernel_rfl)) (fun _ _ _ h => h) (Or.inr ⟨by rfl, rfl⟩) ?_ ?_
      rotate_left
      ·simp only [Act.put, List.setIfInBounds_toArray, List.set_cons_zero, List.set_cons_succ, i64_w, i32_w]
       rfl
      refine pure_ (i := 9) (N := some 53) (v := undef) (a' := ?_) #[true, true, true, true, true, true, true, true, true, true, false, false, false, false, false, false] rfl rfl (any_of HT_.out (by kernel_rfl)) (fun _ _ _ h => h) (Or.inr ⟨by rfl, rfl⟩) ?_ ?_
      rotate_left
      ·simp only [Act.put, List.setIfInBounds_toArray, List.set_cons_zero, List.set_cons_succ, i64_w, i32_w]
       rfl
      refine pure_ (i := 10) (N := some 54) (v := undef) (a' := ?_) #[true, true, true, true, true, true, true, true, true, true, true, false, false, false, false, false] rfl rfl (any_of HT_.out (by kernel_rfl)) (fun _ _ _ h => h) (Or.inr ⟨by rfl, rfl⟩) ?_ ?_
      rotate_left
      ·simp only [Act.put, List.setIfInBounds_toArray, List.set_cons_zero, List.set_cons_succ, i64_w, i32_w]
       rfl
      refine pure_ (i := 11) (N := some 55) (v := undef) (a' := ?_) #[true, true, true, true, true, true, true, true, true, true, true, true, false, false, false, false] rfl rfl (any_of HT_.out (by kernel_rfl)) (fun _ _ _ h => h) (Or.inr ⟨by rfl, rfl⟩) ?_ ?_
      rotate_left
      ·simp only [Act.put, List.setIfInBounds_toArray, List.set_cons_zero, List.set_cons_succ, i64_w, i32_w]
       rfl
      refine pure_ (i := 12) (N := some 56) (v := undef) (a' := ?_) #[true, true, true, true, true, true, true, true, true, true, true, true, true, false, false, false] rfl rfl (any_of HT_.out (by kernel_rfl)) (fun _ _ _ h => h) (Or.inr ⟨by rfl, rfl⟩) ?_ ?_
      rotate_left
      ·simp only [Act.put, List.setIfInBounds_toArray, List.set_cons_zero, List.set_cons_succ, i64_w, i32_w]
       rfl
      refine pure_ (i := 13) (N := some 57) (v := undef) (a' := ?_) #[true, true, true, true, true, true, true, true, true, true, true, true, true, true, false, false] rfl rfl (any_of HT_.out (by kernel_rfl)) (fun _ _ _ h => h) (Or.inr ⟨by rfl, rfl⟩) ?_ ?_
      rotate_left
      ·simp only [Act.put, List.setIfInBounds_toArray, List.set_cons_zero, List.set_cons_succ, i64_w, i32_w]
       rfl
      refine pure_ (i := 14) (N := some 58) (v := ?_) (a' := ?_) #[true, true, true, true, true, true, true, true, true, true, true, true, true, true, true, false] rfl rfl (any_of HT_.out (by kernel_rfl)) (fun _ _ _ h => h) (Or.inl ⟨by rfl, ?_⟩) ?_ ?_
      rotate_left
      ·intro w'
       go_simp
       with_reducible rfl
      rotate_left
      ·simp only [Act.put, List.setIfInBounds_toArray, List.set_cons_zero, List.set_cons_succ, i64_w, i32_w]
       rfl
      refine pure_ (i := 15) (N := some 2) (v := ?_) (a' := ?_) #[true, true, true, true, true, true, true, true, true, true, true, true, true, true, true, true] rfl rfl (any_of HT_.out (by kernel_rfl)) (fun _ _ _ h => h) (Or.inl ⟨by rfl, ?_⟩) ?_ ?_
      rotate_left
      ·intro w'
       go_simp
       with_reducible rfl
      rotate_left
      ·simp only [Act.put, List.setIfInBounds_toArray, List.set_cons_zero, List.set_cons_succ, i64_w, i32_w]
       rfl
      refine done_ (done_of HT_.out (by kernel_rfl)) ?_
      try go_wp2
      go_meet
      case rel => exact ⟨_, (false), (by first | rfl | (simp; done) | (simp [*]; done)), H', ⟨by have := HK1.out; first | omega | exact Nat.le_refl _⟩, ⟨by (with_reducible repeat (first | refine blk_drewN ?_ _ | refine blk_drew ?_ | refine blk_alloc ?_ _)); exact BK587.out⟩, ⟨by repeat (first | (with_reducible first | exact HB.out | apply below_alloc | apply pw_below_drewN | apply below_drew1 | refine below_set ?_ GE587.out) | exact HB.out)⟩⟩
    case rest =>
     clear HC36
     try clear c1
     try clear c2
     try clear p2
     try clear c3
     try clear c6
     try clear p6
     try clear c7
     try clear c7b0
     try clear c8
     try clear c10
     try clear c10b0
     try clear c10b1
     try clear c11
     try clear c11b0
     try clear c11b1
     try clear c12
     try clear c12b0
     try clear c13
     try clear c16
     try clear c17
     try clear c17b0
     try clear c17b1
     try clear c18
     try clear c18b0
     try clear c19
     try clear c23
     try clear c23b0
     try clear c23b1
     try clear c24
     try clear c24b0
     try clear c25
     try clear c29
     try clear c29b0
     try clear c29b1
     try clear c30
     try clear c30b0
     try clear c31
     try clear c38
     try clear hcz14_0
     try clear hcz14_1
     try clear hcz14_2
     try clear hcz14_3
     try clear hcz16_0
     try clear hcz16_1
     try clear hcz16_2
     try clear hcz16_3
     try clear hcz20_0
     try clear hcz20_1
     try clear hcz20_2
     try clear hcz20_3
     try clear hcz22_0
     try clear hcz22_1
     try clear hcz22_2
     try clear hcz22_3
     try clear hcz26_0
     try clear hcz26_1
     try clear hcz26_2
     try clear hcz26_3
     try clear hcz28_0
     try clear hcz28_1
     try clear hcz28_2
     try clear hcz28_3
     try clear hcz32_0
     try clear hcz32_1
     try clear hcz32_2
     try clear hcz32_3
     try clear hcz34_0
     try clear hcz34_1
     try clear hcz34_2
     try clear hcz34_3
     try clear hcz37_0
     try clear hcz37_1
     try clear hcz37_2
     try clear hcz37_3
     try clear hfz14_0
     try clear hfz14_1
     try clear hfz14_2
     try clear hfz14_3
     try clear hfz16_0
     try clear hfz16_1
     try clear hfz16_2
     try clear hfz16_3
     try clear hfz20_0
     try clear hfz20_1
     try clear hfz20_2
     try clear hfz20_3
     try clear hfz22_0
     try clear hfz22_1
     try clear hfz22_2
     try clear hfz22_3
     try clear hfz26_0
     try clear hfz26_1
     try clear hfz26_2
     try clear hfz26_3
     try clear hfz28_0
     try clear hfz28_1
     try clear hfz28_2
     try clear hfz28_3
     try clear hfz32_0
     try clear hfz32_1
     try clear hfz32_2
     try clear hfz32_3
     try clear hfz34_0
     try clear hfz34_1
     try clear hfz34_2
     try clear hfz34_3
     try clear hfz37_0
     try clear hfz37_1
     try clear hfz37_2
     try clear hfz37_3
     try clear p2
     try clear p6
     obtain ⟨kq, x2_35, rfl, HA, HJ35, BK587, HB⟩ := hcut
     cases kq with
     | zero => exact absurd HA.out (by simp [tmesislaw10_SplitNest.j4])
     | succ kj35 =>
      have H := HA.out
      clear HA
      simp only [tmesislaw10_SplitNest.j4] at H
      obtain rfl := Option.some.inj H
      go_wp2
      go_ret
      exact ⟨by first | rfl | (simp [errW_none, errW_some] <;> rfl) | (simp only [← hji35]; first | rfl | (simp [errW_none, errW_some] <;> rfl)) | (simp [*, errW_none, errW_some] <;> rfl), by repeat (first | (with_reducible first | exact HB.out | apply below_alloc | apply pw_below_drewN | apply below_drew1 | refine below_set ?_ GE587.out) | exact HB.out)⟩
/-- THE ONE PURE STATEMENT of tmesislaw10_SplitNest: yours. -/
def tmesislaw10_SplitNest.Pure : Prop := ∀ (a0_0 : Int) (a0_1 : Int) (a0_2 : Int) (a0_3 : Int), (Lit.int .u8 a0_0).wf = true → (Lit.int .u8 a0_1).wf = true → (Lit.int .u8 a0_2).wf = true → (Lit.int .u8 a0_3).wf = true → ∃ k, tmesislaw10_SplitNest.f k a0_0 a0_1 a0_2 a0_3 = some true
theorem tmesislaw10_SplitNest.walk (P : tmesislaw10_SplitNest.Pure) (a0_0 : Int) (a0_1 : Int) (a0_2 : Int) (a0_3 : Int) (w : World) (hG : Gl w) (w0_0 : (Lit.int .u8 a0_0).wf = true) (w0_1 : (Lit.int .u8 a0_1).wf = true) (w0_2 : (Lit.int .u8 a0_2).wf = true) (w0_3 : (Lit.int .u8 a0_3).wf = true) :
  Calls Tryd.prog 6 #[.agg #[.int .u8 a0_0, .int .u8 a0_1, .int .u8 a0_2, .int .u8 a0_3]] w fun e w' => e = .returned (.bool true) ∧ Below w.heap.size w w' := by
 obtain ⟨k, h⟩ := P a0_0 a0_1 a0_2 a0_3 w0_0 w0_1 w0_2 w0_3
 refine (tmesislaw10_SplitNest.calls k a0_0 a0_1 a0_2 a0_3 true w hG h).mono ?_
 rintro e w' ⟨rfl, hd⟩
 exact ⟨rfl, hd⟩
end Go.Proofs.YtpkklbdclghcfaaDoor.P
