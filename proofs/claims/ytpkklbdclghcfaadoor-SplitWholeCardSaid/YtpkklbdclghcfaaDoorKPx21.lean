/- Part of the proof: what the theorem needs of this text. -/
import Derived.Test.YtpkklbdclghcfaaDoorKHG
import Derived.Test.YtpkklbdclghcfaaDoorKPx0
import Derived.Test.YtpkklbdclghcfaaDoorKPx10
import Derived.Test.YtpkklbdclghcfaaDoorKPx12
import Derived.Test.YtpkklbdclghcfaaDoorKPx9
namespace Go.Proofs.YtpkklbdclghcfaaDoor.P
open Go.RowKit Go.Proofs.YtpkklbdclghcfaaDoorW.PrintWords Go.Proofs.YtpkklbdclghcfaaDoorW.PrintLast Go.Proofs.YtpkklbdclghcfaaDoorW.PrintMore
attribute [local go_sem] max2_int min2_int max_two min_two max_three min_three max_four min_four   -- for this text's walks alone
set_option linter.unusedVariables false
set_option linter.unusedSimpArgs false
mutual
def tmesislaw10_SplitWhole.l0 : Nat → List Int → Bool → List (S25) → List (S38) → Int → Option (Bool)
 | 0, _, _, _, _, _ => none
 | k + 1, x0, x3, x4, x5, x6 => if x6 < (x4.length : Int) then (if 0 ≤ x6 then (if (((rd_T25 x4 x6).f3).length : Int) = 0 then (tmesislaw10_SplitWhole.j1 k x0 x3 x4 x5 x6 ((rd_T25 x4 x6).f3) true) else (if ((rd_T25 x4 x6).f2) = (x5.length : Int) then (if 0 < (((rd_T25 x4 x6).f3).length : Int) then (if ((rd_T25 x4 x6).f0) = ((rd_T38 ((rd_T25 x4 x6).f3) 0).f1) then (if 0 ≤ (wrap64 ((((rd_T25 x4 x6).f3).length : Int) - 1)) then (if (wrap64 ((((rd_T25 x4 x6).f3).length : Int) - 1)) < (((rd_T25 x4 x6).f3).length : Int) then (if ((rd_T25 x4 x6).f1) = ((rd_T38 ((rd_T25 x4 x6).f3) (wrap64 ((((rd_T25 x4 x6).f3).length : Int) - 1))).f2) then (if x6 < (wrap64 ((x4.length : Int) - 1)) then (tmesislaw10_SplitWhole.j1 k x0 x3 x4 x5 x6 ((rd_T25 x4 x6).f3) (((rd_T38 ((rd_T25 x4 x6).f3) (wrap64 ((((rd_T25 x4 x6).f3).length : Int) - 1))).f0) != 7)) else (tmesislaw10_SplitWhole.j1 k x0 x3 x4 x5 x6 ((rd_T25 x4 x6).f3) false)) else (tmesislaw10_SplitWhole.j1 k x0 x3 x4 x5 x6 ((rd_T25 x4 x6).f3) true)) else (none)) else (none)) else (tmesislaw10_SplitWhole.j1 k x0 x3 x4 x5 x6 ((rd_T25 x4 x6).f3) true)) else (none)) else (tmesislaw10_SplitWhole.j1 k x0 x3 x4 x5 x6 ((rd_T25 x4 x6).f3) true))) else (none)) else (if x3 = true then ((tmesislaw10_few.f x0).bind fun t557 => ((lex_All.f k t557).bind fun t560 => ((tmesisref07_Same.f k x5 t560).bind fun t563 => (tmesislaw10_SplitWhole.j3 k t563)))) else (tmesislaw10_SplitWhole.j3 k false))
def tmesislaw10_SplitWhole.j1 : Nat → List Int → Bool → List (S25) → List (S38) → Int → List (S38) → Bool → Option (Bool)
 | 0, _, _, _, _, _, _, _ => none
 | k + 1, x0, x3, x4, x5, x6, x7, x81 => if x81 = true then (some false) else (tmesislaw10_SplitWhole.l1 k x0 x3 x4 x5 x6 x7 0)
def tmesislaw10_SplitWhole.l1 : Nat → List Int → Bool → List (S25) → List (S38) → Int → List (S38) → Int → Option (Bool)
 | 0, _, _, _, _, _, _, _ => none
 | k + 1, x0, x3, x4, x5, x6, x7, x8 => if x8 < (wrap64 ((x7.length : Int) - 1)) then (if 0 ≤ x8 then (if x8 < (x7.length : Int) then (if ((rd_T38 x7 x8).f0) = 7 then (some false) else (tmesislaw10_SplitWhole.l1 k x0 x3 x4 x5 x6 x7 (wrap64 (x8 + 1)))) else (none)) else (none)) else (if x5.length + x7.length < 2932031007402 then (tmesislaw10_SplitWhole.l0 k x0 x3 x4 (x5 ++ x7) (wrap64 (x6 + 1))) else (none))
def tmesislaw10_SplitWhole.j3 : Nat → Bool → Option (Bool)
 | 0, _ => none
 | k + 1, x2 => some x2
end
def tmesislaw10_SplitWhole.f (k : Nat) (l0 : List Int) : Option (Bool) := (tmesislaw10_shown.f k).bind fun t536 => ((tmesislaw10_few.f l0).bind fun t537 => ((split_Pieces.f k t537).bind fun t540 => (tmesislaw10_SplitWhole.l0 k l0 t536 t540 (([] : List (S38))) 0)))
theorem tmesislaw10_SplitWhole.mono_l : ∀ k, (∀ y0 y1 y2 y3 y4, LeO (tmesislaw10_SplitWhole.l0 k y0 y1 y2 y3 y4) (tmesislaw10_SplitWhole.l0 (k + 1) y0 y1 y2 y3 y4)) ∧ (∀ y0 y1 y2 y3 y4 y5 y6, LeO (tmesislaw10_SplitWhole.j1 k y0 y1 y2 y3 y4 y5 y6) (tmesislaw10_SplitWhole.j1 (k + 1) y0 y1 y2 y3 y4 y5 y6)) ∧ (∀ y0 y1 y2 y3 y4 y5 y6, LeO (tmesislaw10_SplitWhole.l1 k y0 y1 y2 y3 y4 y5 y6) (tmesislaw10_SplitWhole.l1 (k + 1) y0 y1 y2 y3 y4 y5 y6)) ∧ (∀ y0, LeO (tmesislaw10_SplitWhole.j3 k y0) (tmesislaw10_SplitWhole.j3 (k + 1) y0))
 | 0 => ⟨fun _ _ _ _ _ r h => by simp [tmesislaw10_SplitWhole.l0] at h, fun _ _ _ _ _ _ _ r h => by simp [tmesislaw10_SplitWhole.j1] at h, fun _ _ _ _ _ _ _ r h => by simp [tmesislaw10_SplitWhole.l1] at h, fun _ r h => by simp [tmesislaw10_SplitWhole.j3] at h⟩
 | k + 1 => by
  obtain ⟨ih0, ih1, ih2, ih3⟩ := tmesislaw10_SplitWhole.mono_l k
  refine ⟨?_, ?_, ?_, ?_⟩
  ·intro y0 y1 y2 y3 y4
   unfold tmesislaw10_SplitWhole.l0
   repeat' first
   | (with_reducible exact ih0 _ _ _ _ _)
   | (with_reducible exact ih1 _ _ _ _ _ _ _)
   | (with_reducible exact ih2 _ _ _ _ _ _ _)
   | (with_reducible exact ih3 _)
   | (with_reducible exact lex_All.mono _ _)
   | (with_reducible exact split_Pieces.mono _ _)
   | (with_reducible exact tmesislaw10_shown.mono _)
   | (with_reducible exact tmesisref07_Same.mono _ _ _)
   | (with_reducible exact LeO.refl _)
   | (with_reducible exact LeO.none _)
   | (with_reducible refine LeO.ite ?_ ?_)
   | (with_reducible refine LeO.bind ?_ (fun _ => ?_))
   | exact ih0 _ _ _ _ _
   | exact ih1 _ _ _ _ _ _ _
   | exact ih2 _ _ _ _ _ _ _
   | exact ih3 _
   | exact lex_All.mono _ _
   | exact split_Pieces.mono _ _
   | exact tmesislaw10_shown.mono _
   | exact tmesisref07_Same.mono _ _ _
   | exact LeO.none _
   | refine LeO.ite ?_ ?_
   | refine LeO.bind ?_ (fun _ => ?_)
  ·intro y0 y1 y2 y3 y4 y5 y6
   unfold tmesislaw10_SplitWhole.j1
   repeat' first
   | (with_reducible exact ih0 _ _ _ _ _)
   | (with_reducible exact ih1 _ _ _ _ _ _ _)
   | (with_reducible exact ih2 _ _ _ _ _ _ _)
   | (with_reducible exact ih3 _)
   | (with_reducible exact lex_All.mono _ _)
   | (with_reducible exact split_Pieces.mono _ _)
   | (with_reducible exact tmesislaw10_shown.mono _)
   | (with_reducible exact tmesisref07_Same.mono _ _ _)
   | (with_reducible exact LeO.refl _)
   | (with_reducible exact LeO.none _)
   | (with_reducible refine LeO.ite ?_ ?_)
   | (with_reducible refine LeO.bind ?_ (fun _ => ?_))
   | exact ih0 _ _ _ _ _
   | exact ih1 _ _ _ _ _ _ _
   | exact ih2 _ _ _ _ _ _ _
   | exact ih3 _
   | exact lex_All.mono _ _
   | exact split_Pieces.mono _ _
   | exact tmesislaw10_shown.mono _
   | exact tmesisref07_Same.mono _ _ _
   | exact LeO.none _
   | refine LeO.ite ?_ ?_
   | refine LeO.bind ?_ (fun _ => ?_)
  ·intro y0 y1 y2 y3 y4 y5 y6
   unfold tmesislaw10_SplitWhole.l1
   repeat' first
   | (with_reducible exact ih0 _ _ _ _ _)
   | (with_reducible exact ih1 _ _ _ _ _ _ _)
   | (with_reducible exact ih2 _ _ _ _ _ _ _)
   | (with_reducible exact ih3 _)
   | (with_reducible exact lex_All.mono _ _)
   | (with_reducible exact split_Pieces.mono _ _)
   | (with_reducible exact tmesislaw10_shown.mono _)
   | (with_reducible exact tmesisref07_Same.mono _ _ _)
   | (with_reducible exact LeO.refl _)
   | (with_reducible exact LeO.none _)
   | (with_reducible refine LeO.ite ?_ ?_)
   | (with_reducible refine LeO.bind ?_ (fun _ => ?_))
   | exact ih0 _ _ _ _ _
   | exact ih1 _ _ _ _ _ _ _
   | exact ih2 _ _ _ _ _ _ _
   | exact ih3 _
   | exact lex_All.mono _ _
   | exact split_Pieces.mono _ _
   | exact tmesislaw10_shown.mono _
   | exact tmesisref07_Same.mono _ _ _
   | exact LeO.none _
   | refine LeO.ite ?_ ?_
   | refine LeO.bind ?_ (fun _ => ?_)
  ·intro y0
   unfold tmesislaw10_SplitWhole.j3
   repeat' first
   | (with_reducible exact ih0 _ _ _ _ _)
   | (with_reducible exact ih1 _ _ _ _ _ _ _)
   | (with_reducible exact ih2 _ _ _ _ _ _ _)
   | (with_reducible exact ih3 _)
   | (with_reducible exact lex_All.mono _ _)
   | (with_reducible exact split_Pieces.mono _ _)
   | (with_reducible exact tmesislaw10_shown.mono _)
   | (with_reducible exact tmesisref07_Same.mono _ _ _)
   | (with_reducible exact LeO.refl _)
   | (with_reducible exact LeO.none _)
   | (with_reducible refine LeO.ite ?_ ?_)
   | (with_reducible refine LeO.bind ?_ (fun _ => ?_))
   | exact ih0 _ _ _ _ _
   | exact ih1 _ _ _ _ _ _ _
   | exact ih2 _ _ _ _ _ _ _
   | exact ih3 _
   | exact lex_All.mono _ _
   | exact split_Pieces.mono _ _
   | exact tmesislaw10_shown.mono _
   | exact tmesisref07_Same.mono _ _ _
   | exact LeO.none _
   | refine LeO.ite ?_ ?_
   | refine LeO.bind ?_ (fun _ => ?_)
theorem tmesislaw10_SplitWhole.mono : ∀ a0 k, LeO (tmesislaw10_SplitWhole.f k a0) (tmesislaw10_SplitWhole.f (k + 1) a0) := by
 intro a0 k
 obtain ⟨ih0, ih1, ih2, ih3⟩ := tmesislaw10_SplitWhole.mono_l k
 unfold tmesislaw10_SplitWhole.f
 repeat' first
   | (with_reducible exact ih0 _ _ _ _ _)
   | (with_reducible exact ih1 _ _ _ _ _ _ _)
   | (with_reducible exact ih2 _ _ _ _ _ _ _)
   | (with_reducible exact ih3 _)
   | (with_reducible exact lex_All.mono _ _)
   | (with_reducible exact split_Pieces.mono _ _)
   | (with_reducible exact tmesislaw10_shown.mono _)
   | (with_reducible exact tmesisref07_Same.mono _ _ _)
   | (with_reducible exact LeO.refl _)
   | (with_reducible exact LeO.none _)
   | (with_reducible refine LeO.ite ?_ ?_)
   | (with_reducible refine LeO.bind ?_ (fun _ => ?_))
   | exact ih0 _ _ _ _ _
   | exact ih1 _ _ _ _ _ _ _
   | exact ih2 _ _ _ _ _ _ _
   | exact ih3 _
   | exact lex_All.mono _ _
   | exact split_Pieces.mono _ _
   | exact tmesislaw10_shown.mono _
   | exact tmesisref07_Same.mono _ _ _
   | exact LeO.none _
   | refine LeO.ite ?_ ?_
   | refine LeO.bind ?_ (fun _ => ?_)
set_option maxHeartbeats 8000000 in
set_option maxRecDepth 100000 in
theorem tmesislaw10_SplitWhole.calls (k : Nat) (A0 : Option Addr) (c0 : Nat) (l0 : List Int) (r : Bool) (w : World) (hG : Gl w) (hr0 : Kd.C (Kd.int .u8) w A0 l0.length l0) (hc0 : l0.length ≤ c0) (h : tmesislaw10_SplitWhole.f k l0 = some r) :
  Calls Tryd.prog 4 #[.slice A0 l0.length c0] w fun e w' => e = .returned (.bool r) ∧ Below w.heap.size w w' := by
 have HR0 := Aside0.mk hr0
 have HC0 := Aside0.mk hc0
 clear hr0 hc0
 have HB := Aside0.mk (Below.refl w.heap.size w)
 have HG := Aside0.mk hG
 clear hG
 have H : ((tmesislaw10_shown.f k).bind fun t536 => ((tmesislaw10_few.f l0).bind fun t537 => ((split_Pieces.f k t537).bind fun t540 => (tmesislaw10_SplitWhole.l0 k l0 t536 t540 (([] : List (S38))) 0)))) = some r := h
 clear h
 replace H := Option.bind_eq_some_iff.mp H
 obtain ⟨t536, A20, H⟩ := H
 replace H : ((tmesislaw10_few.f l0).bind fun t537 => ((split_Pieces.f k t537).bind fun t540 => (tmesislaw10_SplitWhole.l0 k l0 t536 t540 (([] : List (S38))) 0))) = some r := H
 have A2 := Aside0.mk A20
 clear A20
 replace H := Option.bind_eq_some_iff.mp H
 obtain ⟨t537, A30, H⟩ := H
 replace H : ((split_Pieces.f k t537).bind fun t540 => (tmesislaw10_SplitWhole.l0 k l0 t536 t540 (([] : List (S38))) 0)) = some r := H
 have A3 := Aside0.mk A30
 clear A30
 replace H := Option.bind_eq_some_iff.mp H
 obtain ⟨t540, A40, H⟩ := H
 replace H : (tmesislaw10_SplitWhole.l0 k l0 t536 t540 (([] : List (S38))) 0) = some r := H
 have A4 := Aside0.mk A40
 clear A40
 obtain ⟨y543, hy543⟩ : ∃ y_ : List (S38), y_ = (([] : List (S38))) := ⟨_, rfl⟩
 replace H : (tmesislaw10_SplitWhole.l0 k l0 t536 t540 y543 0) = some r := by first | (rw [hy543]; with_reducible exact H) | (have H2_ := (Option.bind_some _ _).symm.trans H; rw [hy543]; with_reducible exact H2_) | (have H2_ := (Option.bind_some _ _).symm.trans H; with_reducible exact H2_) | with_reducible exact H | (rw [hy543]; exact H) | exact H
 have Ny543 := Aside0.mk hy543
 clear hy543
 have H' := Aside0.mk H
 clear H
 go_enter Tryd.func4, Tryd.ntmps4
 go_wp2_with (first | (go_at_call 8; (with_reducible refine (tmesislaw10_shown.calls k  t536 _ ?side1 A2.out).mono ?_); (case side1 => exact Gl.below HG.out (by repeat (first | (with_reducible first | exact HB.out | apply below_alloc | apply pw_below_drewN | apply below_drew1) | exact HB.out))); rintro e w5 ⟨rfl, hb⟩; have n0_ := Aside0.mk (below_step (by repeat (first | (with_reducible first | exact HB.out | apply below_alloc | apply pw_below_drewN | apply below_drew1) | exact HB.out)) hb); clear HB; have HB := n0_; clear n0_; (try clear hb); (try clear hb2); (try clear hk); (try clear hi)) | (go_at_call 14; (with_reducible refine (tmesislaw10_few.calls (fun k_ => k_ < w.heap.size) _ _ l0 t537 _ ?side1 A3.out).mono ?_); (case side1 => exact Kd.V_mk HC0.out (Kd.F_below (Kd.C_F (Kd.heap_int .u8) HR0.out) (by repeat (first | (with_reducible first | exact HB.out | apply below_alloc | apply pw_below_drewN | apply below_drew1) | exact HB.out)))); rintro e w6 ⟨v538, rfl, ho0, hb⟩; have n0_ := Aside0.mk (Kd.V_lower (Kd.V_mono (ok' := fun k_ => True) ho0 (fun k_ hk_ => trivial)) (below_size (by repeat (first | (with_reducible first | exact HB.out | apply below_alloc | apply pw_below_drewN | apply below_drew1) | exact HB.out)))); have n1_ := Aside0.mk (below_step (by repeat (first | (with_reducible first | exact HB.out | apply below_alloc | apply pw_below_drewN | apply below_drew1) | exact HB.out)) hb); clear HB; have HO539 := n0_; have HB := n1_; clear n0_ n1_; (try clear hb); (try clear hb2); (try clear hk); (try clear hi); (try clear ho0); obtain ⟨Ao7, co7, eo7⟩ := Kd.V_slice HO539.out; subst eo7) | (go_at_call 13; (with_reducible refine (split_Pieces.calls k _ _ t537 t540 _ ?side1 ?side2 ?side3 A4.out).mono ?_); (case side1 => exact Gl.below HG.out (by repeat (first | (with_reducible first | exact HB.out | apply below_alloc | apply pw_below_drewN | apply below_drew1) | exact HB.out))); (case side2 => repeat (first | exact (Kd.V_reads' HO539.out).2.2 | (with_reducible refine Kd.C_alloc ?_ _) | (with_reducible refine Kd.C_drewN ?_ _) | (with_reducible refine Kd.C_drew ?_))); (case side3 => exact (Kd.V_reads' HO539.out).2.1); rintro e w8 ⟨v541, rfl, ho0, hb⟩; have n0_ := Aside0.mk (Kd.V_elder' (by (with_reducible repeat (first | apply Kd.V_alloc | apply Kd.V_drewN | apply Kd.V_drew)); exact HO539.out) (Kd.N_base ho0) hb); have n1_ := Aside0.mk (Kd.N_lower (Kd.N_mono (ok' := fun k_ => True) ho0 (fun k_ hk_ => trivial)) (below_size (by repeat (first | (with_reducible first | exact HB.out | apply below_alloc | apply pw_below_drewN | apply below_drew1) | exact HB.out)))); have n2_ := Aside0.mk (below_step (by repeat (first | (with_reducible first | exact HB.out | apply below_alloc | apply pw_below_drewN | apply below_drew1) | exact HB.out)) hb); clear HO539; clear HB; have HO539 := n0_; have HO542 := n1_; have HB := n2_; clear n0_ n1_ n2_; (try clear hb); (try clear hb2); (try clear hk); (try clear hi); (try clear ho0)) | ((with_reducible refine gate_dst (N := 13) rfl ?_); (try (refine gate_guard (by rfl) ?_; dsimp only)); refine Kd.R_lit k38 _ 38 ?hg (N := 13) ?hd (xs := ([] : List (S38))) (inner := []) (ok := fun _ => True) (okp := fun _ => True) ?hr ?hp (fun _ hk => hk) trivial (Below.refl _ _) (Nat.le_refl _) (by simp) ?_; (case hd => rfl); (case hg => rfl); (case hr => first | (go_simp; done) | (go_simp; rfl)); (case hp => exact (Reps.none _ _)); intro v544 w9 ho10 hb hg_ hnew_; clear hg_ hnew_; (first | rw [← Ny543.out] at ho10 | (simp only [Int.reduceToNat] at ho10; rw [← Ny543.out] at ho10)); have n0_ := Aside0.mk (Kd.V_elder' (by (with_reducible repeat (first | apply Kd.V_alloc | apply Kd.V_drewN | apply Kd.V_drew)); exact HO539.out) (Kd.R_base ho10) hb); have n1_ := Aside0.mk (Kd.N_elder' (by (with_reducible repeat (first | apply Kd.N_alloc | apply Kd.N_drewN | apply Kd.N_drew)); exact HO542.out) (Kd.R_base ho10) hb); have n2_ := Aside0.mk (Kd.R_lower ho10 (below_size (by repeat (first | (with_reducible first | exact HB.out | apply below_alloc | apply pw_below_drewN | apply below_drew1) | exact HB.out)))); have n3_ := Aside0.mk (below_step (by repeat (first | (with_reducible first | exact HB.out | apply below_alloc | apply pw_below_drewN | apply below_drew1) | exact HB.out)) hb); clear HO539; clear HO542; clear HB; have HO539 := n0_; have HO542 := n1_; have HO545 := n2_; have HB := n3_; clear n0_ n1_ n2_ n3_; clear hb ho10))
 repeat (go_quiet (first | (go_at_call 8; (with_reducible refine (tmesislaw10_shown.calls k  t536 _ ?side1 A2.out).mono ?_); (case side1 => exact Gl.below HG.out (by repeat (first | (with_reducible first | exact HB.out | apply below_alloc | apply pw_below_drewN | apply below_drew1) | exact HB.out))); rintro e w5 ⟨rfl, hb⟩; have n0_ := Aside0.mk (below_step (by repeat (first | (with_reducible first | exact HB.out | apply below_alloc | apply pw_below_drewN | apply below_drew1) | exact HB.out)) hb); clear HB; have HB := n0_; clear n0_; (try clear hb); (try clear hb2); (try clear hk); (try clear hi)) | (go_at_call 14; (with_reducible refine (tmesislaw10_few.calls (fun k_ => k_ < w.heap.size) _ _ l0 t537 _ ?side1 A3.out).mono ?_); (case side1 => exact Kd.V_mk HC0.out (Kd.F_below (Kd.C_F (Kd.heap_int .u8) HR0.out) (by repeat (first | (with_reducible first | exact HB.out | apply below_alloc | apply pw_below_drewN | apply below_drew1) | exact HB.out)))); rintro e w6 ⟨v538, rfl, ho0, hb⟩; have n0_ := Aside0.mk (Kd.V_lower (Kd.V_mono (ok' := fun k_ => True) ho0 (fun k_ hk_ => trivial)) (below_size (by repeat (first | (with_reducible first | exact HB.out | apply below_alloc | apply pw_below_drewN | apply below_drew1) | exact HB.out)))); have n1_ := Aside0.mk (below_step (by repeat (first | (with_reducible first | exact HB.out | apply below_alloc | apply pw_below_drewN | apply below_drew1) | exact HB.out)) hb); clear HB; have HO539 := n0_; have HB := n1_; clear n0_ n1_; (try clear hb); (try clear hb2); (try clear hk); (try clear hi); (try clear ho0); obtain ⟨Ao7, co7, eo7⟩ := Kd.V_slice HO539.out; subst eo7) | (go_at_call 13; (with_reducible refine (split_Pieces.calls k _ _ t537 t540 _ ?side1 ?side2 ?side3 A4.out).mono ?_); (case side1 => exact Gl.below HG.out (by repeat (first | (with_reducible first | exact HB.out | apply below_alloc | apply pw_below_drewN | apply below_drew1) | exact HB.out))); (case side2 => repeat (first | exact (Kd.V_reads' HO539.out).2.2 | (with_reducible refine Kd.C_alloc ?_ _) | (with_reducible refine Kd.C_drewN ?_ _) | (with_reducible refine Kd.C_drew ?_))); (case side3 => exact (Kd.V_reads' HO539.out).2.1); rintro e w8 ⟨v541, rfl, ho0, hb⟩; have n0_ := Aside0.mk (Kd.V_elder' (by (with_reducible repeat (first | apply Kd.V_alloc | apply Kd.V_drewN | apply Kd.V_drew)); exact HO539.out) (Kd.N_base ho0) hb); have n1_ := Aside0.mk (Kd.N_lower (Kd.N_mono (ok' := fun k_ => True) ho0 (fun k_ hk_ => trivial)) (below_size (by repeat (first | (with_reducible first | exact HB.out | apply below_alloc | apply pw_below_drewN | apply below_drew1) | exact HB.out)))); have n2_ := Aside0.mk (below_step (by repeat (first | (with_reducible first | exact HB.out | apply below_alloc | apply pw_below_drewN | apply below_drew1) | exact HB.out)) hb); clear HO539; clear HB; have HO539 := n0_; have HO542 := n1_; have HB := n2_; clear n0_ n1_ n2_; (try clear hb); (try clear hb2); (try clear hk); (try clear hi); (try clear ho0)) | ((with_reducible refine gate_dst (N := 13) rfl ?_); (try (refine gate_guard (by rfl) ?_; dsimp only)); refine Kd.R_lit k38 _ 38 ?hg (N := 13) ?hd (xs := ([] : List (S38))) (inner := []) (ok := fun _ => True) (okp := fun _ => True) ?hr ?hp (fun _ hk => hk) trivial (Below.refl _ _) (Nat.le_refl _) (by simp) ?_; (case hd => rfl); (case hg => rfl); (case hr => first | (go_simp; done) | (go_simp; rfl)); (case hp => exact (Reps.none _ _)); intro v544 w9 ho10 hb hg_ hnew_; clear hg_ hnew_; (first | rw [← Ny543.out] at ho10 | (simp only [Int.reduceToNat] at ho10; rw [← Ny543.out] at ho10)); have n0_ := Aside0.mk (Kd.V_elder' (by (with_reducible repeat (first | apply Kd.V_alloc | apply Kd.V_drewN | apply Kd.V_drew)); exact HO539.out) (Kd.R_base ho10) hb); have n1_ := Aside0.mk (Kd.N_elder' (by (with_reducible repeat (first | apply Kd.N_alloc | apply Kd.N_drewN | apply Kd.N_drew)); exact HO542.out) (Kd.R_base ho10) hb); have n2_ := Aside0.mk (Kd.R_lower ho10 (below_size (by repeat (first | (with_reducible first | exact HB.out | apply below_alloc | apply pw_below_drewN | apply below_drew1) | exact HB.out)))); have n3_ := Aside0.mk (below_step (by repeat (first | (with_reducible first | exact HB.out | apply below_alloc | apply pw_below_drewN | apply below_drew1) | exact HB.out)) hb); clear HO539; clear HO542; clear HB; have HO539 := n0_; have HO542 := n1_; have HO545 := n2_; have HB := n3_; clear n0_ n1_ n2_ n3_; clear hb ho10)); try go_wp2_with (first | (go_at_call 8; (with_reducible refine (tmesislaw10_shown.calls k  t536 _ ?side1 A2.out).mono ?_); (case side1 => exact Gl.below HG.out (by repeat (first | (with_reducible first | exact HB.out | apply below_alloc | apply pw_below_drewN | apply below_drew1) | exact HB.out))); rintro e w5 ⟨rfl, hb⟩; have n0_ := Aside0.mk (below_step (by repeat (first | (with_reducible first | exact HB.out | apply below_alloc | apply pw_below_drewN | apply below_drew1) | exact HB.out)) hb); clear HB; have HB := n0_; clear n0_; (try clear hb); (try clear hb2); (try clear hk); (try clear hi)) | (go_at_call 14; (with_reducible refine (tmesislaw10_few.calls (fun k_ => k_ < w.heap.size) _ _ l0 t537 _ ?side1 A3.out).mono ?_); (case side1 => exact Kd.V_mk HC0.out (Kd.F_below (Kd.C_F (Kd.heap_int .u8) HR0.out) (by repeat (first | (with_reducible first | exact HB.out | apply below_alloc | apply pw_below_drewN | apply below_drew1) | exact HB.out)))); rintro e w6 ⟨v538, rfl, ho0, hb⟩; have n0_ := Aside0.mk (Kd.V_lower (Kd.V_mono (ok' := fun k_ => True) ho0 (fun k_ hk_ => trivial)) (below_size (by repeat (first | (with_reducible first | exact HB.out | apply below_alloc | apply pw_below_drewN | apply below_drew1) | exact HB.out)))); have n1_ := Aside0.mk (below_step (by repeat (first | (with_reducible first | exact HB.out | apply below_alloc | apply pw_below_drewN | apply below_drew1) | exact HB.out)) hb); clear HB; have HO539 := n0_; have HB := n1_; clear n0_ n1_; (try clear hb); (try clear hb2); (try clear hk); (try clear hi); (try clear ho0); obtain ⟨Ao7, co7, eo7⟩ := Kd.V_slice HO539.out; subst eo7) | (go_at_call 13; (with_reducible refine (split_Pieces.calls k _ _ t537 t540 _ ?side1 ?side2 ?side3 A4.out).mono ?_); (case side1 => exact Gl.below HG.out (by repeat (first | (with_reducible first | exact HB.out | apply below_alloc | apply pw_below_drewN | apply below_drew1) | exact HB.out))); (case side2 => repeat (first | exact (Kd.V_reads' HO539.out).2.2 | (with_reducible refine Kd.C_alloc ?_ _) | (with_reducible refine Kd.C_drewN ?_ _) | (with_reducible refine Kd.C_drew ?_))); (case side3 => exact (Kd.V_reads' HO539.out).2.1); rintro e w8 ⟨v541, rfl, ho0, hb⟩; have n0_ := Aside0.mk (Kd.V_elder' (by (with_reducible repeat (first | apply Kd.V_alloc | apply Kd.V_drewN | apply Kd.V_drew)); exact HO539.out) (Kd.N_base ho0) hb); have n1_ := Aside0.mk (Kd.N_lower (Kd.N_mono (ok' := fun k_ => True) ho0 (fun k_ hk_ => trivial)) (below_size (by repeat (first | (with_reducible first | exact HB.out | apply below_alloc | apply pw_below_drewN | apply below_drew1) | exact HB.out)))); have n2_ := Aside0.mk (below_step (by repeat (first | (with_reducible first | exact HB.out | apply below_alloc | apply pw_below_drewN | apply below_drew1) | exact HB.out)) hb); clear HO539; clear HB; have HO539 := n0_; have HO542 := n1_; have HB := n2_; clear n0_ n1_ n2_; (try clear hb); (try clear hb2); (try clear hk); (try clear hi); (try clear ho0)) | ((with_reducible refine gate_dst (N := 13) rfl ?_); (try (refine gate_guard (by rfl) ?_; dsimp only)); refine Kd.R_lit k38 _ 38 ?hg (N := 13) ?hd (xs := ([] : List (S38))) (inner := []) (ok := fun _ => True) (okp := fun _ => True) ?hr ?hp (fun _ hk => hk) trivial (Below.refl _ _) (Nat.le_refl _) (by simp) ?_; (case hd => rfl); (case hg => rfl); (case hr => first | (go_simp; done) | (go_simp; rfl)); (case hp => exact (Reps.none _ _)); intro v544 w9 ho10 hb hg_ hnew_; clear hg_ hnew_; (first | rw [← Ny543.out] at ho10 | (simp only [Int.reduceToNat] at ho10; rw [← Ny543.out] at ho10)); have n0_ := Aside0.mk (Kd.V_elder' (by (with_reducible repeat (first | apply Kd.V_alloc | apply Kd.V_drewN | apply Kd.V_drew)); exact HO539.out) (Kd.R_base ho10) hb); have n1_ := Aside0.mk (Kd.N_elder' (by (with_reducible repeat (first | apply Kd.N_alloc | apply Kd.N_drewN | apply Kd.N_drew)); exact HO542.out) (Kd.R_base ho10) hb); have n2_ := Aside0.mk (Kd.R_lower ho10 (below_size (by repeat (first | (with_reducible first | exact HB.out | apply below_alloc | apply pw_below_drewN | apply below_drew1) | exact HB.out)))); have n3_ := Aside0.mk (below_step (by repeat (first | (with_reducible first | exact HB.out | apply below_alloc | apply pw_below_drewN | apply below_drew1) | exact HB.out)) hb); clear HO539; clear HO542; clear HB; have HO539 := n0_; have HO542 := n1_; have HO545 := n2_; have HB := n3_; clear n0_ n1_ n2_ n3_; clear hb ho10)))
 go_loopg [5, 6] k (fun kq v5 v6 w' => ∃ (x5_1 : List (S38)) (x6_1 : Int), v6 = .int .i64 x6_1 ∧ Aside0 (tmesislaw10_SplitWhole.l0 kq l0 t536 t540 x5_1 x6_1 = some r) ∧ Aside0 (kq ≤ k) ∧ Aside0 (Kd.N k25 25 w' w.heap.size (fun k_ => some k_ ≠ (v5 : Value).ownBlock) v541 t540) ∧ Aside0 (Kd.R k38 38 w' w.heap.size (fun _ => True) v5 x5_1) ∧ Aside0 (Below w.heap.size w w'))
 case atStart => exact ⟨(y543), (0), (by first | rfl | (simp; done) | (simp [*]; done)), H', ⟨Nat.le_refl _⟩, ⟨by (with_reducible repeat (first | apply Kd.N_alloc | apply Kd.N_drewN | apply Kd.N_drew)); exact Kd.N_mono HO542.out (fun _ hk => hk.2)⟩, ⟨by (with_reducible repeat (first | apply Kd.R_alloc | apply Kd.R_drewN | apply Kd.R_drew)); exact HO545.out⟩, ⟨by repeat (first | (with_reducible first | exact HB.out | apply below_alloc | apply pw_below_drewN | apply below_drew1) | exact HB.out)⟩⟩
 case round =>
  clear H'
  try clear p2
  try clear c4
  obtain ⟨x5_1, x6_1, rfl, HA, HK1, HO_4, HO_5, HB⟩ := hrel
  cases gk with
  | zero => exact absurd HA.out (by simp [tmesislaw10_SplitWhole.l0])
  | succ k1 =>
   have H := HA.out
   clear HA
   simp only [tmesislaw10_SplitWhole.l0] at H
   by_cases c11 : x6_1 < (t540.length : Int)
   ·rw [if_pos c11] at H
    have c11b0 : decide (x6_1 < (t540.length : Int)) = true := decide_eq_true c11
    clear c11
    by_cases c12 : 0 ≤ x6_1
    ·rw [if_pos c12] at H
     have c12b0 : decide (0 ≤ x6_1) = true := decide_eq_true c12
     clear c12
     have HC13 := Aside0.mk H
     clear H
     obtain ⟨Ao14, co14, eo14⟩ := Kd.N_slice HO_4.out
     subst eo14
     have p546 : 0 ≤ (x6_1 : Int) := of_decide_eq_true (by first | (with_reducible assumption) | assumption)
     have q546 : x6_1 < (t540.length : Int) := of_decide_eq_true (by first | (with_reducible assumption) | assumption)
     obtain ⟨ad546, A546_3, c546_3, e546, hx546_0, hx546_1, hx546_2, hx546_3, hl546_3, hi546_3⟩ := at_T25 (Kd.N_reads' HO_4.out).2.2 x6_1 p546 q546
     cases e546
     obtain ⟨ce546, hce546, hMe546, hcc546⟩ := Kd.N_get HO_4.out z25 x6_1 p546 (by first | exact q546 | exact of_decide_eq_true (by first | (with_reducible assumption) | assumption) | (have e_ := (Kd.N_reads' HO_4.out).1; omega))
     obtain ⟨ua546_3, uc546_3, rfl, ul546_3, ge546_3⟩ := k25_openF hMe546
     have hv546_3 := hcc546 3 _ rfl
     rw [add_field _ _ 3 (by omega)] at hv546_3
     replace hv546_3 := Option.some.inj (hv546_3.symm.trans hx546_3)
     injection hv546_3 with hva_ hvn_ hvc_
     rw [hva_] at ge546_3
     rw [hvc_] at ul546_3
     have HL546_3 := Aside0.mk (show Kd.V k38 38 _ w.heap.size _ _ ((rd_T25 t540 x6_1).f3) from Kd.V_mk ul546_3 ge546_3)
     clear hva_ hvn_ hvc_ ge546_3 ul546_3
     clear hcc546 hce546
     have HR546_3 := Aside0.mk hi546_3
     have HC546_3 := Aside0.mk hl546_3
     clear hi546_3 hl546_3
     replace p546 := eq_true p546
     replace q546 := eq_true q546
     go_upto_region 8 with (fail)
     repeat (go_quiet (fail); go_upto_region 8 with (fail))
     go_cut [81] (fun v81 wc => ∃ (kq : Nat) (x81_12 : Bool), v81 = .bool x81_12 ∧ Aside0 (tmesislaw10_SplitWhole.j1 kq l0 t536 t540 x5_1 x6_1 ((rd_T25 t540 x6_1).f3) x81_12 = some r) ∧ Aside0 (kq ≤ k1) ∧ Aside0 (Kd.N k25 25 wc w.heap.size (fun k_ => some k_ ≠ (u5 : Value).ownBlock) (.slice (some ad546) t540.length co14) t540) ∧ Aside0 (Kd.R k38 38 wc w.heap.size (fun _ => True) u5 x5_1) ∧ Aside0 (Kd.V k38 38 wc w.heap.size (fun k_ => some k_ ≠ ((.slice (some ad546) t540.length co14) : Value).ownBlock ∧ some k_ ≠ (u5 : Value).ownBlock) (.slice A546_3 ((rd_T25 t540 x6_1).f3).length c546_3) ((rd_T25 t540 x6_1).f3)) ∧ Aside0 (Kd.C k38 wc A546_3 ((rd_T25 t540 x6_1).f3).length ((rd_T25 t540 x6_1).f3)) ∧ Aside0 (Below w.heap.size w wc))
     case first =>
      have H := HC13.out
      clear HC13
      by_cases c15 : (((rd_T25 t540 x6_1).f3).length : Int) = 0
      ·rw [if_pos c15] at H
       have c15b0 : ((((rd_T25 t540 x6_1).f3).length : Int) == 0) = true := beq_iff_eq.mpr c15
       have c15b1 : ((((rd_T25 t540 x6_1).f3).length : Int) != 0) = false := bne_eq_false_iff_eq.mpr c15
       clear c15
       (first | rw [c15b0] | (simp only [i64_w, i32_w]; rw [c15b0]) | skip)
       have H' := Aside0.mk H
       clear H
       go_wp2
       repeat (go_quiet (fail); try go_wp2)
       go_meet
       case rel => exact ⟨_, (true), (by first | rfl | (simp; done) | (simp [*]; done)), H', ⟨by have := HK1.out; first | omega | exact Nat.le_refl _⟩, ⟨by (with_reducible repeat (first | apply Kd.N_alloc | apply Kd.N_drewN | apply Kd.N_drew)); exact HO_4.out⟩, ⟨by (with_reducible repeat (first | apply Kd.R_alloc | apply Kd.R_drewN | apply Kd.R_drew)); exact HO_5.out⟩, ⟨by (with_reducible repeat (first | apply Kd.V_alloc | apply Kd.V_drewN | apply Kd.V_drew)); exact Kd.V_mono HL546_3.out (fun _ hk => ⟨hk.2, hk.1⟩)⟩, ⟨by repeat (first | (with_reducible exact HR546_3.out) | (with_reducible refine Kd.C_alloc ?_ _) | (with_reducible refine Kd.C_drewN ?_ _) | (with_reducible refine Kd.C_drew ?_) | exact HR546_3.out)⟩, ⟨by repeat (first | (with_reducible first | exact HB.out | apply below_alloc | apply pw_below_drewN | apply below_drew1) | exact HB.out)⟩⟩
      ·rw [if_neg c15] at H
       have c15b0 : ((((rd_T25 t540 x6_1).f3).length : Int) == 0) = false := beq_eq_false_iff_ne.mpr c15
       have c15b1 : ((((rd_T25 t540 x6_1).f3).length : Int) != 0) = true := bne_iff_ne.mpr c15
       have c15b2 : ¬ (((rd_T25 t540 x6_1).f3) = []) := fun h_ => c15 (by rw [h_]; rfl)
       (first | rw [c15b0] | (simp only [i64_w, i32_w]; rw [c15b0]) | skip)
       by_cases c16 : ((rd_T25 t540 x6_1).f2) = (x5_1.length : Int)
       ·rw [if_pos c16] at H
        have c16b0 : (((rd_T25 t540 x6_1).f2) == (x5_1.length : Int)) = true := beq_iff_eq.mpr c16
        have c16b1 : (((rd_T25 t540 x6_1).f2) != (x5_1.length : Int)) = false := bne_eq_false_iff_eq.mpr c16
        clear c16
        by_cases c17 : 0 < (((rd_T25 t540 x6_1).f3).length : Int)
        ·rw [if_pos c17] at H
         have c17b0 : decide (0 < (((rd_T25 t540 x6_1).f3).length : Int)) = true := decide_eq_true c17
         have c17b1 : decide (0 < ((rd_T25 t540 x6_1).f3).length) = true := decide_eq_true (by omega)
         clear c17
         by_cases c18 : ((rd_T25 t540 x6_1).f0) = ((rd_T38 ((rd_T25 t540 x6_1).f3) 0).f1)
         ·rw [if_pos c18] at H
          have c18b0 : (((rd_T25 t540 x6_1).f0) == ((rd_T38 ((rd_T25 t540 x6_1).f3) 0).f1)) = true := beq_iff_eq.mpr c18
          have c18b1 : (((rd_T25 t540 x6_1).f0) != ((rd_T38 ((rd_T25 t540 x6_1).f3) 0).f1)) = false := bne_eq_false_iff_eq.mpr c18
          clear c18
          obtain ⟨ji19, hji19⟩ : ∃ j_ : Int, (wrap64 ((((rd_T25 t540 x6_1).f3).length : Int) - 1)) = j_ := ⟨_, rfl⟩
          replace H : (if 0 ≤ (ji19) then (if (ji19) < (((rd_T25 t540 x6_1).f3).length : Int) then (if ((rd_T25 t540 x6_1).f1) = ((rd_T38 ((rd_T25 t540 x6_1).f3) (ji19)).f2) then (if x6_1 < (wrap64 ((t540.length : Int) - 1)) then (tmesislaw10_SplitWhole.j1 k1 l0 t536 t540 x5_1 x6_1 ((rd_T25 t540 x6_1).f3) (((rd_T38 ((rd_T25 t540 x6_1).f3) (ji19)).f0) != 7)) else (tmesislaw10_SplitWhole.j1 k1 l0 t536 t540 x5_1 x6_1 ((rd_T25 t540 x6_1).f3) false)) else (tmesislaw10_SplitWhole.j1 k1 l0 t536 t540 x5_1 x6_1 ((rd_T25 t540 x6_1).f3) true)) else (none)) else (none)) = some r := by first | (rw [hji19] at H; exact H) | (simp only [hji19] at H ⊢; exact H)
          have hji19w : (IntKind.i64.wrap ((((rd_T25 t540 x6_1).f3).length : Int) - 1)) = ji19 := (i64_w _).trans hji19
          by_cases c20 : 0 ≤ (ji19)
          ·rw [if_pos c20] at H
           have c20b0 : decide (0 ≤ (ji19)) = true := decide_eq_true c20
           clear c20
           by_cases c21 : (ji19) < (((rd_T25 t540 x6_1).f3).length : Int)
           ·rw [if_pos c21] at H
            have c21b0 : decide ((ji19) < (((rd_T25 t540 x6_1).f3).length : Int)) = true := decide_eq_true c21
            clear c21
            by_cases c22 : ((rd_T25 t540 x6_1).f1) = ((rd_T38 ((rd_T25 t540 x6_1).f3) (ji19)).f2)
            ·rw [if_pos c22] at H
             have c22b0 : (((rd_T25 t540 x6_1).f1) == ((rd_T38 ((rd_T25 t540 x6_1).f3) (ji19)).f2)) = true := beq_iff_eq.mpr c22
             have c22b1 : (((rd_T25 t540 x6_1).f1) != ((rd_T38 ((rd_T25 t540 x6_1).f3) (ji19)).f2)) = false := bne_eq_false_iff_eq.mpr c22
             clear c22
             by_cases c23 : x6_1 < (wrap64 ((t540.length : Int) - 1))
             ·rw [if_pos c23] at H
              have c23b0 : decide (x6_1 < (wrap64 ((t540.length : Int) - 1))) = true := decide_eq_true c23
              clear c23
              have H' := Aside0.mk H
              clear H
              have p547 : 0 ≤ (x6_1 : Int) := of_decide_eq_true (by first | (with_reducible assumption) | assumption)
              have q547 : x6_1 < (t540.length : Int) := of_decide_eq_true (by first | (with_reducible assumption) | assumption)
              obtain ⟨ad547, A547_3, c547_3, e547, hx547_0, hx547_1, hx547_2, hx547_3, hl547_3, hi547_3⟩ := at_T25 (Kd.N_reads' HO_4.out).2.2 x6_1 p547 q547
              obtain rfl : ad546 = ad547 := (by injection e547)
              obtain ⟨ce547, hce547, hMe547, hcc547⟩ := Kd.N_get HO_4.out z25 x6_1 p547 (by first | exact q547 | exact of_decide_eq_true (by first | (with_reducible assumption) | assumption) | (have e_ := (Kd.N_reads' HO_4.out).1; omega))
              obtain ⟨ua547_3, uc547_3, rfl, ul547_3, ge547_3⟩ := k25_openF hMe547
              have hv547_3 := hcc547 3 _ rfl
              rw [add_field _ _ 3 (by omega)] at hv547_3
              replace hv547_3 := Option.some.inj (hv547_3.symm.trans hx547_3)
              injection hv547_3 with hva_ hvn_ hvc_
              rw [hva_] at ge547_3
              rw [hvc_] at ul547_3
              have HL547_3 := Aside0.mk (show Kd.V k38 38 _ w.heap.size _ _ ((rd_T25 t540 x6_1).f3) from Kd.V_mk ul547_3 ge547_3)
              clear hva_ hvn_ hvc_ ge547_3 ul547_3
              clear hcc547 hce547
              have HR547_3 := Aside0.mk hi547_3
              have HC547_3 := Aside0.mk hl547_3
              clear hi547_3 hl547_3
              replace p547 := eq_true p547
              replace q547 := eq_true q547
              obtain ⟨Ao24, co24, eo24⟩ := Kd.R_slice HO_5.out
              subst eo24
              have p548 : 0 ≤ (x6_1 : Int) := of_decide_eq_true (by first | (with_reducible assumption) | assumption)
              have q548 : x6_1 < (t540.length : Int) := of_decide_eq_true (by first | (with_reducible assumption) | assumption)
              obtain ⟨ad548, A548_3, c548_3, e548, hx548_0, hx548_1, hx548_2, hx548_3, hl548_3, hi548_3⟩ := at_T25 (Kd.N_reads' HO_4.out).2.2 x6_1 p548 q548
              obtain rfl : ad546 = ad548 := (by injection e548)
              obtain ⟨ce548, hce548, hMe548, hcc548⟩ := Kd.N_get HO_4.out z25 x6_1 p548 (by first | exact q548 | exact of_decide_eq_true (by first | (with_reducible assumption) | assumption) | (have e_ := (Kd.N_reads' HO_4.out).1; omega))
              obtain ⟨ua548_3, uc548_3, rfl, ul548_3, ge548_3⟩ := k25_openF hMe548
              have hv548_3 := hcc548 3 _ rfl
              rw [add_field _ _ 3 (by omega)] at hv548_3
              replace hv548_3 := Option.some.inj (hv548_3.symm.trans hx548_3)
              injection hv548_3 with hva_ hvn_ hvc_
              rw [hva_] at ge548_3
              rw [hvc_] at ul548_3
              have HL548_3 := Aside0.mk (show Kd.V k38 38 _ w.heap.size _ _ ((rd_T25 t540 x6_1).f3) from Kd.V_mk ul548_3 ge548_3)
              clear hva_ hvn_ hvc_ ge548_3 ul548_3
              clear hcc548 hce548
              have HR548_3 := Aside0.mk hi548_3
              have HC548_3 := Aside0.mk hl548_3
              clear hi548_3 hl548_3
              replace p548 := eq_true p548
              replace q548 := eq_true q548
              have ea_ := Option.some.inj (hx547_3.symm.trans hx548_3)
              injection ea_ with ea_ en_ ec_
              subst ea_
              subst ec_
              clear en_
              have p549 : 0 ≤ (0 : Int) := (by omega)
              have q549 : 0 < (((rd_T25 t540 x6_1).f3).length : Int) := of_decide_eq_true (by first | (with_reducible assumption) | assumption)
              obtain ⟨ad549, e549, hx549_0, hx549_1, hx549_2, hx549_3, hx549_4⟩ := at_T38 (Kd.V_reads' HL546_3.out).2.2 0 p549 q549
              cases e549
              have qi549 : (0 < ((rd_T25 t540 x6_1).f3).length) = True := eq_true (by omega)
              (try rw [show ((0 : Int)).toNat = 0 from rfl] at hx549_0)
              (try rw [show 0 * 5 = 0 from rfl] at hx549_0)
              (try rw [Addr.add_zero'] at hx549_0)
              (try rw [show ((0 : Int)).toNat = 0 from rfl] at hx549_1)
              (try rw [show 0 * 5 = 0 from rfl] at hx549_1)
              (try rw [Addr.add_zero'] at hx549_1)
              (try rw [show ((0 : Int)).toNat = 0 from rfl] at hx549_2)
              (try rw [show 0 * 5 = 0 from rfl] at hx549_2)
              (try rw [Addr.add_zero'] at hx549_2)
              (try rw [show ((0 : Int)).toNat = 0 from rfl] at hx549_3)
              (try rw [show 0 * 5 = 0 from rfl] at hx549_3)
              (try rw [Addr.add_zero'] at hx549_3)
              (try rw [show ((0 : Int)).toNat = 0 from rfl] at hx549_4)
              (try rw [show 0 * 5 = 0 from rfl] at hx549_4)
              (try rw [Addr.add_zero'] at hx549_4)
              replace p549 := eq_true p549
              replace q549 := eq_true q549
              have p550 : 0 ≤ (x6_1 : Int) := of_decide_eq_true (by first | (with_reducible assumption) | assumption)
              have q550 : x6_1 < (t540.length : Int) := of_decide_eq_true (by first | (with_reducible assumption) | assumption)
              obtain ⟨ad550, A550_3, c550_3, e550, hx550_0, hx550_1, hx550_2, hx550_3, hl550_3, hi550_3⟩ := at_T25 (Kd.N_reads' HO_4.out).2.2 x6_1 p550 q550
              obtain rfl : ad546 = ad550 := (by injection e550)
              obtain ⟨ce550, hce550, hMe550, hcc550⟩ := Kd.N_get HO_4.out z25 x6_1 p550 (by first | exact q550 | exact of_decide_eq_true (by first | (with_reducible assumption) | assumption) | (have e_ := (Kd.N_reads' HO_4.out).1; omega))
              obtain ⟨ua550_3, uc550_3, rfl, ul550_3, ge550_3⟩ := k25_openF hMe550
              have hv550_3 := hcc550 3 _ rfl
              rw [add_field _ _ 3 (by omega)] at hv550_3
              replace hv550_3 := Option.some.inj (hv550_3.symm.trans hx550_3)
              injection hv550_3 with hva_ hvn_ hvc_
              rw [hva_] at ge550_3
              rw [hvc_] at ul550_3
              have HL550_3 := Aside0.mk (show Kd.V k38 38 _ w.heap.size _ _ ((rd_T25 t540 x6_1).f3) from Kd.V_mk ul550_3 ge550_3)
              clear hva_ hvn_ hvc_ ge550_3 ul550_3
              clear hcc550 hce550
              have HR550_3 := Aside0.mk hi550_3
              have HC550_3 := Aside0.mk hl550_3
              clear hi550_3 hl550_3
              replace p550 := eq_true p550
              replace q550 := eq_true q550
              have ea_ := Option.some.inj (hx547_3.symm.trans hx550_3)
              injection ea_ with ea_ en_ ec_
              subst ea_
              subst ec_
              clear en_
              have p551 : 0 ≤ ((ji19) : Int) := of_decide_eq_true (by first | (with_reducible assumption) | assumption)
              have q551 : (ji19) < (((rd_T25 t540 x6_1).f3).length : Int) := of_decide_eq_true (by first | (with_reducible assumption) | assumption)
              obtain ⟨ad551, e551, hx551_0, hx551_1, hx551_2, hx551_3, hx551_4⟩ := at_T38 (Kd.V_reads' HL546_3.out).2.2 (ji19) p551 q551
              obtain rfl : ad549 = ad551 := (by injection e551)
              replace p551 := eq_true p551
              replace q551 := eq_true q551
              have p552 : 0 ≤ ((ji19) : Int) := of_decide_eq_true (by first | (with_reducible assumption) | assumption)
              have q552 : (ji19) < (((rd_T25 t540 x6_1).f3).length : Int) := of_decide_eq_true (by first | (with_reducible assumption) | assumption)
              obtain ⟨ad552, e552, hx552_0, hx552_1, hx552_2, hx552_3, hx552_4⟩ := at_T38 (Kd.V_reads' HL546_3.out).2.2 (ji19) p552 q552
              obtain rfl : ad549 = ad552 := (by injection e552)
              replace p552 := eq_true p552
              replace q552 := eq_true q552
              go_wp2
              repeat (go_quiet (fail); try go_wp2)
              go_meet
              case rel => exact ⟨_, ((((rd_T38 ((rd_T25 t540 x6_1).f3) (ji19)).f0) != 7)), (by first | rfl | (simp; done) | (simp only [← hji19] <;> (first | rfl | simp)) | (simp [*]; done)), H', ⟨by have := HK1.out; first | omega | exact Nat.le_refl _⟩, ⟨by (with_reducible repeat (first | apply Kd.N_alloc | apply Kd.N_drewN | apply Kd.N_drew)); exact HO_4.out⟩, ⟨by (with_reducible repeat (first | apply Kd.R_alloc | apply Kd.R_drewN | apply Kd.R_drew)); exact HO_5.out⟩, ⟨by (with_reducible repeat (first | apply Kd.V_alloc | apply Kd.V_drewN | apply Kd.V_drew)); exact Kd.V_mono HL546_3.out (fun _ hk => ⟨hk.2, hk.1⟩)⟩, ⟨by repeat (first | (with_reducible exact HR546_3.out) | (with_reducible refine Kd.C_alloc ?_ _) | (with_reducible refine Kd.C_drewN ?_ _) | (with_reducible refine Kd.C_drew ?_) | exact HR546_3.out)⟩, ⟨by repeat (first | (with_reducible first | exact HB.out | apply below_alloc | apply pw_below_drewN | apply below_drew1) | exact HB.out)⟩⟩
             ·rw [if_neg c23] at H
              have c23b0 : decide (x6_1 < (wrap64 ((t540.length : Int) - 1))) = false := decide_eq_false c23
              clear c23
              have H' := Aside0.mk H
              clear H
              have p547 : 0 ≤ (x6_1 : Int) := of_decide_eq_true (by first | (with_reducible assumption) | assumption)
              have q547 : x6_1 < (t540.length : Int) := of_decide_eq_true (by first | (with_reducible assumption) | assumption)
              obtain ⟨ad547, A547_3, c547_3, e547, hx547_0, hx547_1, hx547_2, hx547_3, hl547_3, hi547_3⟩ := at_T25 (Kd.N_reads' HO_4.out).2.2 x6_1 p547 q547
              obtain rfl : ad546 = ad547 := (by injection e547)
              obtain ⟨ce547, hce547, hMe547, hcc547⟩ := Kd.N_get HO_4.out z25 x6_1 p547 (by first | exact q547 | exact of_decide_eq_true (by first | (with_reducible assumption) | assumption) | (have e_ := (Kd.N_reads' HO_4.out).1; omega))
              obtain ⟨ua547_3, uc547_3, rfl, ul547_3, ge547_3⟩ := k25_openF hMe547
              have hv547_3 := hcc547 3 _ rfl
              rw [add_field _ _ 3 (by omega)] at hv547_3
              replace hv547_3 := Option.some.inj (hv547_3.symm.trans hx547_3)
              injection hv547_3 with hva_ hvn_ hvc_
              rw [hva_] at ge547_3
              rw [hvc_] at ul547_3
              have HL547_3 := Aside0.mk (show Kd.V k38 38 _ w.heap.size _ _ ((rd_T25 t540 x6_1).f3) from Kd.V_mk ul547_3 ge547_3)
              clear hva_ hvn_ hvc_ ge547_3 ul547_3
              clear hcc547 hce547
              have HR547_3 := Aside0.mk hi547_3
              have HC547_3 := Aside0.mk hl547_3
              clear hi547_3 hl547_3
              replace p547 := eq_true p547
              replace q547 := eq_true q547
              obtain ⟨Ao25, co25, eo25⟩ := Kd.R_slice HO_5.out
              subst eo25
              have p548 : 0 ≤ (x6_1 : Int) := of_decide_eq_true (by first | (with_reducible assumption) | assumption)
              have q548 : x6_1 < (t540.length : Int) := of_decide_eq_true (by first | (with_reducible assumption) | assumption)
              obtain ⟨ad548, A548_3, c548_3, e548, hx548_0, hx548_1, hx548_2, hx548_3, hl548_3, hi548_3⟩ := at_T25 (Kd.N_reads' HO_4.out).2.2 x6_1 p548 q548
              obtain rfl : ad546 = ad548 := (by injection e548)
              obtain ⟨ce548, hce548, hMe548, hcc548⟩ := Kd.N_get HO_4.out z25 x6_1 p548 (by first | exact q548 | exact of_decide_eq_true (by first | (with_reducible assumption) | assumption) | (have e_ := (Kd.N_reads' HO_4.out).1; omega))
              obtain ⟨ua548_3, uc548_3, rfl, ul548_3, ge548_3⟩ := k25_openF hMe548
              have hv548_3 := hcc548 3 _ rfl
              rw [add_field _ _ 3 (by omega)] at hv548_3
              replace hv548_3 := Option.some.inj (hv548_3.symm.trans hx548_3)
              injection hv548_3 with hva_ hvn_ hvc_
              rw [hva_] at ge548_3
              rw [hvc_] at ul548_3
              have HL548_3 := Aside0.mk (show Kd.V k38 38 _ w.heap.size _ _ ((rd_T25 t540 x6_1).f3) from Kd.V_mk ul548_3 ge548_3)
              clear hva_ hvn_ hvc_ ge548_3 ul548_3
              clear hcc548 hce548
              have HR548_3 := Aside0.mk hi548_3
              have HC548_3 := Aside0.mk hl548_3
              clear hi548_3 hl548_3
              replace p548 := eq_true p548
              replace q548 := eq_true q548
              have ea_ := Option.some.inj (hx547_3.symm.trans hx548_3)
              injection ea_ with ea_ en_ ec_
              subst ea_
              subst ec_
              clear en_
              have p549 : 0 ≤ (0 : Int) := (by omega)
              have q549 : 0 < (((rd_T25 t540 x6_1).f3).length : Int) := of_decide_eq_true (by first | (with_reducible assumption) | assumption)
              obtain ⟨ad549, e549, hx549_0, hx549_1, hx549_2, hx549_3, hx549_4⟩ := at_T38 (Kd.V_reads' HL546_3.out).2.2 0 p549 q549
              cases e549
              have qi549 : (0 < ((rd_T25 t540 x6_1).f3).length) = True := eq_true (by omega)
              (try rw [show ((0 : Int)).toNat = 0 from rfl] at hx549_0)
              (try rw [show 0 * 5 = 0 from rfl] at hx549_0)
              (try rw [Addr.add_zero'] at hx549_0)
              (try rw [show ((0 : Int)).toNat = 0 from rfl] at hx549_1)
              (try rw [show 0 * 5 = 0 from rfl] at hx549_1)
              (try rw [Addr.add_zero'] at hx549_1)
              (try rw [show ((0 : Int)).toNat = 0 from rfl] at hx549_2)
              (try rw [show 0 * 5 = 0 from rfl] at hx549_2)
              (try rw [Addr.add_zero'] at hx549_2)
              (try rw [show ((0 : Int)).toNat = 0 from rfl] at hx549_3)
              (try rw [show 0 * 5 = 0 from rfl] at hx549_3)
              (try rw [Addr.add_zero'] at hx549_3)
              (try rw [show ((0 : Int)).toNat = 0 from rfl] at hx549_4)
              (try rw [show 0 * 5 = 0 from rfl] at hx549_4)
              (try rw [Addr.add_zero'] at hx549_4)
              replace p549 := eq_true p549
              replace q549 := eq_true q549
              have p550 : 0 ≤ (x6_1 : Int) := of_decide_eq_true (by first | (with_reducible assumption) | assumption)
              have q550 : x6_1 < (t540.length : Int) := of_decide_eq_true (by first | (with_reducible assumption) | assumption)
              obtain ⟨ad550, A550_3, c550_3, e550, hx550_0, hx550_1, hx550_2, hx550_3, hl550_3, hi550_3⟩ := at_T25 (Kd.N_reads' HO_4.out).2.2 x6_1 p550 q550
              obtain rfl : ad546 = ad550 := (by injection e550)
              obtain ⟨ce550, hce550, hMe550, hcc550⟩ := Kd.N_get HO_4.out z25 x6_1 p550 (by first | exact q550 | exact of_decide_eq_true (by first | (with_reducible assumption) | assumption) | (have e_ := (Kd.N_reads' HO_4.out).1; omega))
              obtain ⟨ua550_3, uc550_3, rfl, ul550_3, ge550_3⟩ := k25_openF hMe550
              have hv550_3 := hcc550 3 _ rfl
              rw [add_field _ _ 3 (by omega)] at hv550_3
              replace hv550_3 := Option.some.inj (hv550_3.symm.trans hx550_3)
              injection hv550_3 with hva_ hvn_ hvc_
              rw [hva_] at ge550_3
              rw [hvc_] at ul550_3
              have HL550_3 := Aside0.mk (show Kd.V k38 38 _ w.heap.size _ _ ((rd_T25 t540 x6_1).f3) from Kd.V_mk ul550_3 ge550_3)
              clear hva_ hvn_ hvc_ ge550_3 ul550_3
              clear hcc550 hce550
              have HR550_3 := Aside0.mk hi550_3
              have HC550_3 := Aside0.mk hl550_3
              clear hi550_3 hl550_3
              replace p550 := eq_true p550
              replace q550 := eq_true q550
              have ea_ := Option.some.inj (hx547_3.symm.trans hx550_3)
              injection ea_ with ea_ en_ ec_
              subst ea_
              subst ec_
              clear en_
              have p551 : 0 ≤ ((ji19) : Int) := of_decide_eq_true (by first | (with_reducible assumption) | assumption)
              have q551 : (ji19) < (((rd_T25 t540 x6_1).f3).length : Int) := of_decide_eq_true (by first | (with_reducible assumption) | assumption)
              obtain ⟨ad551, e551, hx551_0, hx551_1, hx551_2, hx551_3, hx551_4⟩ := at_T38 (Kd.V_reads' HL546_3.out).2.2 (ji19) p551 q551
              obtain rfl : ad549 = ad551 := (by injection e551)
              replace p551 := eq_true p551
              replace q551 := eq_true q551
              go_wp2
              repeat (go_quiet (fail); try go_wp2)
              go_meet
              case rel => exact ⟨_, (false), (by first | rfl | (simp; done) | (simp [*]; done)), H', ⟨by have := HK1.out; first | omega | exact Nat.le_refl _⟩, ⟨by (with_reducible repeat (first | apply Kd.N_alloc | apply Kd.N_drewN | apply Kd.N_drew)); exact HO_4.out⟩, ⟨by (with_reducible repeat (first | apply Kd.R_alloc | apply Kd.R_drewN | apply Kd.R_drew)); exact HO_5.out⟩, ⟨by (with_reducible repeat (first | apply Kd.V_alloc | apply Kd.V_drewN | apply Kd.V_drew)); exact Kd.V_mono HL546_3.out (fun _ hk => ⟨hk.2, hk.1⟩)⟩, ⟨by repeat (first | (with_reducible exact HR546_3.out) | (with_reducible refine Kd.C_alloc ?_ _) | (with_reducible refine Kd.C_drewN ?_ _) | (with_reducible refine Kd.C_drew ?_) | exact HR546_3.out)⟩, ⟨by repeat (first | (with_reducible first | exact HB.out | apply below_alloc | apply pw_below_drewN | apply below_drew1) | exact HB.out)⟩⟩
            ·rw [if_neg c22] at H
             have c22b0 : (((rd_T25 t540 x6_1).f1) == ((rd_T38 ((rd_T25 t540 x6_1).f3) (ji19)).f2)) = false := beq_eq_false_iff_ne.mpr c22
             have c22b1 : (((rd_T25 t540 x6_1).f1) != ((rd_T38 ((rd_T25 t540 x6_1).f3) (ji19)).f2)) = true := bne_iff_ne.mpr c22
             have H' := Aside0.mk H
             clear H
             have p547 : 0 ≤ (x6_1 : Int) := of_decide_eq_true (by first | (with_reducible assumption) | assumption)
             have q547 : x6_1 < (t540.length : Int) := of_decide_eq_true (by first | (with_reducible assumption) | assumption)
             obtain ⟨ad547, A547_3, c547_3, e547, hx547_0, hx547_1, hx547_2, hx547_3, hl547_3, hi547_3⟩ := at_T25 (Kd.N_reads' HO_4.out).2.2 x6_1 p547 q547
             obtain rfl : ad546 = ad547 := (by injection e547)
             obtain ⟨ce547, hce547, hMe547, hcc547⟩ := Kd.N_get HO_4.out z25 x6_1 p547 (by first | exact q547 | exact of_decide_eq_true (by first | (with_reducible assumption) | assumption) | (have e_ := (Kd.N_reads' HO_4.out).1; omega))
             obtain ⟨ua547_3, uc547_3, rfl, ul547_3, ge547_3⟩ := k25_openF hMe547
             have hv547_3 := hcc547 3 _ rfl
             rw [add_field _ _ 3 (by omega)] at hv547_3
             replace hv547_3 := Option.some.inj (hv547_3.symm.trans hx547_3)
             injection hv547_3 with hva_ hvn_ hvc_
             rw [hva_] at ge547_3
             rw [hvc_] at ul547_3
             have HL547_3 := Aside0.mk (show Kd.V k38 38 _ w.heap.size _ _ ((rd_T25 t540 x6_1).f3) from Kd.V_mk ul547_3 ge547_3)
             clear hva_ hvn_ hvc_ ge547_3 ul547_3
             clear hcc547 hce547
             have HR547_3 := Aside0.mk hi547_3
             have HC547_3 := Aside0.mk hl547_3
             clear hi547_3 hl547_3
             replace p547 := eq_true p547
             replace q547 := eq_true q547
             obtain ⟨Ao26, co26, eo26⟩ := Kd.R_slice HO_5.out
             subst eo26
             have p548 : 0 ≤ (x6_1 : Int) := of_decide_eq_true (by first | (with_reducible assumption) | assumption)
             have q548 : x6_1 < (t540.length : Int) := of_decide_eq_true (by first | (with_reducible assumption) | assumption)
             obtain ⟨ad548, A548_3, c548_3, e548, hx548_0, hx548_1, hx548_2, hx548_3, hl548_3, hi548_3⟩ := at_T25 (Kd.N_reads' HO_4.out).2.2 x6_1 p548 q548
             obtain rfl : ad546 = ad548 := (by injection e548)
             obtain ⟨ce548, hce548, hMe548, hcc548⟩ := Kd.N_get HO_4.out z25 x6_1 p548 (by first | exact q548 | exact of_decide_eq_true (by first | (with_reducible assumption) | assumption) | (have e_ := (Kd.N_reads' HO_4.out).1; omega))
             obtain ⟨ua548_3, uc548_3, rfl, ul548_3, ge548_3⟩ := k25_openF hMe548
             have hv548_3 := hcc548 3 _ rfl
             rw [add_field _ _ 3 (by omega)] at hv548_3
             replace hv548_3 := Option.some.inj (hv548_3.symm.trans hx548_3)
             injection hv548_3 with hva_ hvn_ hvc_
             rw [hva_] at ge548_3
             rw [hvc_] at ul548_3
             have HL548_3 := Aside0.mk (show Kd.V k38 38 _ w.heap.size _ _ ((rd_T25 t540 x6_1).f3) from Kd.V_mk ul548_3 ge548_3)
             clear hva_ hvn_ hvc_ ge548_3 ul548_3
             clear hcc548 hce548
             have HR548_3 := Aside0.mk hi548_3
             have HC548_3 := Aside0.mk hl548_3
             clear hi548_3 hl548_3
             replace p548 := eq_true p548
             replace q548 := eq_true q548
             have ea_ := Option.some.inj (hx547_3.symm.trans hx548_3)
             injection ea_ with ea_ en_ ec_
             subst ea_
             subst ec_
             clear en_
             have p549 : 0 ≤ (0 : Int) := (by omega)
             have q549 : 0 < (((rd_T25 t540 x6_1).f3).length : Int) := of_decide_eq_true (by first | (with_reducible assumption) | assumption)
             obtain ⟨ad549, e549, hx549_0, hx549_1, hx549_2, hx549_3, hx549_4⟩ := at_T38 (Kd.V_reads' HL546_3.out).2.2 0 p549 q549
             cases e549
             have qi549 : (0 < ((rd_T25 t540 x6_1).f3).length) = True := eq_true (by omega)
             (try rw [show ((0 : Int)).toNat = 0 from rfl] at hx549_0)
             (try rw [show 0 * 5 = 0 from rfl] at hx549_0)
             (try rw [Addr.add_zero'] at hx549_0)
             (try rw [show ((0 : Int)).toNat = 0 from rfl] at hx549_1)
             (try rw [show 0 * 5 = 0 from rfl] at hx549_1)
             (try rw [Addr.add_zero'] at hx549_1)
             (try rw [show ((0 : Int)).toNat = 0 from rfl] at hx549_2)
             (try rw [show 0 * 5 = 0 from rfl] at hx549_2)
             (try rw [Addr.add_zero'] at hx549_2)
             (try rw [show ((0 : Int)).toNat = 0 from rfl] at hx549_3)
             (try rw [show 0 * 5 = 0 from rfl] at hx549_3)
             (try rw [Addr.add_zero'] at hx549_3)
             (try rw [show ((0 : Int)).toNat = 0 from rfl] at hx549_4)
             (try rw [show 0 * 5 = 0 from rfl] at hx549_4)
             (try rw [Addr.add_zero'] at hx549_4)
             replace p549 := eq_true p549
             replace q549 := eq_true q549
             have p550 : 0 ≤ (x6_1 : Int) := of_decide_eq_true (by first | (with_reducible assumption) | assumption)
             have q550 : x6_1 < (t540.length : Int) := of_decide_eq_true (by first | (with_reducible assumption) | assumption)
             obtain ⟨ad550, A550_3, c550_3, e550, hx550_0, hx550_1, hx550_2, hx550_3, hl550_3, hi550_3⟩ := at_T25 (Kd.N_reads' HO_4.out).2.2 x6_1 p550 q550
             obtain rfl : ad546 = ad550 := (by injection e550)
             obtain ⟨ce550, hce550, hMe550, hcc550⟩ := Kd.N_get HO_4.out z25 x6_1 p550 (by first | exact q550 | exact of_decide_eq_true (by first | (with_reducible assumption) | assumption) | (have e_ := (Kd.N_reads' HO_4.out).1; omega))
             obtain ⟨ua550_3, uc550_3, rfl, ul550_3, ge550_3⟩ := k25_openF hMe550
             have hv550_3 := hcc550 3 _ rfl
             rw [add_field _ _ 3 (by omega)] at hv550_3
             replace hv550_3 := Option.some.inj (hv550_3.symm.trans hx550_3)
             injection hv550_3 with hva_ hvn_ hvc_
             rw [hva_] at ge550_3
             rw [hvc_] at ul550_3
             have HL550_3 := Aside0.mk (show Kd.V k38 38 _ w.heap.size _ _ ((rd_T25 t540 x6_1).f3) from Kd.V_mk ul550_3 ge550_3)
             clear hva_ hvn_ hvc_ ge550_3 ul550_3
             clear hcc550 hce550
             have HR550_3 := Aside0.mk hi550_3
             have HC550_3 := Aside0.mk hl550_3
             clear hi550_3 hl550_3
             replace p550 := eq_true p550
             replace q550 := eq_true q550
             have ea_ := Option.some.inj (hx547_3.symm.trans hx550_3)
             injection ea_ with ea_ en_ ec_
             subst ea_
             subst ec_
             clear en_
             have p551 : 0 ≤ ((ji19) : Int) := of_decide_eq_true (by first | (with_reducible assumption) | assumption)
             have q551 : (ji19) < (((rd_T25 t540 x6_1).f3).length : Int) := of_decide_eq_true (by first | (with_reducible assumption) | assumption)
             obtain ⟨ad551, e551, hx551_0, hx551_1, hx551_2, hx551_3, hx551_4⟩ := at_T38 (Kd.V_reads' HL546_3.out).2.2 (ji19) p551 q551
             obtain rfl : ad549 = ad551 := (by injection e551)
             replace p551 := eq_true p551
             replace q551 := eq_true q551
             go_wp2
             repeat (go_quiet (fail); try go_wp2)
             go_meet
             case rel => exact ⟨_, (true), (by first | rfl | (simp; done) | (simp [*]; done)), H', ⟨by have := HK1.out; first | omega | exact Nat.le_refl _⟩, ⟨by (with_reducible repeat (first | apply Kd.N_alloc | apply Kd.N_drewN | apply Kd.N_drew)); exact HO_4.out⟩, ⟨by (with_reducible repeat (first | apply Kd.R_alloc | apply Kd.R_drewN | apply Kd.R_drew)); exact HO_5.out⟩, ⟨by (with_reducible repeat (first | apply Kd.V_alloc | apply Kd.V_drewN | apply Kd.V_drew)); exact Kd.V_mono HL546_3.out (fun _ hk => ⟨hk.2, hk.1⟩)⟩, ⟨by repeat (first | (with_reducible exact HR546_3.out) | (with_reducible refine Kd.C_alloc ?_ _) | (with_reducible refine Kd.C_drewN ?_ _) | (with_reducible refine Kd.C_drew ?_) | exact HR546_3.out)⟩, ⟨by repeat (first | (with_reducible first | exact HB.out | apply below_alloc | apply pw_below_drewN | apply below_drew1) | exact HB.out)⟩⟩
           ·rw [if_neg c21] at H
            exact absurd H (by simp)
          ·rw [if_neg c20] at H
           exact absurd H (by simp)
         ·rw [if_neg c18] at H
          have c18b0 : (((rd_T25 t540 x6_1).f0) == ((rd_T38 ((rd_T25 t540 x6_1).f3) 0).f1)) = false := beq_eq_false_iff_ne.mpr c18
          have c18b1 : (((rd_T25 t540 x6_1).f0) != ((rd_T38 ((rd_T25 t540 x6_1).f3) 0).f1)) = true := bne_iff_ne.mpr c18
          have H' := Aside0.mk H
          clear H
          have p547 : 0 ≤ (x6_1 : Int) := of_decide_eq_true (by first | (with_reducible assumption) | assumption)
          have q547 : x6_1 < (t540.length : Int) := of_decide_eq_true (by first | (with_reducible assumption) | assumption)
          obtain ⟨ad547, A547_3, c547_3, e547, hx547_0, hx547_1, hx547_2, hx547_3, hl547_3, hi547_3⟩ := at_T25 (Kd.N_reads' HO_4.out).2.2 x6_1 p547 q547
          obtain rfl : ad546 = ad547 := (by injection e547)
          obtain ⟨ce547, hce547, hMe547, hcc547⟩ := Kd.N_get HO_4.out z25 x6_1 p547 (by first | exact q547 | exact of_decide_eq_true (by first | (with_reducible assumption) | assumption) | (have e_ := (Kd.N_reads' HO_4.out).1; omega))
          obtain ⟨ua547_3, uc547_3, rfl, ul547_3, ge547_3⟩ := k25_openF hMe547
          have hv547_3 := hcc547 3 _ rfl
          rw [add_field _ _ 3 (by omega)] at hv547_3
          replace hv547_3 := Option.some.inj (hv547_3.symm.trans hx547_3)
          injection hv547_3 with hva_ hvn_ hvc_
          rw [hva_] at ge547_3
          rw [hvc_] at ul547_3
          have HL547_3 := Aside0.mk (show Kd.V k38 38 _ w.heap.size _ _ ((rd_T25 t540 x6_1).f3) from Kd.V_mk ul547_3 ge547_3)
          clear hva_ hvn_ hvc_ ge547_3 ul547_3
          clear hcc547 hce547
          have HR547_3 := Aside0.mk hi547_3
          have HC547_3 := Aside0.mk hl547_3
          clear hi547_3 hl547_3
          replace p547 := eq_true p547
          replace q547 := eq_true q547
          obtain ⟨Ao27, co27, eo27⟩ := Kd.R_slice HO_5.out
          subst eo27
          have p548 : 0 ≤ (x6_1 : Int) := of_decide_eq_true (by first | (with_reducible assumption) | assumption)
          have q548 : x6_1 < (t540.length : Int) := of_decide_eq_true (by first | (with_reducible assumption) | assumption)
          obtain ⟨ad548, A548_3, c548_3, e548, hx548_0, hx548_1, hx548_2, hx548_3, hl548_3, hi548_3⟩ := at_T25 (Kd.N_reads' HO_4.out).2.2 x6_1 p548 q548
          obtain rfl : ad546 = ad548 := (by injection e548)
          obtain ⟨ce548, hce548, hMe548, hcc548⟩ := Kd.N_get HO_4.out z25 x6_1 p548 (by first | exact q548 | exact of_decide_eq_true (by first | (with_reducible assumption) | assumption) | (have e_ := (Kd.N_reads' HO_4.out).1; omega))
          obtain ⟨ua548_3, uc548_3, rfl, ul548_3, ge548_3⟩ := k25_openF hMe548
          have hv548_3 := hcc548 3 _ rfl
          rw [add_field _ _ 3 (by omega)] at hv548_3
          replace hv548_3 := Option.some.inj (hv548_3.symm.trans hx548_3)
          injection hv548_3 with hva_ hvn_ hvc_
          rw [hva_] at ge548_3
          rw [hvc_] at ul548_3
          have HL548_3 := Aside0.mk (show Kd.V k38 38 _ w.heap.size _ _ ((rd_T25 t540 x6_1).f3) from Kd.V_mk ul548_3 ge548_3)
          clear hva_ hvn_ hvc_ ge548_3 ul548_3
          clear hcc548 hce548
          have HR548_3 := Aside0.mk hi548_3
          have HC548_3 := Aside0.mk hl548_3
          clear hi548_3 hl548_3
          replace p548 := eq_true p548
          replace q548 := eq_true q548
          have ea_ := Option.some.inj (hx547_3.symm.trans hx548_3)
          injection ea_ with ea_ en_ ec_
          subst ea_
          subst ec_
          clear en_
          have p549 : 0 ≤ (0 : Int) := (by omega)
          have q549 : 0 < (((rd_T25 t540 x6_1).f3).length : Int) := of_decide_eq_true (by first | (with_reducible assumption) | assumption)
          obtain ⟨ad549, e549, hx549_0, hx549_1, hx549_2, hx549_3, hx549_4⟩ := at_T38 (Kd.V_reads' HL546_3.out).2.2 0 p549 q549
          cases e549
          have qi549 : (0 < ((rd_T25 t540 x6_1).f3).length) = True := eq_true (by omega)
          (try rw [show ((0 : Int)).toNat = 0 from rfl] at hx549_0)
          (try rw [show 0 * 5 = 0 from rfl] at hx549_0)
          (try rw [Addr.add_zero'] at hx549_0)
          (try rw [show ((0 : Int)).toNat = 0 from rfl] at hx549_1)
          (try rw [show 0 * 5 = 0 from rfl] at hx549_1)
          (try rw [Addr.add_zero'] at hx549_1)
          (try rw [show ((0 : Int)).toNat = 0 from rfl] at hx549_2)
          (try rw [show 0 * 5 = 0 from rfl] at hx549_2)
          (try rw [Addr.add_zero'] at hx549_2)
          (try rw [show ((0 : Int)).toNat = 0 from rfl] at hx549_3)
          (try rw [show 0 * 5 = 0 from rfl] at hx549_3)
          (try rw [Addr.add_zero'] at hx549_3)
          (try rw [show ((0 : Int)).toNat = 0 from rfl] at hx549_4)
          (try rw [show 0 * 5 = 0 from rfl] at hx549_4)
          (try rw [Addr.add_zero'] at hx549_4)
          replace p549 := eq_true p549
          replace q549 := eq_true q549
          go_wp2
          repeat (go_quiet (fail); try go_wp2)
          go_meet
          case rel => exact ⟨_, (true), (by first | rfl | (simp; done) | (simp [*]; done)), H', ⟨by have := HK1.out; first | omega | exact Nat.le_refl _⟩, ⟨by (with_reducible repeat (first | apply Kd.N_alloc | apply Kd.N_drewN | apply Kd.N_drew)); exact HO_4.out⟩, ⟨by (with_reducible repeat (first | apply Kd.R_alloc | apply Kd.R_drewN | apply Kd.R_drew)); exact HO_5.out⟩, ⟨by (with_reducible repeat (first | apply Kd.V_alloc | apply Kd.V_drewN | apply Kd.V_drew)); exact Kd.V_mono HL546_3.out (fun _ hk => ⟨hk.2, hk.1⟩)⟩, ⟨by repeat (first | (with_reducible exact HR546_3.out) | (with_reducible refine Kd.C_alloc ?_ _) | (with_reducible refine Kd.C_drewN ?_ _) | (with_reducible refine Kd.C_drew ?_) | exact HR546_3.out)⟩, ⟨by repeat (first | (with_reducible first | exact HB.out | apply below_alloc | apply pw_below_drewN | apply below_drew1) | exact HB.out)⟩⟩
        ·rw [if_neg c17] at H
         exact absurd H (by simp)
       ·rw [if_neg c16] at H
        have c16b0 : (((rd_T25 t540 x6_1).f2) == (x5_1.length : Int)) = false := beq_eq_false_iff_ne.mpr c16
        have c16b1 : (((rd_T25 t540 x6_1).f2) != (x5_1.length : Int)) = true := bne_iff_ne.mpr c16
        have H' := Aside0.mk H
        clear H
        have p547 : 0 ≤ (x6_1 : Int) := of_decide_eq_true (by first | (with_reducible assumption) | assumption)
        have q547 : x6_1 < (t540.length : Int) := of_decide_eq_true (by first | (with_reducible assumption) | assumption)
        obtain ⟨ad547, A547_3, c547_3, e547, hx547_0, hx547_1, hx547_2, hx547_3, hl547_3, hi547_3⟩ := at_T25 (Kd.N_reads' HO_4.out).2.2 x6_1 p547 q547
        obtain rfl : ad546 = ad547 := (by injection e547)
        obtain ⟨ce547, hce547, hMe547, hcc547⟩ := Kd.N_get HO_4.out z25 x6_1 p547 (by first | exact q547 | exact of_decide_eq_true (by first | (with_reducible assumption) | assumption) | (have e_ := (Kd.N_reads' HO_4.out).1; omega))
        obtain ⟨ua547_3, uc547_3, rfl, ul547_3, ge547_3⟩ := k25_openF hMe547
        have hv547_3 := hcc547 3 _ rfl
        rw [add_field _ _ 3 (by omega)] at hv547_3
        replace hv547_3 := Option.some.inj (hv547_3.symm.trans hx547_3)
        injection hv547_3 with hva_ hvn_ hvc_
        rw [hva_] at ge547_3
        rw [hvc_] at ul547_3
        have HL547_3 := Aside0.mk (show Kd.V k38 38 _ w.heap.size _ _ ((rd_T25 t540 x6_1).f3) from Kd.V_mk ul547_3 ge547_3)
        clear hva_ hvn_ hvc_ ge547_3 ul547_3
        clear hcc547 hce547
        have HR547_3 := Aside0.mk hi547_3
        have HC547_3 := Aside0.mk hl547_3
        clear hi547_3 hl547_3
        replace p547 := eq_true p547
        replace q547 := eq_true q547
        obtain ⟨Ao28, co28, eo28⟩ := Kd.R_slice HO_5.out
        subst eo28
        go_wp2
        repeat (go_quiet (fail); try go_wp2)
        go_meet
        case rel => exact ⟨_, (true), (by first | rfl | (simp; done) | (simp [*]; done)), H', ⟨by have := HK1.out; first | omega | exact Nat.le_refl _⟩, ⟨by (with_reducible repeat (first | apply Kd.N_alloc | apply Kd.N_drewN | apply Kd.N_drew)); exact HO_4.out⟩, ⟨by (with_reducible repeat (first | apply Kd.R_alloc | apply Kd.R_drewN | apply Kd.R_drew)); exact HO_5.out⟩, ⟨by (with_reducible repeat (first | apply Kd.V_alloc | apply Kd.V_drewN | apply Kd.V_drew)); exact Kd.V_mono HL546_3.out (fun _ hk => ⟨hk.2, hk.1⟩)⟩, ⟨by repeat (first | (with_reducible exact HR546_3.out) | (with_reducible refine Kd.C_alloc ?_ _) | (with_reducible refine Kd.C_drewN ?_ _) | (with_reducible refine Kd.C_drew ?_) | exact HR546_3.out)⟩, ⟨by repeat (first | (with_reducible first | exact HB.out | apply below_alloc | apply pw_below_drewN | apply below_drew1) | exact HB.out)⟩⟩
     case rest =>
      clear HC13
      try clear c1
      try clear c2
      try clear p2
      try clear c4
      try clear c5
      try clear p5
      try clear q5
      try clear hx5
      try clear qi5
      try clear p6
      try clear c11
      try clear c11b0
      try clear c12
      try clear c12b0
      try clear c15
      try clear c15b0
      try clear c15b1
      try clear c15b2
      try clear c16
      try clear c16b0
      try clear c16b1
      try clear c17
      try clear c17b0
      try clear c17b1
      try clear c18
      try clear c18b0
      try clear c18b1
      try clear c20
      try clear c20b0
      try clear c21
      try clear c21b0
      try clear c22
      try clear c22b0
      try clear c22b1
      try clear c23
      try clear c23b0
      try clear hx546_0
      try clear hx546_1
      try clear hx546_2
      try clear hx546_3
      try clear hx547_0
      try clear hx547_1
      try clear hx547_2
      try clear hx547_3
      try clear hx548_0
      try clear hx548_1
      try clear hx548_2
      try clear hx548_3
      try clear hx549_0
      try clear hx549_1
      try clear hx549_2
      try clear hx549_3
      try clear hx549_4
      try clear hx550_0
      try clear hx550_1
      try clear hx550_2
      try clear hx550_3
      try clear hx551_0
      try clear hx551_1
      try clear hx551_2
      try clear hx551_3
      try clear hx551_4
      try clear hx552_0
      try clear hx552_1
      try clear hx552_2
      try clear hx552_3
      try clear hx552_4
      try clear p2
      try clear p546
      try clear p547
      try clear p548
      try clear p549
      try clear p550
      try clear p551
      try clear p552
      try clear q546
      try clear q547
      try clear q548
      try clear q549
      try clear q550
      try clear q551
      try clear q552
      obtain ⟨kq, x81_12, rfl, HA, HJ12, HO_4, HO_5, HO_7, HR546_3, HB⟩ := hcut
      cases kq with
      | zero => exact absurd HA.out (by simp [tmesislaw10_SplitWhole.j1])
      | succ kj12 =>
       have H := HA.out
       clear HA
       simp only [tmesislaw10_SplitWhole.j1] at H
       by_cases c29 : x81_12 = true
       ·subst c29
        have H1 : (some false) = some r := by rw [if_pos rfl] at H; exact H
        clear H
        have H := H1
        clear H1
        obtain rfl := Option.some.inj H
        go_wp2
        repeat (go_quiet (fail); try go_wp2)
        go_ret
        exact ⟨by first | rfl | (simp [errW_none, errW_some] <;> rfl) | (simp [*, errW_none, errW_some] <;> rfl), by repeat (first | (with_reducible first | exact HB.out | apply below_alloc | apply pw_below_drewN | apply below_drew1) | exact HB.out)⟩
       ·replace c29 := Bool.eq_false_iff.mpr c29
        subst c29
        have H1 : (tmesislaw10_SplitWhole.l1 kj12 l0 t536 t540 x5_1 x6_1 ((rd_T25 t540 x6_1).f3) 0) = some r := by rw [if_neg (show ¬ (false = true) by decide)] at H; exact H
        clear H
        have H := H1
        clear H1
        have H' := Aside0.mk H
        clear H
        go_wp2
        repeat (go_quiet (fail); try go_wp2)
        go_loopg [8] kj12 (fun kq v8 w' => ∃ (x8_3 : Int), v8 = .int .i64 x8_3 ∧ Aside0 (tmesislaw10_SplitWhole.l1 kq l0 t536 t540 x5_1 x6_1 ((rd_T25 t540 x6_1).f3) x8_3 = some r) ∧ Aside0 (kq ≤ kj12) ∧ Aside0 (Kd.N k25 25 w' w.heap.size (fun k_ => some k_ ≠ (u5 : Value).ownBlock) (.slice (some ad546) t540.length co14) t540) ∧ Aside0 (Kd.R k38 38 w' w.heap.size (fun _ => True) u5 x5_1) ∧ Aside0 (Kd.V k38 38 w' w.heap.size (fun k_ => some k_ ≠ ((.slice (some ad546) t540.length co14) : Value).ownBlock ∧ some k_ ≠ (u5 : Value).ownBlock) (.slice A546_3 ((rd_T25 t540 x6_1).f3).length c546_3) ((rd_T25 t540 x6_1).f3)) ∧ Aside0 (Kd.C k38 w' A546_3 ((rd_T25 t540 x6_1).f3).length ((rd_T25 t540 x6_1).f3)) ∧ Aside0 (Below w.heap.size w w'))
        case atStart => exact ⟨(0), (by first | rfl | (simp; done) | (simp [*]; done)), H', ⟨Nat.le_refl _⟩, ⟨by (with_reducible repeat (first | apply Kd.N_alloc | apply Kd.N_drewN | apply Kd.N_drew)); exact HO_4.out⟩, ⟨by (with_reducible repeat (first | apply Kd.R_alloc | apply Kd.R_drewN | apply Kd.R_drew)); exact HO_5.out⟩, ⟨by (with_reducible repeat (first | apply Kd.V_alloc | apply Kd.V_drewN | apply Kd.V_drew)); exact HO_7.out⟩, ⟨by repeat (first | (with_reducible exact HR546_3.out) | (with_reducible refine Kd.C_alloc ?_ _) | (with_reducible refine Kd.C_drewN ?_ _) | (with_reducible refine Kd.C_drew ?_) | exact HR546_3.out)⟩, ⟨by repeat (first | (with_reducible first | exact HB.out | apply below_alloc | apply pw_below_drewN | apply below_drew1) | exact HB.out)⟩⟩
        case round =>
         clear H'
         try clear c1
         try clear c2
         try clear p2
         try clear c4
         try clear c5
         try clear p5
         try clear q5
         try clear hx5
         try clear qi5
         try clear p6
         try clear c11
         try clear c11b0
         try clear c12
         try clear c12b0
         try clear c15
         try clear c15b0
         try clear c15b1
         try clear c15b2
         try clear c16
         try clear c16b0
         try clear c16b1
         try clear c17
         try clear c17b0
         try clear c17b1
         try clear c18
         try clear c18b0
         try clear c18b1
         try clear c20
         try clear c20b0
         try clear c21
         try clear c21b0
         try clear c22
         try clear c22b0
         try clear c22b1
         try clear c23
         try clear c23b0
         try clear c29
         try clear hx546_0
         try clear hx546_1
         try clear hx546_2
         try clear hx546_3
         try clear hx547_0
         try clear hx547_1
         try clear hx547_2
         try clear hx547_3
         try clear hx548_0
         try clear hx548_1
         try clear hx548_2
         try clear hx548_3
         try clear hx549_0
         try clear hx549_1
         try clear hx549_2
         try clear hx549_3
         try clear hx549_4
         try clear hx550_0
         try clear hx550_1
         try clear hx550_2
         try clear hx550_3
         try clear hx551_0
         try clear hx551_1
         try clear hx551_2
         try clear hx551_3
         try clear hx551_4
         try clear hx552_0
         try clear hx552_1
         try clear hx552_2
         try clear hx552_3
         try clear hx552_4
         try clear p2
         try clear p5
         try clear p546
         try clear p547
         try clear p548
         try clear p549
         try clear p550
         try clear p551
         try clear p552
         try clear p6
         try clear q5
         try clear q546
         try clear q547
         try clear q548
         try clear q549
         try clear q550
         try clear q551
         try clear q552
         obtain ⟨x8_3, rfl, HA, HK3, HO_4, HO_5, HO_7, HR546_3, HB⟩ := hrel
         cases gk with
         | zero => exact absurd HA.out (by simp [tmesislaw10_SplitWhole.l1])
         | succ k3 =>
          have H := HA.out
          clear HA
          simp only [tmesislaw10_SplitWhole.l1] at H
          by_cases c30 : x8_3 < (wrap64 ((((rd_T25 t540 x6_1).f3).length : Int) - 1))
          ·rw [if_pos c30] at H
           have c30b0 : decide (x8_3 < (wrap64 ((((rd_T25 t540 x6_1).f3).length : Int) - 1))) = true := decide_eq_true c30
           clear c30
           by_cases c31 : 0 ≤ x8_3
           ·rw [if_pos c31] at H
            have c31b0 : decide (0 ≤ x8_3) = true := decide_eq_true c31
            clear c31
            by_cases c32 : x8_3 < (((rd_T25 t540 x6_1).f3).length : Int)
            ·rw [if_pos c32] at H
             have c32b0 : decide (x8_3 < (((rd_T25 t540 x6_1).f3).length : Int)) = true := decide_eq_true c32
             clear c32
             by_cases c33 : ((rd_T38 ((rd_T25 t540 x6_1).f3) x8_3).f0) = 7
             ·rw [if_pos c33] at H
              have c33b0 : (((rd_T38 ((rd_T25 t540 x6_1).f3) x8_3).f0) == 7) = true := beq_iff_eq.mpr c33
              have c33b1 : (((rd_T38 ((rd_T25 t540 x6_1).f3) x8_3).f0) != 7) = false := bne_eq_false_iff_eq.mpr c33
              clear c33
              obtain rfl := Option.some.inj H
              have p553 : 0 ≤ (x8_3 : Int) := of_decide_eq_true (by first | (with_reducible assumption) | assumption)
              have q553 : x8_3 < (((rd_T25 t540 x6_1).f3).length : Int) := of_decide_eq_true (by first | (with_reducible assumption) | assumption)
              obtain ⟨ad553, e553, hx553_0, hx553_1, hx553_2, hx553_3, hx553_4⟩ := at_T38 (Kd.V_reads' HO_7.out).2.2 x8_3 p553 q553
              cases e553
              replace p553 := eq_true p553
              replace q553 := eq_true q553
              go_wp2
              repeat (go_quiet (fail); try go_wp2)
              go_ret
              exact ⟨by first | rfl | (simp [errW_none, errW_some] <;> rfl) | (simp [*, errW_none, errW_some] <;> rfl), by repeat (first | (with_reducible first | exact HB.out | apply below_alloc | apply pw_below_drewN | apply below_drew1) | exact HB.out)⟩
             ·rw [if_neg c33] at H
              have c33b0 : (((rd_T38 ((rd_T25 t540 x6_1).f3) x8_3).f0) == 7) = false := beq_eq_false_iff_ne.mpr c33
              have c33b1 : (((rd_T38 ((rd_T25 t540 x6_1).f3) x8_3).f0) != 7) = true := bne_iff_ne.mpr c33
              have H' := Aside0.mk H
              clear H
              have p553 : 0 ≤ (x8_3 : Int) := of_decide_eq_true (by first | (with_reducible assumption) | assumption)
              have q553 : x8_3 < (((rd_T25 t540 x6_1).f3).length : Int) := of_decide_eq_true (by first | (with_reducible assumption) | assumption)
              obtain ⟨ad553, e553, hx553_0, hx553_1, hx553_2, hx553_3, hx553_4⟩ := at_T38 (Kd.V_reads' HO_7.out).2.2 x8_3 p553 q553
              cases e553
              replace p553 := eq_true p553
              replace q553 := eq_true q553
              go_wp2
              repeat (go_quiet (fail); try go_wp2)
              go_roundg k3
              case measure => have := HK1.out; have := HJ12.out; have := HK3.out; omega
              case rel => exact ⟨(wrap64 (x8_3 + 1)), (by first | rfl | (simp; done) | (simp [*]; done)), H', ⟨by have := HK1.out; have := HJ12.out; have := HK3.out; omega⟩, ⟨by (with_reducible repeat (first | apply Kd.N_alloc | apply Kd.N_drewN | apply Kd.N_drew)); exact HO_4.out⟩, ⟨by (with_reducible repeat (first | apply Kd.R_alloc | apply Kd.R_drewN | apply Kd.R_drew)); exact HO_5.out⟩, ⟨by (with_reducible repeat (first | apply Kd.V_alloc | apply Kd.V_drewN | apply Kd.V_drew)); exact HO_7.out⟩, ⟨by repeat (first | (with_reducible exact HR546_3.out) | (with_reducible refine Kd.C_alloc ?_ _) | (with_reducible refine Kd.C_drewN ?_ _) | (with_reducible refine Kd.C_drew ?_) | exact HR546_3.out)⟩, ⟨by repeat (first | (with_reducible first | exact HB.out | apply below_alloc | apply pw_below_drewN | apply below_drew1) | exact HB.out)⟩⟩
            ·rw [if_neg c32] at H
             exact absurd H (by simp)
           ·rw [if_neg c31] at H
            exact absurd H (by simp)
          ·rw [if_neg c30] at H
           have c30b0 : decide (x8_3 < (wrap64 ((((rd_T25 t540 x6_1).f3).length : Int) - 1))) = false := decide_eq_false c30
           clear c30
           by_cases c34 : x5_1.length + ((rd_T25 t540 x6_1).f3).length < 2932031007402
           ·rw [if_pos c34] at H
            have LMc34 := Aside0.mk c34
            clear c34
            obtain ⟨y554, hy554⟩ : ∃ y_ : List (S38), y_ = (x5_1 ++ ((rd_T25 t540 x6_1).f3)) := ⟨_, rfl⟩
            replace H : (tmesislaw10_SplitWhole.l0 k3 l0 t536 t540 y554 (wrap64 (x6_1 + 1))) = some r := by first | (rw [hy554]; with_reducible exact H) | (have H2_ := (Option.bind_some _ _).symm.trans H; rw [hy554]; with_reducible exact H2_) | (have H2_ := (Option.bind_some _ _).symm.trans H; with_reducible exact H2_) | with_reducible exact H | (rw [hy554]; exact H) | exact H
            have Ny554 := Aside0.mk hy554
            clear hy554
            have H' := Aside0.mk H
            clear H
            go_wp2_with (first | ((with_reducible refine gate_builtin (b := .append) (xs := #[.tmp 95, .tmp 96]) rfl ?_); (try (refine gate_guard (by rfl) ?_; dsimp only)); at_builtin; refine Kd.R_append_rows k38 (w0 := w) w.heap.size rfl (.tmp 95) (.tmp 96) 23 38 (.agg #[(.int .i64 0), (.int .i64 0), (.int .i64 0), (.string ⟨#[]⟩), (.int .i64 0)]) 48 rfl Tryd.underlying23 info38 rfl (by decide) (by omega) u5 x5_1 ((rd_T25 t540 x6_1).f3) _ _ _ (fun _ => True) (fun _ => False) rfl rfl ?aO ?aR (fun _ _ h => h) (fun _ h => h.elim) ?aF ?aB ?aS ?aL ?_; (case aR => repeat (first | exact (Kd.V_reads' HO_7.out).2.2 | (with_reducible refine Kd.C_alloc ?_ _) | (with_reducible refine Kd.C_drewN ?_ _) | (with_reducible refine Kd.C_drew ?_))); (case aB => exact (by repeat (first | (with_reducible first | exact HB.out | apply below_alloc | apply pw_below_drewN | apply below_drew1) | exact HB.out))); (case aF => exact (fun _ _ => trivial)); (case aO => exact (by (with_reducible repeat (first | apply Kd.R_alloc | apply Kd.R_drewN | apply Kd.R_drew)); exact HO_5.out)); (case aS => exact (below_size (by repeat (first | (with_reducible first | exact HB.out | apply below_alloc | apply pw_below_drewN | apply below_drew1) | exact HB.out)))); (case aL => have := LMc34.out; omega); intro v555 w35 ho hb hg hat; rw [← Ny554.out] at ho; have n0_ := Aside0.mk (Kd.N_afterv (ok := (fun _ => True)) (by (with_reducible repeat (first | apply Kd.N_alloc | apply Kd.N_drewN | apply Kd.N_drew)); exact Kd.N_mono HO_4.out (fun _ hk => ⟨trivial, hk⟩)) hg hat); have n1_ := Aside0.mk (Kd.V_afterv (ok := (fun k_ => some k_ ≠ (.slice (some ad546) t540.length co14 : Value).ownBlock)) (by (with_reducible repeat (first | apply Kd.V_alloc | apply Kd.V_drewN | apply Kd.V_drew)); exact HO_7.out) hg hat); have n2_ := Aside0.mk (hb); have n3_ := Aside0.mk (ho); clear HO_4; clear HO_7; clear HB; clear HO_5; have HO_4 := n0_; have HO_7 := n1_; have HB := n2_; have HO556 := n3_; clear n0_ n1_ n2_ n3_; clear ho hb hg hat))
            repeat (go_quiet (first | ((with_reducible refine gate_builtin (b := .append) (xs := #[.tmp 95, .tmp 96]) rfl ?_); (try (refine gate_guard (by rfl) ?_; dsimp only)); at_builtin; refine Kd.R_append_rows k38 (w0 := w) w.heap.size rfl (.tmp 95) (.tmp 96) 23 38 (.agg #[(.int .i64 0), (.int .i64 0), (.int .i64 0), (.string ⟨#[]⟩), (.int .i64 0)]) 48 rfl Tryd.underlying23 info38 rfl (by decide) (by omega) u5 x5_1 ((rd_T25 t540 x6_1).f3) _ _ _ (fun _ => True) (fun _ => False) rfl rfl ?aO ?aR (fun _ _ h => h) (fun _ h => h.elim) ?aF ?aB ?aS ?aL ?_; (case aR => repeat (first | exact (Kd.V_reads' HO_7.out).2.2 | (with_reducible refine Kd.C_alloc ?_ _) | (with_reducible refine Kd.C_drewN ?_ _) | (with_reducible refine Kd.C_drew ?_))); (case aB => exact (by repeat (first | (with_reducible first | exact HB.out | apply below_alloc | apply pw_below_drewN | apply below_drew1) | exact HB.out))); (case aF => exact (fun _ _ => trivial)); (case aO => exact (by (with_reducible repeat (first | apply Kd.R_alloc | apply Kd.R_drewN | apply Kd.R_drew)); exact HO_5.out)); (case aS => exact (below_size (by repeat (first | (with_reducible first | exact HB.out | apply below_alloc | apply pw_below_drewN | apply below_drew1) | exact HB.out)))); (case aL => have := LMc34.out; omega); intro v555 w35 ho hb hg hat; rw [← Ny554.out] at ho; have n0_ := Aside0.mk (Kd.N_afterv (ok := (fun _ => True)) (by (with_reducible repeat (first | apply Kd.N_alloc | apply Kd.N_drewN | apply Kd.N_drew)); exact Kd.N_mono HO_4.out (fun _ hk => ⟨trivial, hk⟩)) hg hat); have n1_ := Aside0.mk (Kd.V_afterv (ok := (fun k_ => some k_ ≠ (.slice (some ad546) t540.length co14 : Value).ownBlock)) (by (with_reducible repeat (first | apply Kd.V_alloc | apply Kd.V_drewN | apply Kd.V_drew)); exact HO_7.out) hg hat); have n2_ := Aside0.mk (hb); have n3_ := Aside0.mk (ho); clear HO_4; clear HO_7; clear HB; clear HO_5; have HO_4 := n0_; have HO_7 := n1_; have HB := n2_; have HO556 := n3_; clear n0_ n1_ n2_ n3_; clear ho hb hg hat)); try go_wp2_with (first | ((with_reducible refine gate_builtin (b := .append) (xs := #[.tmp 95, .tmp 96]) rfl ?_); (try (refine gate_guard (by rfl) ?_; dsimp only)); at_builtin; refine Kd.R_append_rows k38 (w0 := w) w.heap.size rfl (.tmp 95) (.tmp 96) 23 38 (.agg #[(.int .i64 0), (.int .i64 0), (.int .i64 0), (.string ⟨#[]⟩), (.int .i64 0)]) 48 rfl Tryd.underlying23 info38 rfl (by decide) (by omega) u5 x5_1 ((rd_T25 t540 x6_1).f3) _ _ _ (fun _ => True) (fun _ => False) rfl rfl ?aO ?aR (fun _ _ h => h) (fun _ h => h.elim) ?aF ?aB ?aS ?aL ?_; (case aR => repeat (first | exact (Kd.V_reads' HO_7.out).2.2 | (with_reducible refine Kd.C_alloc ?_ _) | (with_reducible refine Kd.C_drewN ?_ _) | (with_reducible refine Kd.C_drew ?_))); (case aB => exact (by repeat (first | (with_reducible first | exact HB.out | apply below_alloc | apply pw_below_drewN | apply below_drew1) | exact HB.out))); (case aF => exact (fun _ _ => trivial)); (case aO => exact (by (with_reducible repeat (first | apply Kd.R_alloc | apply Kd.R_drewN | apply Kd.R_drew)); exact HO_5.out)); (case aS => exact (below_size (by repeat (first | (with_reducible first | exact HB.out | apply below_alloc | apply pw_below_drewN | apply below_drew1) | exact HB.out)))); (case aL => have := LMc34.out; omega); intro v555 w35 ho hb hg hat; rw [← Ny554.out] at ho; have n0_ := Aside0.mk (Kd.N_afterv (ok := (fun _ => True)) (by (with_reducible repeat (first | apply Kd.N_alloc | apply Kd.N_drewN | apply Kd.N_drew)); exact Kd.N_mono HO_4.out (fun _ hk => ⟨trivial, hk⟩)) hg hat); have n1_ := Aside0.mk (Kd.V_afterv (ok := (fun k_ => some k_ ≠ (.slice (some ad546) t540.length co14 : Value).ownBlock)) (by (with_reducible repeat (first | apply Kd.V_alloc | apply Kd.V_drewN | apply Kd.V_drew)); exact HO_7.out) hg hat); have n2_ := Aside0.mk (hb); have n3_ := Aside0.mk (ho); clear HO_4; clear HO_7; clear HB; clear HO_5; have HO_4 := n0_; have HO_7 := n1_; have HB := n2_; have HO556 := n3_; clear n0_ n1_ n2_ n3_; clear ho hb hg hat)))
            go_roundg k3
            case measure => have := HK1.out; have := HJ12.out; have := HK3.out; omega
            case rel => exact ⟨(y554), (wrap64 (x6_1 + 1)), (by first | rfl | (simp; done) | (simp [*]; done)), H', ⟨by have := HK1.out; have := HJ12.out; have := HK3.out; omega⟩, ⟨by (with_reducible repeat (first | apply Kd.N_alloc | apply Kd.N_drewN | apply Kd.N_drew)); exact Kd.N_mono HO_4.out (fun _ hk => hk.2)⟩, ⟨by (with_reducible repeat (first | apply Kd.R_alloc | apply Kd.R_drewN | apply Kd.R_drew)); exact HO556.out⟩, ⟨by repeat (first | (with_reducible first | exact HB.out | apply below_alloc | apply pw_below_drewN | apply below_drew1) | exact HB.out)⟩⟩
           ·rw [if_neg c34] at H
            exact absurd H (by simp)
    ·rw [if_neg c12] at H
     exact absurd H (by simp)
   ·rw [if_neg c11] at H
    have c11b0 : decide (x6_1 < (t540.length : Int)) = false := decide_eq_false c11
    clear c11
    have HC36 := Aside0.mk H
    clear H
    obtain ⟨Ao37, co37, eo37⟩ := Kd.N_slice HO_4.out
    subst eo37
    go_upto_region 16 with (fail)
    repeat (go_quiet (fail); go_upto_region 16 with (fail))
    go_cut [2] (fun v2 wc => ∃ (kq : Nat) (x2_35 : Bool), v2 = .bool x2_35 ∧ Aside0 (tmesislaw10_SplitWhole.j3 kq x2_35 = some r) ∧ Aside0 (kq ≤ k1) ∧ Aside0 (Below w.heap.size w wc))
    case first =>
     have H := HC36.out
     clear HC36
     by_cases c38 : t536 = true
     ·subst c38
      have H1 : ((tmesislaw10_few.f l0).bind fun t557 => ((lex_All.f k1 t557).bind fun t560 => ((tmesisref07_Same.f k1 x5_1 t560).bind fun t563 => (tmesislaw10_SplitWhole.j3 k1 t563)))) = some r := by rw [if_pos rfl] at H; exact H
      clear H
      have H := H1
      clear H1
      replace H := Option.bind_eq_some_iff.mp H
      obtain ⟨t557, A390, H⟩ := H
      replace H : ((lex_All.f k1 t557).bind fun t560 => ((tmesisref07_Same.f k1 x5_1 t560).bind fun t563 => (tmesislaw10_SplitWhole.j3 k1 t563))) = some r := H
      have A39 := Aside0.mk A390
      clear A390
      replace H := Option.bind_eq_some_iff.mp H
      obtain ⟨t560, A400, H⟩ := H
      replace H : ((tmesisref07_Same.f k1 x5_1 t560).bind fun t563 => (tmesislaw10_SplitWhole.j3 k1 t563)) = some r := H
      have A40 := Aside0.mk A400
      clear A400
      replace H := Option.bind_eq_some_iff.mp H
      obtain ⟨t563, A410, H⟩ := H
      replace H : (tmesislaw10_SplitWhole.j3 k1 t563) = some r := H
      have A41 := Aside0.mk A410
      clear A410
      have H' := Aside0.mk H
      clear H
      go_wp2_with (first | (go_at_call 14; (with_reducible refine (tmesislaw10_few.calls (fun k_ => k_ < w.heap.size) _ _ l0 t557 _ ?side1 A39.out).mono ?_); (case side1 => exact Kd.V_mk HC0.out (Kd.F_below (Kd.C_F (Kd.heap_int .u8) HR0.out) (by repeat (first | (with_reducible first | exact HB.out | apply below_alloc | apply pw_below_drewN | apply below_drew1) | exact HB.out)))); rintro e w42 ⟨v558, rfl, ho0, hb⟩; have n0_ := Aside0.mk (Kd.N_below (by (with_reducible repeat (first | apply Kd.N_alloc | apply Kd.N_drewN | apply Kd.N_drew)); exact HO_4.out) hb); have n1_ := Aside0.mk (Kd.R_below (by (with_reducible repeat (first | apply Kd.R_alloc | apply Kd.R_drewN | apply Kd.R_drew)); exact HO_5.out) hb); have n2_ := Aside0.mk (Kd.V_lower (Kd.V_mono (ok' := fun k_ => some k_ ≠ (.slice Ao37 t540.length co37 : Value).ownBlock ∧ some k_ ≠ (u5 : Value).ownBlock) ho0 (fun k_ hk_ => ⟨Or.elim hk_ (fun hs_ => fun e_ => Nat.not_le.2 hs_ (Kd.N_base HO_4.out k_ e_.symm)) (fun hn_ => (Kd.fresh' (Kd.N_lt (by (with_reducible repeat (first | apply Kd.N_alloc | apply Kd.N_drewN | apply Kd.N_drew)); exact HO_4.out)) k_ hn_)), Or.elim hk_ (fun hs_ => fun e_ => Nat.not_le.2 hs_ (Kd.R_base HO_5.out k_ e_.symm)) (fun hn_ => (Kd.fresh' (Kd.R_lt (by (with_reducible repeat (first | apply Kd.R_alloc | apply Kd.R_drewN | apply Kd.R_drew)); exact HO_5.out)) k_ hn_))⟩)) (below_size (by repeat (first | (with_reducible first | exact HB.out | apply below_alloc | apply pw_below_drewN | apply below_drew1) | exact HB.out)))); have n3_ := Aside0.mk (below_step (by repeat (first | (with_reducible first | exact HB.out | apply below_alloc | apply pw_below_drewN | apply below_drew1) | exact HB.out)) hb); clear HO_4; clear HO_5; clear HB; have HO_4 := n0_; have HO_5 := n1_; have HO559 := n2_; have HB := n3_; clear n0_ n1_ n2_ n3_; (try clear hb); (try clear hb2); (try clear hk); (try clear hi); (try clear ho0); obtain ⟨Ao43, co43, eo43⟩ := Kd.V_slice HO559.out; subst eo43) | (go_at_call 19; (with_reducible refine (lex_All.calls k1 _ _ t557 t560 _ ?side1 ?side2 ?side3 A40.out).mono ?_); (case side1 => exact Gl.below HG.out (by repeat (first | (with_reducible first | exact HB.out | apply below_alloc | apply pw_below_drewN | apply below_drew1) | exact HB.out))); (case side2 => repeat (first | exact (Kd.V_reads' HO559.out).2.2 | (with_reducible refine Kd.C_alloc ?_ _) | (with_reducible refine Kd.C_drewN ?_ _) | (with_reducible refine Kd.C_drew ?_))); (case side3 => exact (Kd.V_reads' HO559.out).2.1); rintro e w44 ⟨v561, rfl, ho0, hb⟩; have n0_ := Aside0.mk (Kd.N_elder' (by (with_reducible repeat (first | apply Kd.N_alloc | apply Kd.N_drewN | apply Kd.N_drew)); exact HO_4.out) (Kd.Q_base ho0) hb); have n1_ := Aside0.mk (Kd.R_elder' (by (with_reducible repeat (first | apply Kd.R_alloc | apply Kd.R_drewN | apply Kd.R_drew)); exact HO_5.out) (Kd.Q_base ho0) hb); have n2_ := Aside0.mk (Kd.V_elder' (by (with_reducible repeat (first | apply Kd.V_alloc | apply Kd.V_drewN | apply Kd.V_drew)); exact HO559.out) (Kd.Q_base ho0) hb); have n3_ := Aside0.mk (Kd.Q_lower (Kd.Q_new' ho0 (Kd.R_lt (by (with_reducible repeat (first | apply Kd.R_alloc | apply Kd.R_drewN | apply Kd.R_drew)); exact HO_5.out))) (below_size (by repeat (first | (with_reducible first | exact HB.out | apply below_alloc | apply pw_below_drewN | apply below_drew1) | exact HB.out)))); have n4_ := Aside0.mk (below_step (by repeat (first | (with_reducible first | exact HB.out | apply below_alloc | apply pw_below_drewN | apply below_drew1) | exact HB.out)) hb); clear HO_4; clear HO_5; clear HO559; clear HB; have HO_4 := n0_; have HO_5 := n1_; have HO559 := n2_; have HO562 := n3_; have HB := n4_; clear n0_ n1_ n2_ n3_ n4_; (try clear hb); (try clear hb2); (try clear hk); (try clear hi); (try clear ho0); obtain ⟨Ao45, co45, eo45⟩ := Kd.R_slice HO_5.out; subst eo45; obtain ⟨Ao46, co46, eo46, _⟩ := Kd.Q_slice HO562.out; subst eo46) | (go_at_call 18; (with_reducible refine (tmesisref07_Same.calls k1 _ _ x5_1 _ _ t560 t563 _ ?side1 ?side2 ?side3 ?side4 A41.out).mono ?_); (case side1 => repeat (first | exact (Kd.R_reads' HO_5.out).2.2 | (with_reducible refine Kd.C_alloc ?_ _) | (with_reducible refine Kd.C_drewN ?_ _) | (with_reducible refine Kd.C_drew ?_))); (case side2 => exact (Kd.R_reads' HO_5.out).2.1); (case side3 => repeat (first | exact (Kd.Q_reads' HO562.out).2.2 | (with_reducible refine Kd.C_alloc ?_ _) | (with_reducible refine Kd.C_drewN ?_ _) | (with_reducible refine Kd.C_drew ?_))); (case side4 => exact (Kd.Q_reads' HO562.out).2.1); rintro e w' ⟨rfl, ⟨nd, rfl⟩⟩; (try first | exact ⟨rfl, _, World.drewN_drewN _ _ _⟩ | exact ⟨rfl, _, Eq.trans (World.drewN_drewN _ _ _) (congrArg (World.drewN _) (Nat.add_assoc _ _ _))⟩)))
      repeat (go_quiet (first | (go_at_call 14; (with_reducible refine (tmesislaw10_few.calls (fun k_ => k_ < w.heap.size) _ _ l0 t557 _ ?side1 A39.out).mono ?_); (case side1 => exact Kd.V_mk HC0.out (Kd.F_below (Kd.C_F (Kd.heap_int .u8) HR0.out) (by repeat (first | (with_reducible first | exact HB.out | apply below_alloc | apply pw_below_drewN | apply below_drew1) | exact HB.out)))); rintro e w42 ⟨v558, rfl, ho0, hb⟩; have n0_ := Aside0.mk (Kd.N_below (by (with_reducible repeat (first | apply Kd.N_alloc | apply Kd.N_drewN | apply Kd.N_drew)); exact HO_4.out) hb); have n1_ := Aside0.mk (Kd.R_below (by (with_reducible repeat (first | apply Kd.R_alloc | apply Kd.R_drewN | apply Kd.R_drew)); exact HO_5.out) hb); have n2_ := Aside0.mk (Kd.V_lower (Kd.V_mono (ok' := fun k_ => some k_ ≠ (.slice Ao37 t540.length co37 : Value).ownBlock ∧ some k_ ≠ (u5 : Value).ownBlock) ho0 (fun k_ hk_ => ⟨Or.elim hk_ (fun hs_ => fun e_ => Nat.not_le.2 hs_ (Kd.N_base HO_4.out k_ e_.symm)) (fun hn_ => (Kd.fresh' (Kd.N_lt (by (with_reducible repeat (first | apply Kd.N_alloc | apply Kd.N_drewN | apply Kd.N_drew)); exact HO_4.out)) k_ hn_)), Or.elim hk_ (fun hs_ => fun e_ => Nat.not_le.2 hs_ (Kd.R_base HO_5.out k_ e_.symm)) (fun hn_ => (Kd.fresh' (Kd.R_lt (by (with_reducible repeat (first | apply Kd.R_alloc | apply Kd.R_drewN | apply Kd.R_drew)); exact HO_5.out)) k_ hn_))⟩)) (below_size (by repeat (first | (with_reducible first | exact HB.out | apply below_alloc | apply pw_below_drewN | apply below_drew1) | exact HB.out)))); have n3_ := Aside0.mk (below_step (by repeat (first | (with_reducible first | exact HB.out | apply below_alloc | apply pw_below_drewN | apply below_drew1) | exact HB.out)) hb); clear HO_4; clear HO_5; clear HB; have HO_4 := n0_; have HO_5 := n1_; have HO559 := n2_; have HB := n3_; clear n0_ n1_ n2_ n3_; (try clear hb); (try clear hb2); (try clear hk); (try clear hi); (try clear ho0); obtain ⟨Ao43, co43, eo43⟩ := Kd.V_slice HO559.out; subst eo43) | (go_at_call 19; (with_reducible refine (lex_All.calls k1 _ _ t557 t560 _ ?side1 ?side2 ?side3 A40.out).mono ?_); (case side1 => exact Gl.below HG.out (by repeat (first | (with_reducible first | exact HB.out | apply below_alloc | apply pw_below_drewN | apply below_drew1) | exact HB.out))); (case side2 => repeat (first | exact (Kd.V_reads' HO559.out).2.2 | (with_reducible refine Kd.C_alloc ?_ _) | (with_reducible refine Kd.C_drewN ?_ _) | (with_reducible refine Kd.C_drew ?_))); (case side3 => exact (Kd.V_reads' HO559.out).2.1); rintro e w44 ⟨v561, rfl, ho0, hb⟩; have n0_ := Aside0.mk (Kd.N_elder' (by (with_reducible repeat (first | apply Kd.N_alloc | apply Kd.N_drewN | apply Kd.N_drew)); exact HO_4.out) (Kd.Q_base ho0) hb); have n1_ := Aside0.mk (Kd.R_elder' (by (with_reducible repeat (first | apply Kd.R_alloc | apply Kd.R_drewN | apply Kd.R_drew)); exact HO_5.out) (Kd.Q_base ho0) hb); have n2_ := Aside0.mk (Kd.V_elder' (by (with_reducible repeat (first | apply Kd.V_alloc | apply Kd.V_drewN | apply Kd.V_drew)); exact HO559.out) (Kd.Q_base ho0) hb); have n3_ := Aside0.mk (Kd.Q_lower (Kd.Q_new' ho0 (Kd.R_lt (by (with_reducible repeat (first | apply Kd.R_alloc | apply Kd.R_drewN | apply Kd.R_drew)); exact HO_5.out))) (below_size (by repeat (first | (with_reducible first | exact HB.out | apply below_alloc | apply pw_below_drewN | apply below_drew1) | exact HB.out)))); have n4_ := Aside0.mk (below_step (by repeat (first | (with_reducible first | exact HB.out | apply below_alloc | apply pw_below_drewN | apply below_drew1) | exact HB.out)) hb); clear HO_4; clear HO_5; clear HO559; clear HB; have HO_4 := n0_; have HO_5 := n1_; have HO559 := n2_; have HO562 := n3_; have HB := n4_; clear n0_ n1_ n2_ n3_ n4_; (try clear hb); (try clear hb2); (try clear hk); (try clear hi); (try clear ho0); obtain ⟨Ao45, co45, eo45⟩ := Kd.R_slice HO_5.out; subst eo45; obtain ⟨Ao46, co46, eo46, _⟩ := Kd.Q_slice HO562.out; subst eo46) | (go_at_call 18; (with_reducible refine (tmesisref07_Same.calls k1 _ _ x5_1 _ _ t560 t563 _ ?side1 ?side2 ?side3 ?side4 A41.out).mono ?_); (case side1 => repeat (first | exact (Kd.R_reads' HO_5.out).2.2 | (with_reducible refine Kd.C_alloc ?_ _) | (with_reducible refine Kd.C_drewN ?_ _) | (with_reducible refine Kd.C_drew ?_))); (case side2 => exact (Kd.R_reads' HO_5.out).2.1); (case side3 => repeat (first | exact (Kd.Q_reads' HO562.out).2.2 | (with_reducible refine Kd.C_alloc ?_ _) | (with_reducible refine Kd.C_drewN ?_ _) | (with_reducible refine Kd.C_drew ?_))); (case side4 => exact (Kd.Q_reads' HO562.out).2.1); rintro e w' ⟨rfl, ⟨nd, rfl⟩⟩; (try first | exact ⟨rfl, _, World.drewN_drewN _ _ _⟩ | exact ⟨rfl, _, Eq.trans (World.drewN_drewN _ _ _) (congrArg (World.drewN _) (Nat.add_assoc _ _ _))⟩))); try go_wp2_with (first | (go_at_call 14; (with_reducible refine (tmesislaw10_few.calls (fun k_ => k_ < w.heap.size) _ _ l0 t557 _ ?side1 A39.out).mono ?_); (case side1 => exact Kd.V_mk HC0.out (Kd.F_below (Kd.C_F (Kd.heap_int .u8) HR0.out) (by repeat (first | (with_reducible first | exact HB.out | apply below_alloc | apply pw_below_drewN | apply below_drew1) | exact HB.out)))); rintro e w42 ⟨v558, rfl, ho0, hb⟩; have n0_ := Aside0.mk (Kd.N_below (by (with_reducible repeat (first | apply Kd.N_alloc | apply Kd.N_drewN | apply Kd.N_drew)); exact HO_4.out) hb); have n1_ := Aside0.mk (Kd.R_below (by (with_reducible repeat (first | apply Kd.R_alloc | apply Kd.R_drewN | apply Kd.R_drew)); exact HO_5.out) hb); have n2_ := Aside0.mk (Kd.V_lower (Kd.V_mono (ok' := fun k_ => some k_ ≠ (.slice Ao37 t540.length co37 : Value).ownBlock ∧ some k_ ≠ (u5 : Value).ownBlock) ho0 (fun k_ hk_ => ⟨Or.elim hk_ (fun hs_ => fun e_ => Nat.not_le.2 hs_ (Kd.N_base HO_4.out k_ e_.symm)) (fun hn_ => (Kd.fresh' (Kd.N_lt (by (with_reducible repeat (first | apply Kd.N_alloc | apply Kd.N_drewN | apply Kd.N_drew)); exact HO_4.out)) k_ hn_)), Or.elim hk_ (fun hs_ => fun e_ => Nat.not_le.2 hs_ (Kd.R_base HO_5.out k_ e_.symm)) (fun hn_ => (Kd.fresh' (Kd.R_lt (by (with_reducible repeat (first | apply Kd.R_alloc | apply Kd.R_drewN | apply Kd.R_drew)); exact HO_5.out)) k_ hn_))⟩)) (below_size (by repeat (first | (with_reducible first | exact HB.out | apply below_alloc | apply pw_below_drewN | apply below_drew1) | exact HB.out)))); have n3_ := Aside0.mk (below_step (by repeat (first | (with_reducible first | exact HB.out | apply below_alloc | apply pw_below_drewN | apply below_drew1) | exact HB.out)) hb); clear HO_4; clear HO_5; clear HB; have HO_4 := n0_; have HO_5 := n1_; have HO559 := n2_; have HB := n3_; clear n0_ n1_ n2_ n3_; (try clear hb); (try clear hb2); (try clear hk); (try clear hi); (try clear ho0); obtain ⟨Ao43, co43, eo43⟩ := Kd.V_slice HO559.out; subst eo43) | (go_at_call 19; (with_reducible refine (lex_All.calls k1 _ _ t557 t560 _ ?side1 ?side2 ?side3 A40.out).mono ?_); (case side1 => exact Gl.below HG.out (by repeat (first | (with_reducible first | exact HB.out | apply below_alloc | apply pw_below_drewN | apply below_drew1) | exact HB.out))); (case side2 => repeat (first | exact (Kd.V_reads' HO559.out).2.2 | (with_reducible refine Kd.C_alloc ?_ _) | (with_reducible refine Kd.C_drewN ?_ _) | (with_reducible refine Kd.C_drew ?_))); (case side3 => exact (Kd.V_reads' HO559.out).2.1); rintro e w44 ⟨v561, rfl, ho0, hb⟩; have n0_ := Aside0.mk (Kd.N_elder' (by (with_reducible repeat (first | apply Kd.N_alloc | apply Kd.N_drewN | apply Kd.N_drew)); exact HO_4.out) (Kd.Q_base ho0) hb); have n1_ := Aside0.mk (Kd.R_elder' (by (with_reducible repeat (first | apply Kd.R_alloc | apply Kd.R_drewN | apply Kd.R_drew)); exact HO_5.out) (Kd.Q_base ho0) hb); have n2_ := Aside0.mk (Kd.V_elder' (by (with_reducible repeat (first | apply Kd.V_alloc | apply Kd.V_drewN | apply Kd.V_drew)); exact HO559.out) (Kd.Q_base ho0) hb); have n3_ := Aside0.mk (Kd.Q_lower (Kd.Q_new' ho0 (Kd.R_lt (by (with_reducible repeat (first | apply Kd.R_alloc | apply Kd.R_drewN | apply Kd.R_drew)); exact HO_5.out))) (below_size (by repeat (first | (with_reducible first | exact HB.out | apply below_alloc | apply pw_below_drewN | apply below_drew1) | exact HB.out)))); have n4_ := Aside0.mk (below_step (by repeat (first | (with_reducible first | exact HB.out | apply below_alloc | apply pw_below_drewN | apply below_drew1) | exact HB.out)) hb); clear HO_4; clear HO_5; clear HO559; clear HB; have HO_4 := n0_; have HO_5 := n1_; have HO559 := n2_; have HO562 := n3_; have HB := n4_; clear n0_ n1_ n2_ n3_ n4_; (try clear hb); (try clear hb2); (try clear hk); (try clear hi); (try clear ho0); obtain ⟨Ao45, co45, eo45⟩ := Kd.R_slice HO_5.out; subst eo45; obtain ⟨Ao46, co46, eo46, _⟩ := Kd.Q_slice HO562.out; subst eo46) | (go_at_call 18; (with_reducible refine (tmesisref07_Same.calls k1 _ _ x5_1 _ _ t560 t563 _ ?side1 ?side2 ?side3 ?side4 A41.out).mono ?_); (case side1 => repeat (first | exact (Kd.R_reads' HO_5.out).2.2 | (with_reducible refine Kd.C_alloc ?_ _) | (with_reducible refine Kd.C_drewN ?_ _) | (with_reducible refine Kd.C_drew ?_))); (case side2 => exact (Kd.R_reads' HO_5.out).2.1); (case side3 => repeat (first | exact (Kd.Q_reads' HO562.out).2.2 | (with_reducible refine Kd.C_alloc ?_ _) | (with_reducible refine Kd.C_drewN ?_ _) | (with_reducible refine Kd.C_drew ?_))); (case side4 => exact (Kd.Q_reads' HO562.out).2.1); rintro e w' ⟨rfl, ⟨nd, rfl⟩⟩; (try first | exact ⟨rfl, _, World.drewN_drewN _ _ _⟩ | exact ⟨rfl, _, Eq.trans (World.drewN_drewN _ _ _) (congrArg (World.drewN _) (Nat.add_assoc _ _ _))⟩))))
      go_meet
      case rel => exact ⟨_, (t563), (by first | rfl | (simp; done) | (simp [*]; done)), H', ⟨by have := HK1.out; first | omega | exact Nat.le_refl _⟩, ⟨by repeat (first | (with_reducible first | exact HB.out | apply below_alloc | apply pw_below_drewN | apply below_drew1) | exact HB.out)⟩⟩
     ·replace c38 := Bool.eq_false_iff.mpr c38
      subst c38
      have H1 : (tmesislaw10_SplitWhole.j3 k1 false) = some r := by rw [if_neg (show ¬ (false = true) by decide)] at H; exact H
      clear H
      have H := H1
      clear H1
      have H' := Aside0.mk H
      clear H
      go_wp2
      repeat (go_quiet (fail); try go_wp2)
      go_meet
      case rel => exact ⟨_, (false), (by first | rfl | (simp; done) | (simp [*]; done)), H', ⟨by have := HK1.out; first | omega | exact Nat.le_refl _⟩, ⟨by repeat (first | (with_reducible first | exact HB.out | apply below_alloc | apply pw_below_drewN | apply below_drew1) | exact HB.out)⟩⟩
    case rest =>
     clear HC36
     try clear c1
     try clear c2
     try clear p2
     try clear c3
     try clear c4
     try clear c5
     try clear p5
     try clear q5
     try clear hx5
     try clear qi5
     try clear p6
     try clear c11
     try clear c11b0
     try clear c12
     try clear c12b0
     try clear c15
     try clear c15b0
     try clear c15b1
     try clear c15b2
     try clear c16
     try clear c16b0
     try clear c16b1
     try clear c17
     try clear c17b0
     try clear c17b1
     try clear c18
     try clear c18b0
     try clear c18b1
     try clear c20
     try clear c20b0
     try clear c21
     try clear c21b0
     try clear c22
     try clear c22b0
     try clear c22b1
     try clear c23
     try clear c23b0
     try clear c29
     try clear c30
     try clear c30b0
     try clear c31
     try clear c31b0
     try clear c32
     try clear c32b0
     try clear c33
     try clear c33b0
     try clear c33b1
     try clear c34
     try clear c38
     try clear hx546_0
     try clear hx546_1
     try clear hx546_2
     try clear hx546_3
     try clear hx547_0
     try clear hx547_1
     try clear hx547_2
     try clear hx547_3
     try clear hx548_0
     try clear hx548_1
     try clear hx548_2
     try clear hx548_3
     try clear hx549_0
     try clear hx549_1
     try clear hx549_2
     try clear hx549_3
     try clear hx549_4
     try clear hx550_0
     try clear hx550_1
     try clear hx550_2
     try clear hx550_3
     try clear hx551_0
     try clear hx551_1
     try clear hx551_2
     try clear hx551_3
     try clear hx551_4
     try clear hx552_0
     try clear hx552_1
     try clear hx552_2
     try clear hx552_3
     try clear hx552_4
     try clear hx553_0
     try clear hx553_1
     try clear hx553_2
     try clear hx553_3
     try clear hx553_4
     try clear p2
     try clear p5
     try clear p546
     try clear p547
     try clear p548
     try clear p549
     try clear p550
     try clear p551
     try clear p552
     try clear p553
     try clear p6
     try clear q5
     try clear q546
     try clear q547
     try clear q548
     try clear q549
     try clear q550
     try clear q551
     try clear q552
     try clear q553
     obtain ⟨kq, x2_35, rfl, HA, HJ35, HB⟩ := hcut
     cases kq with
     | zero => exact absurd HA.out (by simp [tmesislaw10_SplitWhole.j3])
     | succ kj35 =>
      have H := HA.out
      clear HA
      simp only [tmesislaw10_SplitWhole.j3] at H
      obtain rfl := Option.some.inj H
      go_wp2
      repeat (go_quiet (fail); try go_wp2)
      go_ret
      exact ⟨by first | rfl | (simp [errW_none, errW_some] <;> rfl) | (simp [*, errW_none, errW_some] <;> rfl), by repeat (first | (with_reducible first | exact HB.out | apply below_alloc | apply pw_below_drewN | apply below_drew1) | exact HB.out)⟩
/-- THE ONE PURE STATEMENT of tmesislaw10_SplitWhole: yours. -/
def tmesislaw10_SplitWhole.Pure : Prop := ∀ (l0 : List Int), l0.length ≤ maxLen → l0.length * 1 ≤ 140737488351232 → (∀ x ∈ l0, (Lit.int .u8 x).wf = true) → ∃ k, tmesislaw10_SplitWhole.f k l0 = some true
theorem tmesislaw10_SplitWhole.walk (P : tmesislaw10_SplitWhole.Pure) (a0 : Option Addr) (len0 cap0 : Nat) (z0 : List Int) (w : World) (hG : Gl w) (w0 : (a0 = none ∧ len0 = 0 ∧ cap0 = 0 ∧ z0 = []) ∨ ∃ x, a0 = some x ∧ len0 ≤ cap0 ∧ cap0 ≤ maxLen ∧ z0.length = cap0 ∧ (∀ i, i < z0.length → w.cell? (x.add i) = some (.int .u8 (z0.getD i 0))) ∧ ∀ n ∈ z0, (Lit.int .u8 n).wf = true) (y0 : len0 * 1 ≤ 140737488351232) :
  Calls Tryd.prog 4 #[.slice a0 len0 cap0] w fun e w' => e = .returned (.bool true) ∧ Below w.heap.size w w' := by
 obtain ⟨l0, rfl, hr0, hm0, hw0, hc0⟩ := ReadsInt.ofRowC w0
 obtain ⟨k, h⟩ := P l0 hm0 y0 hw0
 refine (tmesislaw10_SplitWhole.calls k _ _ l0 true w hG (Kd.C_of_reads (d := (0 : Int)) (h1 := fun _ => rfl) hr0) hc0 h).mono ?_
 rintro e w' ⟨rfl, hd⟩
 exact ⟨rfl, hd⟩
end Go.Proofs.YtpkklbdclghcfaaDoor.P
