/- Part of the proof: what the theorem needs of this text. -/
import Derived.Test.YtpkklbdclghcfaaDoorKHG
import Derived.Test.YtpkklbdclghcfaaDoorKPx0
import Derived.Test.YtpkklbdclghcfaaDoorKPx10
import Derived.Test.YtpkklbdclghcfaaDoorKPx11
import Derived.Test.YtpkklbdclghcfaaDoorKPx12
import Derived.Test.YtpkklbdclghcfaaDoorKPx18
import Derived.Test.YtpkklbdclghcfaaDoorKPx19
import Derived.Test.YtpkklbdclghcfaaDoorKPx3
import Derived.Test.YtpkklbdclghcfaaDoorKPx9
namespace Go.Proofs.YtpkklbdclghcfaaDoor.P
open Go.RowKit Go.Proofs.YtpkklbdclghcfaaDoorW.PrintWords Go.Proofs.YtpkklbdclghcfaaDoorW.PrintLast Go.Proofs.YtpkklbdclghcfaaDoorW.PrintMore
attribute [local go_sem] max2_int min2_int max_two min_two max_three min_three max_four min_four   -- for this text's walks alone
set_option linter.unusedVariables false
set_option linter.unusedSimpArgs false
mutual
def tmesislaw10_SplitAll.l0 : Nat → List Int → Bool → List ByteArray → List ByteArray → Int → Int → Int → Int → List (S38) → Option (Bool)
 | 0, _, _, _, _, _, _, _, _, _ => none
 | k + 1, x0, x5, x6, x7, x8, x488000, x488001, x488002, x488003 => if x8 < (x6.length : Int) then (if 0 ≤ x8 then (if x8 < (x7.length : Int) then (if (rdOf ByteArray.empty x6 x8).toList = (rdOf ByteArray.empty x7 x8).toList then (tmesislaw10_SplitAll.l0 k x0 x5 x6 x7 (wrap64 (x8 + 1)) x488000 x488001 x488002 x488003) else (some false)) else (none)) else (none)) else (if x5 = true then ((tmesislaw10_few.f x0).bind fun t509 => ((split_Pieces.f k t509).bind fun t512 => ((tmesislaw10_few.f x0).bind fun t515 => ((tmesisref10_Pieces.f k t515).bind fun t518 => ((tmesisref10_Same.f k t512 t518).bind fun t521 => (if t521 = true then ((tmesislaw10_short.f x488000 x488001 x488002 x488003).bind fun bt522 => ((split_Nest.f k bt522.1 bt522.2.1 bt522.2.2.1 bt522.2.2.2).bind fun t528 => ((tmesislaw10_short.f x488000 x488001 x488002 x488003).bind fun bt529 => ((tmesisref10_Nest.f k bt529.1 bt529.2.1 bt529.2.2.1 bt529.2.2.2).bind fun t535 => (tmesislaw10_SplitAll.j1 k (t528 == t535)))))) else (tmesislaw10_SplitAll.j1 k false))))))) else (tmesislaw10_SplitAll.j1 k false))
def tmesislaw10_SplitAll.j1 : Nat → Bool → Option (Bool)
 | 0, _ => none
 | k + 1, x4 => some x4
end
def tmesislaw10_SplitAll.f (k : Nat) (l0 : List Int) (a1_0 : Int) (a1_1 : Int) (a1_2 : Int) (l1_3 : List (S38)) : Option (Bool) := (tmesislaw10_shown.f k).bind fun t488 => ((tmesislaw10_short.f a1_0 a1_1 a1_2 l1_3).bind fun bt489 => ((split_Names.f k bt489.1 bt489.2.1 bt489.2.2.1 bt489.2.2.2).bind fun t495 => ((tmesislaw10_short.f a1_0 a1_1 a1_2 l1_3).bind fun bt498 => ((tmesisref10_Names.f k bt498.1 bt498.2.1 bt498.2.2.1 bt498.2.2.2).bind fun t504 => (if (t495.length : Int) = (t504.length : Int) then (tmesislaw10_SplitAll.l0 k l0 t488 t495 t504 0 a1_0 a1_1 a1_2 l1_3) else (some false))))))
theorem tmesislaw10_SplitAll.mono_l : ∀ k, (∀ y0 y1 y2 y3 y4 y5 y6 y7 y8, LeO (tmesislaw10_SplitAll.l0 k y0 y1 y2 y3 y4 y5 y6 y7 y8) (tmesislaw10_SplitAll.l0 (k + 1) y0 y1 y2 y3 y4 y5 y6 y7 y8)) ∧ (∀ y0, LeO (tmesislaw10_SplitAll.j1 k y0) (tmesislaw10_SplitAll.j1 (k + 1) y0))
 | 0 => ⟨fun _ _ _ _ _ _ _ _ _ r h => by simp [tmesislaw10_SplitAll.l0] at h, fun _ r h => by simp [tmesislaw10_SplitAll.j1] at h⟩
 | k + 1 => by
  obtain ⟨ih0, ih1⟩ := tmesislaw10_SplitAll.mono_l k
  refine ⟨?_, ?_⟩
  ·intro y0 y1 y2 y3 y4 y5 y6 y7 y8
   unfold tmesislaw10_SplitAll.l0
   repeat' with_reducible first | exact ih0 _ _ _ _ _ _ _ _ _ | exact ih1 _ | exact split_Names.mono _ _ _ _ _ | exact split_Nest.mono _ _ _ _ _ | exact split_Pieces.mono _ _ | exact tmesislaw10_shown.mono _ | exact tmesisref10_Names.mono _ _ _ _ _ | exact tmesisref10_Nest.mono _ _ _ _ _ | exact tmesisref10_Pieces.mono _ _ | exact tmesisref10_Same.mono _ _ _ | exact LeO.refl _ | exact LeO.none _ | refine LeO.ite ?_ ?_ | refine LeO.bind ?_ (fun _ => ?_)
  ·intro y0
   unfold tmesislaw10_SplitAll.j1
   repeat' with_reducible first | exact ih0 _ _ _ _ _ _ _ _ _ | exact ih1 _ | exact split_Names.mono _ _ _ _ _ | exact split_Nest.mono _ _ _ _ _ | exact split_Pieces.mono _ _ | exact tmesislaw10_shown.mono _ | exact tmesisref10_Names.mono _ _ _ _ _ | exact tmesisref10_Nest.mono _ _ _ _ _ | exact tmesisref10_Pieces.mono _ _ | exact tmesisref10_Same.mono _ _ _ | exact LeO.refl _ | exact LeO.none _ | refine LeO.ite ?_ ?_ | refine LeO.bind ?_ (fun _ => ?_)
theorem tmesislaw10_SplitAll.mono : ∀ a0 a1 a2 a3 a4 k, LeO (tmesislaw10_SplitAll.f k a0 a1 a2 a3 a4) (tmesislaw10_SplitAll.f (k + 1) a0 a1 a2 a3 a4) := by
 intro a0 a1 a2 a3 a4 k
 obtain ⟨ih0, ih1⟩ := tmesislaw10_SplitAll.mono_l k
 unfold tmesislaw10_SplitAll.f
 repeat' with_reducible first | exact ih0 _ _ _ _ _ _ _ _ _ | exact ih1 _ | exact split_Names.mono _ _ _ _ _ | exact split_Nest.mono _ _ _ _ _ | exact split_Pieces.mono _ _ | exact tmesislaw10_shown.mono _ | exact tmesisref10_Names.mono _ _ _ _ _ | exact tmesisref10_Nest.mono _ _ _ _ _ | exact tmesisref10_Pieces.mono _ _ | exact tmesisref10_Same.mono _ _ _ | exact LeO.refl _ | exact LeO.none _ | refine LeO.ite ?_ ?_ | refine LeO.bind ?_ (fun _ => ?_)
def tmesislaw10_SplitAll.T9 : Bool × List (List Nat × List Nat) := (true, [([], []), ([], []), ([0, 1], [0, 1]), ([2], [2]), ([], []), ([], []), ([4, 5], [4, 5]), ([6], [6]), ([3, 7], [3, 7])])
def tmesislaw10_SplitAll.B9 : List Nat := [0, 0, 3, 7, 0, 0, 48, 112, 255]
theorem tmesislaw10_SplitAll.tab9 : rtab .any (opsOf Tryd.f3 9) = tmesislaw10_SplitAll.T9 := by kernel_rfl
theorem tmesislaw10_SplitAll.bits9 : waitsOk tmesislaw10_SplitAll.T9.2 tmesislaw10_SplitAll.B9 = true := by kernel_rfl
def tmesislaw10_SplitAll.T11 : Bool × List (List Nat × List Nat) := (true, [([], []), ([0], [0]), ([1], [1]), ([2, 1, 1], [1, 2]), ([3, 3, 1], [1, 3]), ([1], [1]), ([5, 4, 1], [1, 5]), ([6, 6, 1], [1, 6]), ([4, 7, 7, 1], [1, 4, 7]), ([1, 8], [1, 8]), ([9, 8], [9]), ([10], [10]), ([11, 10, 10], [10, 11]), ([12, 12, 10], [10, 12]), ([10], [10]), ([14, 13, 10], [10, 14]), ([15, 15, 10], [10, 15]), ([13, 16, 10], [10, 13, 16]), ([10, 17], [10, 17]), ([18, 16, 0, 1, 2, 3, 4, 5, 6, 7, 8, 9, 10, 11, 12, 13, 14, 15, 16, 17, 18], [18])])
def tmesislaw10_SplitAll.B11 : List Nat := [0, 1, 3, 7, 15, 3, 63, 127, 255, 511, 1023, 2047, 4095, 8191, 2047, 32767, 65535, 131071, 262143, 524287]
theorem tmesislaw10_SplitAll.tab11 : rtab .any (opsOf Tryd.f3 11) = tmesislaw10_SplitAll.T11 := by kernel_rfl
theorem tmesislaw10_SplitAll.bits11 : waitsOk tmesislaw10_SplitAll.T11.2 tmesislaw10_SplitAll.B11 = true := by kernel_rfl
set_option maxHeartbeats 8000000 in
set_option maxRecDepth 100000 in
theorem tmesislaw10_SplitAll.calls (k : Nat) (A0 : Option Addr) (c0 : Nat) (l0 : List Int) (a1_0 : Int) (a1_1 : Int) (a1_2 : Int) (A1_3 : Option Addr) (c1_3 : Nat) (l1_3 : List (S38)) (r : Bool) (w : World) (hG : Gl w) (hr0 : Kd.C (Kd.int .u8) w A0 l0.length l0) (hc0 : l0.length ≤ c0) (hr1_3 : Kd.C k38 w A1_3 l1_3.length l1_3) (hc1_3 : l1_3.length ≤ c1_3) (h : tmesislaw10_SplitAll.f k l0 a1_0 a1_1 a1_2 l1_3 = some r) :
  Calls Tryd.prog 3 #[.slice A0 l0.length c0, .agg #[.int .i64 a1_0, .int .i64 a1_1, .int .i64 a1_2, .slice A1_3 l1_3.length c1_3]] w fun e w' => e = .returned (.bool r) ∧ Below w.heap.size w w' := by
 have hu25 := Tryd.underlying25
 have HR0 := Aside0.mk hr0
 have HC0 := Aside0.mk hc0
 clear hr0 hc0
 have HR1_3 := Aside0.mk hr1_3
 have HC1_3 := Aside0.mk hc1_3
 clear hr1_3 hc1_3
 have HB := Aside0.mk (Below.refl w.heap.size w)
 have HG := Aside0.mk hG
 clear hG
 have H : ((tmesislaw10_shown.f k).bind fun t488 => ((tmesislaw10_short.f a1_0 a1_1 a1_2 l1_3).bind fun bt489 => ((split_Names.f k bt489.1 bt489.2.1 bt489.2.2.1 bt489.2.2.2).bind fun t495 => ((tmesislaw10_short.f a1_0 a1_1 a1_2 l1_3).bind fun bt498 => ((tmesisref10_Names.f k bt498.1 bt498.2.1 bt498.2.2.1 bt498.2.2.2).bind fun t504 => (if (t495.length : Int) = (t504.length : Int) then (tmesislaw10_SplitAll.l0 k l0 t488 t495 t504 0 a1_0 a1_1 a1_2 l1_3) else (some false))))))) = some r := h
 clear h
 obtain ⟨t488, A3, H⟩ := bE H
 obtain ⟨⟨t489, t490, t491, t492⟩, A4, H⟩ := bE H
 replace H : ((split_Names.f k t489 t490 t491 t492).bind fun t495 => ((tmesislaw10_short.f a1_0 a1_1 a1_2 l1_3).bind fun bt498 => ((tmesisref10_Names.f k bt498.1 bt498.2.1 bt498.2.2.1 bt498.2.2.2).bind fun t504 => (if (t495.length : Int) = (t504.length : Int) then (tmesislaw10_SplitAll.l0 k l0 t488 t495 t504 0 a1_0 a1_1 a1_2 l1_3) else (some false))))) = some r := H
 obtain ⟨t495, A5, H⟩ := bE H
 obtain ⟨⟨t498, t499, t500, t501⟩, A6, H⟩ := bE H
 replace H : ((tmesisref10_Names.f k t498 t499 t500 t501).bind fun t504 => (if (t495.length : Int) = (t504.length : Int) then (tmesislaw10_SplitAll.l0 k l0 t488 t495 t504 0 a1_0 a1_1 a1_2 l1_3) else (some false))) = some r := H
 obtain ⟨t504, A7, H⟩ := bE H
 by_cases c8 : (t495.length : Int) = (t504.length : Int)
 ·rw [if_pos c8] at H
  obtain ⟨c8b0, c8b1⟩ := eqB c8
  have c8b2 : (t495.length == t504.length) = true := by first | simpa using c8 | (simp at c8 ⊢; omega)
  clear c8
  have H' := Aside0.mk H
  clear H
  go_enter Tryd.func3, Tryd.ntmps3
  go_wp2_with (first | ((with_reducible refine gate_dst (N := 3) rfl ?_); refine box_event ?hg (N := 3) ?hd (cs := #[.int .i64 a1_0, .int .i64 a1_1, .int .i64 a1_2, .slice A1_3 l1_3.length c1_3]) (t := 25) ?hr ?_; (case hd => rfl); (case hg => rfl); (case hr => first | (go_simp; done) | (go_simp; rfl)); intro gb487 hg w9 hbox hb; have BK487 := Aside0.mk (hbox); have GW487 := Aside0.mk (gE (g := gb487) hg HB.out); have GE487 := Aside0.mk (gE (g := gb487) hg HB.out); replace HB := Aside0.mk (below_step (bAt HB.out) hb); clear hb hbox hg) | ((with_reducible refine gate_callee (f := 8) rfl ?_); refine gL (some 9) Tryd.func8 #[] rfl gA ?_; (with_reducible refine (tmesislaw10_shown.calls k  t488 _ ?side1 A3.out).mono ?_); (case side1 => exact Gl.below HG.out (bAt HB.out)); rintro e w10 ⟨rfl, hb⟩; refine ⟨_, rfl, ?_⟩; replace BK487 := Aside0.mk (blk_below (g := gb487) (o := .cells #[.int .i64 a1_0, .int .i64 a1_1, .int .i64 a1_2, .slice A1_3 l1_3.length c1_3] 25 (0, 0)) (kAt BK487.out) hb); replace HB := Aside0.mk (below_step (bAt HB.out) hb); (try clear hb); (try clear hb2); (try clear hk); (try clear hi); obtain ⟨hcz11_0, hcz11_1, hcz11_2, hcz11_3, hfz11_0, hfz11_1, hfz11_2, hfz11_3⟩ := blk4 BK487.out) | ((with_reducible refine gate_callee (f := 10) rfl ?_); refine gL (some 11) Tryd.func10 #[.agg #[.int .i64 a1_0, .int .i64 a1_1, .int .i64 a1_2, .slice A1_3 l1_3.length c1_3]] rfl gA ?_; (with_reducible refine (tmesislaw10_short.calls a1_0 a1_1 a1_2 (fun k_ => k_ < w.heap.size) _ _ l1_3 t489 t490 t491 t492 _ ?side1 A4.out).mono ?_); (case side1 => exact Kd.V_mk HC1_3.out (Kd.F_below (Kd.C_F k38_heap HR1_3.out) (bAt HB.out))); rintro e w12 ⟨v493, rfl, ho0, hb⟩; refine ⟨_, rfl, ?_⟩; have HO494 := Aside0.mk (Kd.V_lower (Kd.V_mono (ok' := fun k_ => k_ ≠ gb487) ho0 (fun k_ hk_ => Or.elim hk_ (fun hs_ => fun e_ => Nat.not_le.2 hs_ (by rw [e_]; exact GW487.out)) (fun hn_ => (Kd.freshB (g := gb487) (o := .cells #[.int .i64 a1_0, .int .i64 a1_1, .int .i64 a1_2, .slice A1_3 l1_3.length c1_3] 25 (0, 0)) (kAt BK487.out) k_ hn_)))) (below_size (bAt HB.out))); replace BK487 := Aside0.mk (blk_below (g := gb487) (o := .cells #[.int .i64 a1_0, .int .i64 a1_1, .int .i64 a1_2, .slice A1_3 l1_3.length c1_3] 25 (0, 0)) (kAt BK487.out) hb); replace HB := Aside0.mk (below_step (bAt HB.out) hb); (try clear hb); (try clear hb2); (try clear hk); (try clear hi); (try clear ho0); obtain ⟨Ao13, co13, eo13⟩ := Kd.V_slice HO494.out; subst eo13) | ((with_reducible refine gate_callee (f := 9) rfl ?_); refine gL (some 12) Tryd.func9 #[.agg #[.int .i64 t489, .int .i64 t490, .int .i64 t491, .slice Ao13 t492.length co13]] rfl gA ?_; (with_reducible refine (split_Names.calls k t489 t490 t491 _ _ t492 t495 _ ?side1 ?side2 A5.out).mono ?_); (case side1 => exact CAt ((Kd.V_reads' HO494.out).2.2)); (case side2 => exact (Kd.V_reads' HO494.out).2.1); rintro e w14 ⟨v496, rfl, ho0, hb⟩; refine ⟨_, rfl, ?_⟩; replace HO494 := Aside0.mk (Kd.V_elder' (VAt HO494.out) (Kd.R_base ho0) hb); have HO497 := Aside0.mk (Kd.R_lower ho0 (below_size (bAt HB.out))); replace BK487 := Aside0.mk (blk_below (g := gb487) (o := .cells #[.int .i64 a1_0, .int .i64 a1_1, .int .i64 a1_2, .slice A1_3 l1_3.length c1_3] 25 (0, 0)) (kAt BK487.out) hb); replace HB := Aside0.mk (below_step (bAt HB.out) hb); (try clear hb); (try clear hb2); (try clear hk); (try clear hi); (try clear ho0); obtain ⟨hcz15_0, hcz15_1, hcz15_2, hcz15_3, hfz15_0, hfz15_1, hfz15_2, hfz15_3⟩ := blk4 BK487.out) | ((with_reducible refine gate_callee (f := 10) rfl ?_); refine gL (some 14) Tryd.func10 #[.agg #[.int .i64 a1_0, .int .i64 a1_1, .int .i64 a1_2, .slice A1_3 l1_3.length c1_3]] rfl gA ?_; (with_reducible refine (tmesislaw10_short.calls a1_0 a1_1 a1_2 (fun k_ => k_ < w.heap.size) _ _ l1_3 t498 t499 t500 t501 _ ?side1 A6.out).mono ?_); (case side1 => exact Kd.V_mk HC1_3.out (Kd.F_below (Kd.C_F k38_heap HR1_3.out) (bAt HB.out))); rintro e w16 ⟨v502, rfl, ho0, hb⟩; refine ⟨_, rfl, ?_⟩; replace HO494 := Aside0.mk (Kd.V_below (VAt HO494.out) hb); have HO503 := Aside0.mk (Kd.V_lower (Kd.V_mono (ok' := fun k_ => some k_ ≠ (v496 : Value).ownBlock ∧ k_ ≠ gb487) ho0 (fun k_ hk_ => ⟨Or.elim hk_ (fun hs_ => fun e_ => Nat.not_le.2 hs_ (Kd.R_base HO497.out k_ e_.symm)) (fun hn_ => (Kd.fresh' (Kd.R_lt (RAt HO497.out)) k_ hn_)), Or.elim hk_ (fun hs_ => fun e_ => Nat.not_le.2 hs_ (by rw [e_]; exact GW487.out)) (fun hn_ => (Kd.freshB (g := gb487) (o := .cells #[.int .i64 a1_0, .int .i64 a1_1, .int .i64 a1_2, .slice A1_3 l1_3.length c1_3] 25 (0, 0)) (kAt BK487.out) k_ hn_))⟩)) (below_size (bAt HB.out))); replace HO497 := Aside0.mk (Kd.R_below (RAt HO497.out) hb); replace BK487 := Aside0.mk (blk_below (g := gb487) (o := .cells #[.int .i64 a1_0, .int .i64 a1_1, .int .i64 a1_2, .slice A1_3 l1_3.length c1_3] 25 (0, 0)) (kAt BK487.out) hb); replace HB := Aside0.mk (below_step (bAt HB.out) hb); (try clear hb); (try clear hb2); (try clear hk); (try clear hi); (try clear ho0); obtain ⟨Ao17, co17, eo17⟩ := Kd.V_slice HO503.out; subst eo17) | ((with_reducible refine gate_callee (f := 11) rfl ?_); refine gL (some 15) Tryd.func11 #[.agg #[.int .i64 t498, .int .i64 t499, .int .i64 t500, .slice Ao17 t501.length co17]] rfl gA ?_; (with_reducible refine (tmesisref10_Names.calls k t498 t499 t500 _ _ t501 t504 _ ?side1 ?side2 A7.out).mono ?_); (case side1 => exact CAt ((Kd.V_reads' HO503.out).2.2)); (case side2 => exact (Kd.V_reads' HO503.out).2.1); rintro e w18 ⟨v505, rfl, ho0, hb⟩; refine ⟨_, rfl, ?_⟩; replace HO494 := Aside0.mk (Kd.V_elder' (VAt HO494.out) (Kd.R_base ho0) hb); replace HO503 := Aside0.mk (Kd.V_elder' (VAt HO503.out) (Kd.R_base ho0) hb); have HO506 := Aside0.mk (Kd.R_lower (Kd.R_new' ho0 (Kd.R_lt (RAt HO497.out))) (below_size (bAt HB.out))); replace HO497 := Aside0.mk (Kd.R_elder' (RAt HO497.out) (Kd.R_base ho0) hb); replace BK487 := Aside0.mk (blk_below (g := gb487) (o := .cells #[.int .i64 a1_0, .int .i64 a1_1, .int .i64 a1_2, .slice A1_3 l1_3.length c1_3] 25 (0, 0)) (kAt BK487.out) hb); replace HB := Aside0.mk (below_step (bAt HB.out) hb); (try clear hb); (try clear hb2); (try clear hk); (try clear hi); (try clear ho0); obtain ⟨Ao19, co19, eo19⟩ := Kd.R_slice HO497.out; subst eo19; obtain ⟨Ao20, co20, eo20⟩ := Kd.R_slice HO506.out; subst eo20))
  go_loopg [8] k (fun kq v8 w' => ∃ (x8_1 : Int), v8 = .int .i64 x8_1 ∧ Aside0 (tmesislaw10_SplitAll.l0 kq l0 t488 t495 t504 x8_1 a1_0 a1_1 a1_2 l1_3 = some r) ∧ Aside0 (kq ≤ k) ∧ Aside0 (Kd.R Kd.string 9 w' w.heap.size (fun k_ => some k_ ≠ ((.slice Ao20 t504.length co20) : Value).ownBlock) (.slice Ao19 t495.length co19) t495) ∧ Aside0 (Kd.R Kd.string 9 w' w.heap.size (fun k_ => some k_ ≠ ((.slice Ao19 t495.length co19) : Value).ownBlock) (.slice Ao20 t504.length co20) t504) ∧ Aside0 (w'.heap[gb487]? = some (.cells #[.int .i64 a1_0, .int .i64 a1_1, .int .i64 a1_2, (.slice A1_3 l1_3.length c1_3)] 25 (0, 0))) ∧ Aside0 (Below w.heap.size w w'))
  case atStart => exact ⟨(0), sR, H', ⟨Nat.le_refl _⟩, ⟨RAt (Kd.R_mono HO497.out (fun _ hk => hk.2))⟩, ⟨RAt (Kd.R_mono HO506.out (fun _ hk => hk.2))⟩, ⟨kAt BK487.out⟩, ⟨bAt HB.out⟩⟩
  case round =>
   clear H'
   try clear c1
   try clear p2
   try clear c3
   try clear c8
   try clear c8b0 c8b1
   try clear c8b2
   try clear c9
   try clear c10
   try clear c11
   try clear hcz11_0
   try clear hcz11_1
   try clear hcz11_2
   try clear hcz11_3
   try clear hcz15_0
   try clear hcz15_1
   try clear hcz15_2
   try clear hcz15_3
   try clear hfz11_0
   try clear hfz11_1
   try clear hfz11_2
   try clear hfz11_3
   try clear hfz15_0
   try clear hfz15_1
   try clear hfz15_2
   try clear hfz15_3
   obtain ⟨x8_1, rfl, HA, HK1, HO_6, HO_7, BK487, HB⟩ := hrel
   cases gk with
   | zero => exact absurd HA.out (by simp [tmesislaw10_SplitAll.l0])
   | succ k1 =>
    have H := HA.out
    clear HA
    simp only [tmesislaw10_SplitAll.l0] at H
    by_cases c21 : x8_1 < (t495.length : Int)
    ·rw [if_pos c21] at H
     have c21b0 := decide_eq_true c21
     clear c21
     by_cases c22 : 0 ≤ x8_1
     ·rw [if_pos c22] at H
      have c22b0 := decide_eq_true c22
      clear c22
      by_cases c23 : x8_1 < (t504.length : Int)
      ·rw [if_pos c23] at H
       have c23b0 := decide_eq_true c23
       clear c23
       by_cases c24 : (rdOf ByteArray.empty t495 x8_1).toList = (rdOf ByteArray.empty t504 x8_1).toList
       ·rw [if_pos c24] at H
        obtain ⟨c24b0, c24b1⟩ := eqB c24
        clear c24
        have H' := Aside0.mk H
        clear H
        try go_wp2
        replace HO_6 := Aside0.mk (Kd.R_drew HO_6.out)
        replace HO_7 := Aside0.mk (Kd.R_drew HO_7.out)
        replace BK487 := Aside0.mk (blk_drew BK487.out)
        replace HB := Aside0.mk (below_drew1 HB.out)
        have p507 : 0 ≤ (x8_1 : Int) := dt
        have q507 : x8_1 < (t495.length : Int) := dt
        obtain ⟨ad507, e507, hx507_0⟩ := Kd.at_string (Kd.R_reads' HO_6.out).2.2 x8_1 p507 q507
        cases e507
        replace p507 := eq_true p507
        replace q507 := eq_true q507
        have p508 : 0 ≤ (x8_1 : Int) := dt
        have q508 : x8_1 < (t504.length : Int) := dt
        obtain ⟨ad508, e508, hx508_0⟩ := Kd.at_string (Kd.R_reads' HO_7.out).2.2 x8_1 p508 q508
        cases e508
        replace p508 := eq_true p508
        replace q508 := eq_true q508
        refine start_ (n := 9) (S := fun w' => w'.cell? (ad507.add (x8_1).toNat) = some (.string (rdOf ByteArray.empty t495 x8_1)) ∧ w'.cell? (ad508.add (x8_1).toNat) = some (.string (rdOf ByteArray.empty t504 x8_1))) (ds := []) (bm 9 0) (by kernel_rfl) rfl rfl ⟨hx507_0, hx508_0⟩ (fun hHeld => ?_); refine with_tabW tmesislaw10_SplitAll.tab9 tmesislaw10_SplitAll.bits9 (fun HT_ HW_ => ?_)
        generalize wr.drew = w25 at HO_6 HO_7 BK487 HB hx507_0 hx508_0 hHeld ⊢
        refine pv_ 0 (some 27) (bm 9 1) HT_.out ?_
        refine pv_ 1 (some 28) (bm 9 3) HT_.out ?_
        refine pv_ 2 (some 29) (bm 9 7) HT_.out ?_
        refine pv_ 4 (some 31) (bm 9 23) HT_.out ?_
        refine pv_ 5 (some 32) (bm 9 55) HT_.out ?_
        refine pv_ 6 (some 33) (bm 9 119) HT_.out ?_
        refine tk_ 3 (some 30) (bm 9 127) HT_.out HW_.out hHeld ?_
        refine tk_ 7 (some 34) (bm 9 255) HT_.out HW_.out hHeld ?_
        refine pv_ 8 (some 35) (bm 9 511) HT_.out ?_
        refine done_ (done_of HT_.out (by kernel_rfl)) ?_
        try go_wp2
        go_roundg k1
        case measure => have := HK1.out; omega
        case rel => exact ⟨(wrap64 (x8_1 + 1)), sR, H', ⟨by have := HK1.out; omega⟩, ⟨RAt HO_6.out⟩, ⟨RAt HO_7.out⟩, ⟨kAt BK487.out⟩, ⟨bAt HB.out⟩⟩
       ·rw [if_neg c24] at H
        obtain ⟨c24b0, c24b1⟩ := neB c24
        obtain rfl := Option.some.inj H
        try go_wp2
        replace HO_6 := Aside0.mk (Kd.R_drew HO_6.out)
        replace HO_7 := Aside0.mk (Kd.R_drew HO_7.out)
        replace BK487 := Aside0.mk (blk_drew BK487.out)
        replace HB := Aside0.mk (below_drew1 HB.out)
        have p507 : 0 ≤ (x8_1 : Int) := dt
        have q507 : x8_1 < (t495.length : Int) := dt
        obtain ⟨ad507, e507, hx507_0⟩ := Kd.at_string (Kd.R_reads' HO_6.out).2.2 x8_1 p507 q507
        cases e507
        replace p507 := eq_true p507
        replace q507 := eq_true q507
        have p508 : 0 ≤ (x8_1 : Int) := dt
        have q508 : x8_1 < (t504.length : Int) := dt
        obtain ⟨ad508, e508, hx508_0⟩ := Kd.at_string (Kd.R_reads' HO_7.out).2.2 x8_1 p508 q508
        cases e508
        replace p508 := eq_true p508
        replace q508 := eq_true q508
        refine start_ (n := 9) (S := fun w' => w'.cell? (ad507.add (x8_1).toNat) = some (.string (rdOf ByteArray.empty t495 x8_1)) ∧ w'.cell? (ad508.add (x8_1).toNat) = some (.string (rdOf ByteArray.empty t504 x8_1))) (ds := []) (bm 9 0) (by kernel_rfl) rfl rfl ⟨hx507_0, hx508_0⟩ (fun hHeld => ?_); refine with_tabW tmesislaw10_SplitAll.tab9 tmesislaw10_SplitAll.bits9 (fun HT_ HW_ => ?_)
        generalize wr.drew = w26 at HO_6 HO_7 BK487 HB hx507_0 hx508_0 hHeld ⊢
        refine pv_ 0 (some 27) (bm 9 1) HT_.out ?_
        refine pv_ 1 (some 28) (bm 9 3) HT_.out ?_
        refine pv_ 2 (some 29) (bm 9 7) HT_.out ?_
        refine pv_ 4 (some 31) (bm 9 23) HT_.out ?_
        refine pv_ 5 (some 32) (bm 9 55) HT_.out ?_
        refine pv_ 6 (some 33) (bm 9 119) HT_.out ?_
        refine tk_ 3 (some 30) (bm 9 127) HT_.out HW_.out hHeld ?_
        refine tk_ 7 (some 34) (bm 9 255) HT_.out HW_.out hHeld ?_
        refine pv_ 8 (some 35) (bm 9 511) HT_.out ?_
        refine done_ (done_of HT_.out (by kernel_rfl)) ?_
        try go_wp2
        go_ret
        exact ⟨eR, bAt HB.out⟩
      · exact nB H c23
     · exact nB H c22
    ·rw [if_neg c21] at H
     have c21b0 := decide_eq_false c21
     clear c21
     have HC27 := Aside0.mk H
     clear H
     go_upto_region 11 with (fail)
     go_cut [4] (fun v4 wc => ∃ (kq : Nat) (x4_26 : Bool), v4 = .bool x4_26 ∧ Aside0 (tmesislaw10_SplitAll.j1 kq x4_26 = some r) ∧ Aside0 (kq ≤ k1) ∧ Aside0 (wc.heap[gb487]? = some (.cells #[.int .i64 a1_0, .int .i64 a1_1, .int .i64 a1_2, (.slice A1_3 l1_3.length c1_3)] 25 (0, 0))) ∧ Aside0 (Below w.heap.size w wc))
     case first =>
      have H := HC27.out
      clear HC27
      by_cases c28 : t488 = true
      ·subst c28
       replace H := tP H
       obtain ⟨t509, A29, H⟩ := bE H
       obtain ⟨t512, A30, H⟩ := bE H
       obtain ⟨t515, A31, H⟩ := bE H
       obtain ⟨t518, A32, H⟩ := bE H
       obtain ⟨t521, A33, H⟩ := bE H
       by_cases c34 : t521 = true
       ·subst c34
        replace H := tP H
        obtain ⟨⟨t522, t523, t524, t525⟩, A35, H⟩ := bE H
        replace H : ((split_Nest.f k1 t522 t523 t524 t525).bind fun t528 => ((tmesislaw10_short.f a1_0 a1_1 a1_2 l1_3).bind fun bt529 => ((tmesisref10_Nest.f k1 bt529.1 bt529.2.1 bt529.2.2.1 bt529.2.2.2).bind fun t535 => (tmesislaw10_SplitAll.j1 k1 (t528 == t535))))) = some r := H
        obtain ⟨t528, A36, H⟩ := bE H
        obtain ⟨⟨t529, t530, t531, t532⟩, A37, H⟩ := bE H
        replace H : ((tmesisref10_Nest.f k1 t529 t530 t531 t532).bind fun t535 => (tmesislaw10_SplitAll.j1 k1 (t528 == t535))) = some r := H
        obtain ⟨t535, A38, H⟩ := bE H
        have H' := Aside0.mk H
        clear H
        try go_wp2
        replace HO_6 := Aside0.mk (Kd.R_drew HO_6.out)
        replace HO_7 := Aside0.mk (Kd.R_drew HO_7.out)
        replace BK487 := Aside0.mk (blk_drew BK487.out)
        replace HB := Aside0.mk (below_drew1 HB.out)
        refine start_ (n := 20) (S := fun w' => w'.cell? ⟨gb487, 0, none⟩ = some (.int .i64 a1_0) ∧ w'.cell? ⟨gb487, 1, none⟩ = some (.int .i64 a1_1) ∧ w'.cell? ⟨gb487, 2, none⟩ = some (.int .i64 a1_2) ∧ w'.cell? ⟨gb487, 3, none⟩ = some (.slice A1_3 l1_3.length c1_3)) (ds := []) (bm 20 0) (by kernel_rfl) rfl rfl ⟨(blk_cell BK487.out 0).trans rfl, (blk_cell BK487.out 1).trans rfl, (blk_cell BK487.out 2).trans rfl, (blk_cell BK487.out 3).trans rfl⟩ (fun hHeld => ?_); refine with_tabW tmesislaw10_SplitAll.tab11 tmesislaw10_SplitAll.bits11 (fun HT_ HW_ => ?_)
        generalize wr.drew = w39 at HO_6 HO_7 BK487 HB hHeld ⊢
        refine pv_ 0 (some 36) (bm 20 1) HT_.out ?_
        refine pv_ 1 (some 37) (bm 20 3) HT_.out ?_
        refine pv_ 2 (some 38) (bm 20 7) HT_.out ?_
        refine pv_ 5 (some 41) (bm 20 39) HT_.out ?_
        refine one_ (i := 3) (N := some 39) (bm 20 47) rfl rfl (one_of HT_.out (by kernel_rfl)) (by decide) (fun K hK => ?_)
        refine goes_ Tryd.func14 (by kernel_rfl) rfl #[.slice A0 l0.length c0] (by rfl) rfl rfl gA ?_
        with_reducible refine (tmesislaw10_few.calls (fun k_ => k_ < w.heap.size) _ _ l0 t509 _ ?side1 A29.out).mono ?_
        (case side1 => exact Kd.V_mk HC0.out (Kd.F_below (Kd.C_F (Kd.heap_int .u8) HR0.out) (bAt HB.out)))
        rintro e w40 ⟨v510, rfl, ho0, hb⟩
        refine ⟨_, rfl, ?_⟩
        have HO511 := Aside0.mk (Kd.V_lower (Kd.V_mono (ok' := fun k_ => some k_ ≠ (.slice Ao19 t495.length co19 : Value).ownBlock ∧ some k_ ≠ (.slice Ao20 t504.length co20 : Value).ownBlock ∧ k_ ≠ gb487) ho0 (fun k_ hk_ => ⟨Or.elim hk_ (fun hs_ => fun e_ => Nat.not_le.2 hs_ (Kd.R_base HO_6.out k_ e_.symm)) (fun hn_ => (Kd.fresh' (Kd.R_lt (RAt HO_6.out)) k_ hn_)), Or.elim hk_ (fun hs_ => fun e_ => Nat.not_le.2 hs_ (Kd.R_base HO_7.out k_ e_.symm)) (fun hn_ => (Kd.fresh' (Kd.R_lt (RAt HO_7.out)) k_ hn_)), Or.elim hk_ (fun hs_ => fun e_ => Nat.not_le.2 hs_ (by rw [e_]; exact GW487.out)) (fun hn_ => (Kd.freshB (g := gb487) (o := .cells #[.int .i64 a1_0, .int .i64 a1_1, .int .i64 a1_2, .slice A1_3 l1_3.length c1_3] 25 (0, 0)) (kAt BK487.out) k_ hn_))⟩)) (below_size (bAt HB.out)))
        replace HO_6 := Aside0.mk (Kd.R_below (RAt HO_6.out) hb)
        replace HO_7 := Aside0.mk (Kd.R_below (RAt HO_7.out) hb)
        replace BK487 := Aside0.mk (blk_below (g := gb487) (o := .cells #[.int .i64 a1_0, .int .i64 a1_1, .int .i64 a1_2, .slice A1_3 l1_3.length c1_3] 25 (0, 0)) (kAt BK487.out) hb)
        replace HB := Aside0.mk (below_step (bAt HB.out) hb)
        (try clear hb)
        (try clear hb2)
        (try clear hk)
        (try clear hi)
        (try clear ho0)
        obtain ⟨Ao41, co41, eo41⟩ := Kd.V_slice HO511.out
        (first | subst eo41 | (injection eo41 with f1_ f2_ f3_; have f4_ := f1_.symm; have f5_ := f3_.symm; clear f1_ f2_ f3_; subst f4_; subst f5_))
        refine hK.out _ _ ⟨(blk_cell BK487.out 0).trans rfl, (blk_cell BK487.out 1).trans rfl, (blk_cell BK487.out 2).trans rfl, (blk_cell BK487.out 3).trans rfl⟩ (fun hHeld => ?_)
        clear hK K
        refine norm_ (a' := ?_) ?_ ?_
        rotate_left
        ·show Act.put _ (some 39) _ = _
         simp only [Act.put, List.setIfInBounds_toArray, List.set_cons_zero, List.set_cons_succ, i64_w, i32_w]
         rfl
        refine one_ (i := 4) (N := some 40) (bm 20 63) rfl rfl (one_of HT_.out (by kernel_rfl)) (by decide) (fun K hK => ?_)
        refine goes_ Tryd.func13 (by kernel_rfl) rfl #[.slice Ao41 t509.length co41] (by rfl) rfl rfl gA ?_
        with_reducible refine (split_Pieces.calls k1 _ _ t509 t512 _ ?side1 ?side2 ?side3 A30.out).mono ?_
        (case side1 => exact Gl.below HG.out (bAt HB.out))
        (case side2 => exact CAt ((Kd.V_reads' HO511.out).2.2))
        (case side3 => exact (Kd.V_reads' HO511.out).2.1)
        rintro e w42 ⟨v513, rfl, ho0, hb⟩
        refine ⟨_, rfl, ?_⟩
        replace HO511 := Aside0.mk (Kd.V_elder' (VAt HO511.out) (Kd.N_base ho0) hb)
        have HO514 := Aside0.mk (Kd.N_lower (Kd.N_mono (ok' := fun k_ => some k_ ≠ (.slice Ao19 t495.length co19 : Value).ownBlock ∧ some k_ ≠ (.slice Ao20 t504.length co20 : Value).ownBlock ∧ k_ ≠ gb487) ho0 (fun k_ hk_ => ⟨(Kd.fresh' (Kd.R_lt (RAt HO_6.out)) k_ hk_), (Kd.fresh' (Kd.R_lt (RAt HO_7.out)) k_ hk_), (Kd.freshB (g := gb487) (o := .cells #[.int .i64 a1_0, .int .i64 a1_1, .int .i64 a1_2, .slice A1_3 l1_3.length c1_3] 25 (0, 0)) (kAt BK487.out) k_ hk_)⟩)) (below_size (bAt HB.out)))
        replace HO_6 := Aside0.mk (Kd.R_below (RAt HO_6.out) hb)
        replace HO_7 := Aside0.mk (Kd.R_below (RAt HO_7.out) hb)
        replace BK487 := Aside0.mk (blk_below (g := gb487) (o := .cells #[.int .i64 a1_0, .int .i64 a1_1, .int .i64 a1_2, .slice A1_3 l1_3.length c1_3] 25 (0, 0)) (kAt BK487.out) hb)
        replace HB := Aside0.mk (below_step (bAt HB.out) hb)
        (try clear hb)
        (try clear hb2)
        (try clear hk)
        (try clear hi)
        (try clear ho0)
        refine hK.out _ _ ⟨(blk_cell BK487.out 0).trans rfl, (blk_cell BK487.out 1).trans rfl, (blk_cell BK487.out 2).trans rfl, (blk_cell BK487.out 3).trans rfl⟩ (fun hHeld => ?_)
        clear hK K
        refine norm_ (a' := ?_) ?_ ?_
        rotate_left
        ·show Act.put _ (some 40) _ = _
         simp only [Act.put, List.setIfInBounds_toArray, List.set_cons_zero, List.set_cons_succ, i64_w, i32_w]
         rfl
        refine one_ (i := 6) (N := some 42) (bm 20 127) rfl rfl (one_of HT_.out (by kernel_rfl)) (by decide) (fun K hK => ?_)
        refine goes_ Tryd.func14 (by kernel_rfl) rfl #[.slice A0 l0.length c0] (by rfl) rfl rfl gA ?_
        with_reducible refine (tmesislaw10_few.calls (fun k_ => k_ < w.heap.size) _ _ l0 t515 _ ?side1 A31.out).mono ?_
        (case side1 => exact Kd.V_mk HC0.out (Kd.F_below (Kd.C_F (Kd.heap_int .u8) HR0.out) (bAt HB.out)))
        rintro e w43 ⟨v516, rfl, ho0, hb⟩
        refine ⟨_, rfl, ?_⟩
        replace HO511 := Aside0.mk (Kd.V_below (VAt HO511.out) hb)
        have HO517 := Aside0.mk (Kd.V_lower (Kd.V_mono (ok' := fun k_ => some k_ ≠ (.slice Ao19 t495.length co19 : Value).ownBlock ∧ some k_ ≠ (.slice Ao20 t504.length co20 : Value).ownBlock ∧ some k_ ≠ (v513 : Value).ownBlock ∧ k_ ≠ gb487) ho0 (fun k_ hk_ => ⟨Or.elim hk_ (fun hs_ => fun e_ => Nat.not_le.2 hs_ (Kd.R_base HO_6.out k_ e_.symm)) (fun hn_ => (Kd.fresh' (Kd.R_lt (RAt HO_6.out)) k_ hn_)), Or.elim hk_ (fun hs_ => fun e_ => Nat.not_le.2 hs_ (Kd.R_base HO_7.out k_ e_.symm)) (fun hn_ => (Kd.fresh' (Kd.R_lt (RAt HO_7.out)) k_ hn_)), Or.elim hk_ (fun hs_ => fun e_ => Nat.not_le.2 hs_ (Kd.N_base HO514.out k_ e_.symm)) (fun hn_ => (Kd.fresh' (Kd.N_lt (NAt HO514.out)) k_ hn_)), Or.elim hk_ (fun hs_ => fun e_ => Nat.not_le.2 hs_ (by rw [e_]; exact GW487.out)) (fun hn_ => (Kd.freshB (g := gb487) (o := .cells #[.int .i64 a1_0, .int .i64 a1_1, .int .i64 a1_2, .slice A1_3 l1_3.length c1_3] 25 (0, 0)) (kAt BK487.out) k_ hn_))⟩)) (below_size (bAt HB.out)))
        replace HO_6 := Aside0.mk (Kd.R_below (RAt HO_6.out) hb)
        replace HO_7 := Aside0.mk (Kd.R_below (RAt HO_7.out) hb)
        replace HO514 := Aside0.mk (Kd.N_below (NAt HO514.out) hb)
        replace BK487 := Aside0.mk (blk_below (g := gb487) (o := .cells #[.int .i64 a1_0, .int .i64 a1_1, .int .i64 a1_2, .slice A1_3 l1_3.length c1_3] 25 (0, 0)) (kAt BK487.out) hb)
        replace HB := Aside0.mk (below_step (bAt HB.out) hb)
        (try clear hb)
        (try clear hb2)
        (try clear hk)
        (try clear hi)
        (try clear ho0)
        obtain ⟨Ao44, co44, eo44⟩ := Kd.V_slice HO517.out
        (first | subst eo44 | (injection eo44 with f1_ f2_ f3_; have f4_ := f1_.symm; have f5_ := f3_.symm; clear f1_ f2_ f3_; subst f4_; subst f5_))
        refine hK.out _ _ ⟨(blk_cell BK487.out 0).trans rfl, (blk_cell BK487.out 1).trans rfl, (blk_cell BK487.out 2).trans rfl, (blk_cell BK487.out 3).trans rfl⟩ (fun hHeld => ?_)
        clear hK K
        refine norm_ (a' := ?_) ?_ ?_
        rotate_left
        ·show Act.put _ (some 42) _ = _
         simp only [Act.put, List.setIfInBounds_toArray, List.set_cons_zero, List.set_cons_succ, i64_w, i32_w]
         rfl
        refine one_ (i := 7) (N := some 43) (bm 20 255) rfl rfl (one_of HT_.out (by kernel_rfl)) (by decide) (fun K hK => ?_)
        refine goes_ Tryd.func15 (by kernel_rfl) rfl #[.slice Ao44 t515.length co44] (by rfl) rfl rfl gA ?_
        with_reducible refine (tmesisref10_Pieces.calls k1 _ _ t515 t518 _ ?side1 ?side2 A32.out).mono ?_
        (case side1 => exact CAt ((Kd.V_reads' HO517.out).2.2))
        (case side2 => exact (Kd.V_reads' HO517.out).2.1)
        rintro e w45 ⟨v519, rfl, ho0, hb⟩
        refine ⟨_, rfl, ?_⟩
        replace HO511 := Aside0.mk (Kd.V_elder' (VAt HO511.out) (Kd.N_base (Kd.S_N ho0)) hb)
        replace HO517 := Aside0.mk (Kd.V_elder' (VAt HO517.out) (Kd.N_base (Kd.S_N ho0)) hb)
        have HO520 := Aside0.mk (Kd.N_lower (Kd.N_mono (ok' := fun k_ => some k_ ≠ (.slice Ao19 t495.length co19 : Value).ownBlock ∧ some k_ ≠ (.slice Ao20 t504.length co20 : Value).ownBlock ∧ some k_ ≠ (v513 : Value).ownBlock ∧ k_ ≠ gb487) (Kd.S_N (Kd.S_bound ho0)) (fun k_ hk_ => ⟨(Kd.fresh' (Kd.R_lt (RAt HO_6.out)) k_ hk_.2.1), (Kd.fresh' (Kd.R_lt (RAt HO_7.out)) k_ hk_.2.1), (Kd.fresh' (Kd.N_lt (NAt HO514.out)) k_ hk_.2.1), (Kd.freshB (g := gb487) (o := .cells #[.int .i64 a1_0, .int .i64 a1_1, .int .i64 a1_2, .slice A1_3 l1_3.length c1_3] 25 (0, 0)) (kAt BK487.out) k_ hk_.2.1)⟩)) (below_size (bAt HB.out)))
        replace HO_6 := Aside0.mk (Kd.R_below (RAt HO_6.out) hb)
        replace HO_7 := Aside0.mk (Kd.R_below (RAt HO_7.out) hb)
        replace HO514 := Aside0.mk (Kd.N_elder' (NAt HO514.out) (Kd.N_base (Kd.S_N ho0)) hb)
        replace BK487 := Aside0.mk (blk_below (g := gb487) (o := .cells #[.int .i64 a1_0, .int .i64 a1_1, .int .i64 a1_2, .slice A1_3 l1_3.length c1_3] 25 (0, 0)) (kAt BK487.out) hb)
        replace HB := Aside0.mk (below_step (bAt HB.out) hb)
        (try clear hb)
        (try clear hb2)
        (try clear hk)
        (try clear hi)
        (try clear ho0)
        obtain ⟨Ao46, co46, eo46⟩ := Kd.N_slice HO514.out
        (first | subst eo46 | (injection eo46 with f1_ f2_ f3_; have f4_ := f1_.symm; have f5_ := f3_.symm; clear f1_ f2_ f3_; subst f4_; subst f5_))
        obtain ⟨Ao47, co47, eo47⟩ := Kd.N_slice HO520.out
        (first | subst eo47 | (injection eo47 with f1_ f2_ f3_; have f4_ := f1_.symm; have f5_ := f3_.symm; clear f1_ f2_ f3_; subst f4_; subst f5_))
        refine hK.out _ _ ⟨(blk_cell BK487.out 0).trans rfl, (blk_cell BK487.out 1).trans rfl, (blk_cell BK487.out 2).trans rfl, (blk_cell BK487.out 3).trans rfl⟩ (fun hHeld => ?_)
        clear hK K
        refine norm_ (a' := ?_) ?_ ?_
        rotate_left
        ·show Act.put _ (some 43) _ = _
         simp only [Act.put, List.setIfInBounds_toArray, List.set_cons_zero, List.set_cons_succ, i64_w, i32_w]
         rfl
        refine one_ (i := 8) (N := some 44) (bm 20 511) rfl rfl (one_of HT_.out (by kernel_rfl)) (by decide) (fun K hK => ?_)
        refine goes_ Tryd.func12 (by kernel_rfl) rfl #[.slice Ao46 t512.length co46, .slice Ao47 t518.length co47] (by rfl) rfl rfl gA ?_
        with_reducible refine (tmesisref10_Same.calls k1 _ _ t512 _ _ t518 true _ ?side1 ?side2 ?side3 ?side4 A33.out).mono ?_
        (case side1 => exact CAt ((Kd.N_reads' HO514.out).2.2))
        (case side2 => exact (Kd.N_reads' HO514.out).2.1)
        (case side3 => exact CAt ((Kd.N_reads' HO520.out).2.2))
        (case side4 => exact (Kd.N_reads' HO520.out).2.1)
        rintro e w' ⟨rfl, ⟨nd, rfl⟩⟩
        refine ⟨_, rfl, ?_⟩
        refine hK.out _ _ ⟨(blk_cell BK487.out 0).trans rfl, (blk_cell BK487.out 1).trans rfl, (blk_cell BK487.out 2).trans rfl, (blk_cell BK487.out 3).trans rfl⟩ (fun hHeld => ?_)
        clear hK K
        refine norm_ (a' := ?_) ?_ ?_
        rotate_left
        ·show Act.put _ (some 44) _ = _
         simp only [Act.put, List.setIfInBounds_toArray, List.set_cons_zero, List.set_cons_succ, i64_w, i32_w]
         rfl
        refine pv_ 9 (some 45) (bm 20 1023) HT_.out ?_
        refine pv_ 10 (some 46) (bm 20 2047) HT_.out ?_
        refine tk_ 11 (some 47) (bm 20 4095) HT_.out HW_.out hHeld ?_
        refine tk_ 14 (some 50) (bm 20 20479) HT_.out HW_.out hHeld ?_
        refine one_ (i := 12) (N := some 48) (bm 20 24575) rfl rfl (one_of HT_.out (by kernel_rfl)) (by decide) (fun K hK => ?_)
        refine goes_ Tryd.func10 (by kernel_rfl) rfl #[.agg #[.int .i64 a1_0, .int .i64 a1_1, .int .i64 a1_2, .slice A1_3 l1_3.length c1_3]] (by rfl) rfl rfl gA ?_
        with_reducible refine (tmesislaw10_short.calls a1_0 a1_1 a1_2 (fun k_ => k_ < w.heap.size) _ _ l1_3 t522 t523 t524 t525 _ ?side1 A35.out).mono ?_
        (case side1 => exact Kd.V_mk HC1_3.out (Kd.F_below (Kd.C_F k38_heap HR1_3.out) (bAt HB.out)))
        rintro e w48 ⟨v526, rfl, ho0, hb⟩
        refine ⟨_, rfl, ?_⟩
        replace HO511 := Aside0.mk (Kd.V_below (VAt HO511.out) hb)
        replace HO517 := Aside0.mk (Kd.V_below (VAt HO517.out) hb)
        have HO527 := Aside0.mk (Kd.V_lower (Kd.V_mono (ok' := fun k_ => some k_ ≠ (.slice Ao19 t495.length co19 : Value).ownBlock ∧ some k_ ≠ (.slice Ao20 t504.length co20 : Value).ownBlock ∧ some k_ ≠ (.slice Ao46 t512.length co46 : Value).ownBlock ∧ some k_ ≠ (.slice Ao47 t518.length co47 : Value).ownBlock ∧ k_ ≠ gb487) ho0 (fun k_ hk_ => ⟨Or.elim hk_ (fun hs_ => fun e_ => Nat.not_le.2 hs_ (Kd.R_base HO_6.out k_ e_.symm)) (fun hn_ => (Kd.fresh' (Kd.R_lt (RAt HO_6.out)) k_ hn_)), Or.elim hk_ (fun hs_ => fun e_ => Nat.not_le.2 hs_ (Kd.R_base HO_7.out k_ e_.symm)) (fun hn_ => (Kd.fresh' (Kd.R_lt (RAt HO_7.out)) k_ hn_)), Or.elim hk_ (fun hs_ => fun e_ => Nat.not_le.2 hs_ (Kd.N_base HO514.out k_ e_.symm)) (fun hn_ => (Kd.fresh' (Kd.N_lt (NAt HO514.out)) k_ hn_)), Or.elim hk_ (fun hs_ => fun e_ => Nat.not_le.2 hs_ (Kd.N_base HO520.out k_ e_.symm)) (fun hn_ => (Kd.fresh' (Kd.N_lt (NAt HO520.out)) k_ hn_)), Or.elim hk_ (fun hs_ => fun e_ => Nat.not_le.2 hs_ (by rw [e_]; exact GW487.out)) (fun hn_ => (Kd.freshB (g := gb487) (o := .cells #[.int .i64 a1_0, .int .i64 a1_1, .int .i64 a1_2, .slice A1_3 l1_3.length c1_3] 25 (0, 0)) (kAt BK487.out) k_ hn_))⟩)) (below_size (bAt HB.out)))
        replace HO_6 := Aside0.mk (Kd.R_below (RAt HO_6.out) hb)
        replace HO_7 := Aside0.mk (Kd.R_below (RAt HO_7.out) hb)
        replace HO514 := Aside0.mk (Kd.N_below (NAt HO514.out) hb)
        replace HO520 := Aside0.mk (Kd.N_below (NAt HO520.out) hb)
        replace BK487 := Aside0.mk (blk_below (g := gb487) (o := .cells #[.int .i64 a1_0, .int .i64 a1_1, .int .i64 a1_2, .slice A1_3 l1_3.length c1_3] 25 (0, 0)) (kAt BK487.out) hb)
        replace HB := Aside0.mk (below_step (bAt HB.out) hb)
        (try clear hb)
        (try clear hb2)
        (try clear hk)
        (try clear hi)
        (try clear ho0)
        obtain ⟨Ao49, co49, eo49⟩ := Kd.V_slice HO527.out
        (first | subst eo49 | (injection eo49 with f1_ f2_ f3_; have f4_ := f1_.symm; have f5_ := f3_.symm; clear f1_ f2_ f3_; subst f4_; subst f5_))
        refine hK.out _ _ ⟨(blk_cell BK487.out 0).trans rfl, (blk_cell BK487.out 1).trans rfl, (blk_cell BK487.out 2).trans rfl, (blk_cell BK487.out 3).trans rfl⟩ (fun hHeld => ?_)
        clear hK K
        refine norm_ (a' := ?_) ?_ ?_
        rotate_left
        ·show Act.put _ (some 48) _ = _
         simp only [Act.put, List.setIfInBounds_toArray, List.set_cons_zero, List.set_cons_succ, i64_w, i32_w]
         rfl
        refine one_ (i := 13) (N := some 49) (bm 20 32767) rfl rfl (one_of HT_.out (by kernel_rfl)) (by decide) (fun K hK => ?_)
        refine goes_ Tryd.func16 (by kernel_rfl) rfl #[.agg #[.int .i64 t522, .int .i64 t523, .int .i64 t524, .slice Ao49 t525.length co49]] (by rfl) rfl rfl gA ?_
        with_reducible refine (split_Nest.calls k1 t522 t523 t524 _ _ t525 t528 _ ?side1 ?side2 A36.out).mono ?_
        (case side1 => exact CAt ((Kd.V_reads' HO527.out).2.2))
        (case side2 => exact (Kd.V_reads' HO527.out).2.1)
        rintro e w50 ⟨rfl, hb⟩
        refine ⟨_, rfl, ?_⟩
        replace HO_6 := Aside0.mk (Kd.R_below (RAt HO_6.out) hb)
        replace HO_7 := Aside0.mk (Kd.R_below (RAt HO_7.out) hb)
        replace HO511 := Aside0.mk (Kd.V_below (VAt HO511.out) hb)
        replace HO514 := Aside0.mk (Kd.N_below (NAt HO514.out) hb)
        replace HO517 := Aside0.mk (Kd.V_below (VAt HO517.out) hb)
        replace HO520 := Aside0.mk (Kd.N_below (NAt HO520.out) hb)
        replace HO527 := Aside0.mk (Kd.V_below (VAt HO527.out) hb)
        replace BK487 := Aside0.mk (blk_below (g := gb487) (o := .cells #[.int .i64 a1_0, .int .i64 a1_1, .int .i64 a1_2, .slice A1_3 l1_3.length c1_3] 25 (0, 0)) (kAt BK487.out) hb)
        replace HB := Aside0.mk (below_step (bAt HB.out) hb)
        (try clear hb)
        (try clear hb2)
        (try clear hk)
        (try clear hi)
        refine hK.out _ _ ⟨(blk_cell BK487.out 0).trans rfl, (blk_cell BK487.out 1).trans rfl, (blk_cell BK487.out 2).trans rfl, (blk_cell BK487.out 3).trans rfl⟩ (fun hHeld => ?_)
        clear hK K
        refine norm_ (a' := ?_) ?_ ?_
        rotate_left
        ·show Act.put _ (some 49) _ = _
         simp only [Act.put, List.setIfInBounds_toArray, List.set_cons_zero, List.set_cons_succ, i64_w, i32_w]
         rfl
        refine one_ (i := 15) (N := some 51) (bm 20 65535) rfl rfl (one_of HT_.out (by kernel_rfl)) (by decide) (fun K hK => ?_)
        refine goes_ Tryd.func10 (by kernel_rfl) rfl #[.agg #[.int .i64 a1_0, .int .i64 a1_1, .int .i64 a1_2, .slice A1_3 l1_3.length c1_3]] (by rfl) rfl rfl gA ?_
        with_reducible refine (tmesislaw10_short.calls a1_0 a1_1 a1_2 (fun k_ => k_ < w.heap.size) _ _ l1_3 t529 t530 t531 t532 _ ?side1 A37.out).mono ?_
        (case side1 => exact Kd.V_mk HC1_3.out (Kd.F_below (Kd.C_F k38_heap HR1_3.out) (bAt HB.out)))
        rintro e w51 ⟨v533, rfl, ho0, hb⟩
        refine ⟨_, rfl, ?_⟩
        replace HO511 := Aside0.mk (Kd.V_below (VAt HO511.out) hb)
        replace HO517 := Aside0.mk (Kd.V_below (VAt HO517.out) hb)
        replace HO527 := Aside0.mk (Kd.V_below (VAt HO527.out) hb)
        have HO534 := Aside0.mk (Kd.V_lower (Kd.V_mono (ok' := fun k_ => some k_ ≠ (.slice Ao19 t495.length co19 : Value).ownBlock ∧ some k_ ≠ (.slice Ao20 t504.length co20 : Value).ownBlock ∧ some k_ ≠ (.slice Ao46 t512.length co46 : Value).ownBlock ∧ some k_ ≠ (.slice Ao47 t518.length co47 : Value).ownBlock ∧ k_ ≠ gb487) ho0 (fun k_ hk_ => ⟨Or.elim hk_ (fun hs_ => fun e_ => Nat.not_le.2 hs_ (Kd.R_base HO_6.out k_ e_.symm)) (fun hn_ => (Kd.fresh' (Kd.R_lt (RAt HO_6.out)) k_ hn_)), Or.elim hk_ (fun hs_ => fun e_ => Nat.not_le.2 hs_ (Kd.R_base HO_7.out k_ e_.symm)) (fun hn_ => (Kd.fresh' (Kd.R_lt (RAt HO_7.out)) k_ hn_)), Or.elim hk_ (fun hs_ => fun e_ => Nat.not_le.2 hs_ (Kd.N_base HO514.out k_ e_.symm)) (fun hn_ => (Kd.fresh' (Kd.N_lt (NAt HO514.out)) k_ hn_)), Or.elim hk_ (fun hs_ => fun e_ => Nat.not_le.2 hs_ (Kd.N_base HO520.out k_ e_.symm)) (fun hn_ => (Kd.fresh' (Kd.N_lt (NAt HO520.out)) k_ hn_)), Or.elim hk_ (fun hs_ => fun e_ => Nat.not_le.2 hs_ (by rw [e_]; exact GW487.out)) (fun hn_ => (Kd.freshB (g := gb487) (o := .cells #[.int .i64 a1_0, .int .i64 a1_1, .int .i64 a1_2, .slice A1_3 l1_3.length c1_3] 25 (0, 0)) (kAt BK487.out) k_ hn_))⟩)) (below_size (bAt HB.out)))
        replace HO_6 := Aside0.mk (Kd.R_below (RAt HO_6.out) hb)
        replace HO_7 := Aside0.mk (Kd.R_below (RAt HO_7.out) hb)
        replace HO514 := Aside0.mk (Kd.N_below (NAt HO514.out) hb)
        replace HO520 := Aside0.mk (Kd.N_below (NAt HO520.out) hb)
        replace BK487 := Aside0.mk (blk_below (g := gb487) (o := .cells #[.int .i64 a1_0, .int .i64 a1_1, .int .i64 a1_2, .slice A1_3 l1_3.length c1_3] 25 (0, 0)) (kAt BK487.out) hb)
        replace HB := Aside0.mk (below_step (bAt HB.out) hb)
        (try clear hb)
        (try clear hb2)
        (try clear hk)
        (try clear hi)
        (try clear ho0)
        obtain ⟨Ao52, co52, eo52⟩ := Kd.V_slice HO534.out
        (first | subst eo52 | (injection eo52 with f1_ f2_ f3_; have f4_ := f1_.symm; have f5_ := f3_.symm; clear f1_ f2_ f3_; subst f4_; subst f5_))
        refine hK.out _ _ ⟨(blk_cell BK487.out 0).trans rfl, (blk_cell BK487.out 1).trans rfl, (blk_cell BK487.out 2).trans rfl, (blk_cell BK487.out 3).trans rfl⟩ (fun hHeld => ?_)
        clear hK K
        refine norm_ (a' := ?_) ?_ ?_
        rotate_left
        ·show Act.put _ (some 51) _ = _
         simp only [Act.put, List.setIfInBounds_toArray, List.set_cons_zero, List.set_cons_succ, i64_w, i32_w]
         rfl
        refine one_ (i := 16) (N := some 52) (bm 20 131071) rfl rfl (one_of HT_.out (by kernel_rfl)) (by decide) (fun K hK => ?_)
        refine goes_ Tryd.func17 (by kernel_rfl) rfl #[.agg #[.int .i64 t529, .int .i64 t530, .int .i64 t531, .slice Ao52 t532.length co52]] (by rfl) rfl rfl gA ?_
        with_reducible refine (tmesisref10_Nest.calls k1 t529 t530 t531 _ _ t532 t535 _ ?side1 ?side2 A38.out).mono ?_
        (case side1 => exact CAt ((Kd.V_reads' HO534.out).2.2))
        (case side2 => exact (Kd.V_reads' HO534.out).2.1)
        rintro e w53 ⟨rfl, hb⟩
        refine ⟨_, rfl, ?_⟩
        replace HO_6 := Aside0.mk (Kd.R_below (RAt HO_6.out) hb)
        replace HO_7 := Aside0.mk (Kd.R_below (RAt HO_7.out) hb)
        replace HO511 := Aside0.mk (Kd.V_below (VAt HO511.out) hb)
        replace HO514 := Aside0.mk (Kd.N_below (NAt HO514.out) hb)
        replace HO517 := Aside0.mk (Kd.V_below (VAt HO517.out) hb)
        replace HO520 := Aside0.mk (Kd.N_below (NAt HO520.out) hb)
        replace HO527 := Aside0.mk (Kd.V_below (VAt HO527.out) hb)
        replace HO534 := Aside0.mk (Kd.V_below (VAt HO534.out) hb)
        replace BK487 := Aside0.mk (blk_below (g := gb487) (o := .cells #[.int .i64 a1_0, .int .i64 a1_1, .int .i64 a1_2, .slice A1_3 l1_3.length c1_3] 25 (0, 0)) (kAt BK487.out) hb)
        replace HB := Aside0.mk (below_step (bAt HB.out) hb)
        (try clear hb)
        (try clear hb2)
        (try clear hk)
        (try clear hi)
        refine hK.out _ _ ⟨(blk_cell BK487.out 0).trans rfl, (blk_cell BK487.out 1).trans rfl, (blk_cell BK487.out 2).trans rfl, (blk_cell BK487.out 3).trans rfl⟩ (fun hHeld => ?_)
        clear hK K
        refine norm_ (a' := ?_) ?_ ?_
        rotate_left
        ·show Act.put _ (some 52) _ = _
         simp only [Act.put, List.setIfInBounds_toArray, List.set_cons_zero, List.set_cons_succ, i64_w, i32_w]
         rfl
        refine pv_ 17 (some 53) (bm 20 262143) HT_.out ?_
        refine pv_ 18 (some 54) (bm 20 524287) HT_.out ?_
        refine pv_ 19 (some 4) (bm 20 1048575) HT_.out ?_
        refine done_ (done_of HT_.out (by kernel_rfl)) ?_
        try go_wp2
        go_meet
        case rel => exact ⟨_, ((t528 == t535)), sR, H', ⟨by have := HK1.out; first | omega | exact Nat.le_refl _⟩, ⟨kAt BK487.out⟩, ⟨bAt HB.out⟩⟩
       ·replace c34 := Bool.eq_false_iff.mpr c34
        subst c34
        replace H := fP H
        have H' := Aside0.mk H
        clear H
        try go_wp2
        replace HO_6 := Aside0.mk (Kd.R_drew HO_6.out)
        replace HO_7 := Aside0.mk (Kd.R_drew HO_7.out)
        replace BK487 := Aside0.mk (blk_drew BK487.out)
        replace HB := Aside0.mk (below_drew1 HB.out)
        refine start_ (n := 20) (S := fun w' => True) (ds := []) (bm 20 0) (by kernel_rfl) rfl rfl trivial (fun hHeld => ?_); refine with_tabW tmesislaw10_SplitAll.tab11 tmesislaw10_SplitAll.bits11 (fun HT_ HW_ => ?_)
        generalize wr.drew = w54 at HO_6 HO_7 BK487 HB hHeld ⊢
        refine pv_ 0 (some 36) (bm 20 1) HT_.out ?_
        refine pv_ 1 (some 37) (bm 20 3) HT_.out ?_
        refine pv_ 2 (some 38) (bm 20 7) HT_.out ?_
        refine pv_ 5 (some 41) (bm 20 39) HT_.out ?_
        refine one_ (i := 3) (N := some 39) (bm 20 47) rfl rfl (one_of HT_.out (by kernel_rfl)) (by decide) (fun K hK => ?_)
        refine goes_ Tryd.func14 (by kernel_rfl) rfl #[.slice A0 l0.length c0] (by rfl) rfl rfl gA ?_
        with_reducible refine (tmesislaw10_few.calls (fun k_ => k_ < w.heap.size) _ _ l0 t509 _ ?side1 A29.out).mono ?_
        (case side1 => exact Kd.V_mk HC0.out (Kd.F_below (Kd.C_F (Kd.heap_int .u8) HR0.out) (bAt HB.out)))
        rintro e w55 ⟨v510, rfl, ho0, hb⟩
        refine ⟨_, rfl, ?_⟩
        have HO511 := Aside0.mk (Kd.V_lower (Kd.V_mono (ok' := fun k_ => some k_ ≠ (.slice Ao19 t495.length co19 : Value).ownBlock ∧ some k_ ≠ (.slice Ao20 t504.length co20 : Value).ownBlock ∧ k_ ≠ gb487) ho0 (fun k_ hk_ => ⟨Or.elim hk_ (fun hs_ => fun e_ => Nat.not_le.2 hs_ (Kd.R_base HO_6.out k_ e_.symm)) (fun hn_ => (Kd.fresh' (Kd.R_lt (RAt HO_6.out)) k_ hn_)), Or.elim hk_ (fun hs_ => fun e_ => Nat.not_le.2 hs_ (Kd.R_base HO_7.out k_ e_.symm)) (fun hn_ => (Kd.fresh' (Kd.R_lt (RAt HO_7.out)) k_ hn_)), Or.elim hk_ (fun hs_ => fun e_ => Nat.not_le.2 hs_ (by rw [e_]; exact GW487.out)) (fun hn_ => (Kd.freshB (g := gb487) (o := .cells #[.int .i64 a1_0, .int .i64 a1_1, .int .i64 a1_2, .slice A1_3 l1_3.length c1_3] 25 (0, 0)) (kAt BK487.out) k_ hn_))⟩)) (below_size (bAt HB.out)))
        replace HO_6 := Aside0.mk (Kd.R_below (RAt HO_6.out) hb)
        replace HO_7 := Aside0.mk (Kd.R_below (RAt HO_7.out) hb)
        replace BK487 := Aside0.mk (blk_below (g := gb487) (o := .cells #[.int .i64 a1_0, .int .i64 a1_1, .int .i64 a1_2, .slice A1_3 l1_3.length c1_3] 25 (0, 0)) (kAt BK487.out) hb)
        replace HB := Aside0.mk (below_step (bAt HB.out) hb)
        (try clear hb)
        (try clear hb2)
        (try clear hk)
        (try clear hi)
        (try clear ho0)
        obtain ⟨Ao56, co56, eo56⟩ := Kd.V_slice HO511.out
        (first | subst eo56 | (injection eo56 with f1_ f2_ f3_; have f4_ := f1_.symm; have f5_ := f3_.symm; clear f1_ f2_ f3_; subst f4_; subst f5_))
        refine hK.out _ _ trivial (fun hHeld => ?_)
        clear hK K
        refine norm_ (a' := ?_) ?_ ?_
        rotate_left
        ·show Act.put _ (some 39) _ = _
         simp only [Act.put, List.setIfInBounds_toArray, List.set_cons_zero, List.set_cons_succ, i64_w, i32_w]
         rfl
        refine one_ (i := 4) (N := some 40) (bm 20 63) rfl rfl (one_of HT_.out (by kernel_rfl)) (by decide) (fun K hK => ?_)
        refine goes_ Tryd.func13 (by kernel_rfl) rfl #[.slice Ao56 t509.length co56] (by rfl) rfl rfl gA ?_
        with_reducible refine (split_Pieces.calls k1 _ _ t509 t512 _ ?side1 ?side2 ?side3 A30.out).mono ?_
        (case side1 => exact Gl.below HG.out (bAt HB.out))
        (case side2 => exact CAt ((Kd.V_reads' HO511.out).2.2))
        (case side3 => exact (Kd.V_reads' HO511.out).2.1)
        rintro e w57 ⟨v513, rfl, ho0, hb⟩
        refine ⟨_, rfl, ?_⟩
        replace HO511 := Aside0.mk (Kd.V_elder' (VAt HO511.out) (Kd.N_base ho0) hb)
        have HO514 := Aside0.mk (Kd.N_lower (Kd.N_mono (ok' := fun k_ => some k_ ≠ (.slice Ao19 t495.length co19 : Value).ownBlock ∧ some k_ ≠ (.slice Ao20 t504.length co20 : Value).ownBlock ∧ k_ ≠ gb487) ho0 (fun k_ hk_ => ⟨(Kd.fresh' (Kd.R_lt (RAt HO_6.out)) k_ hk_), (Kd.fresh' (Kd.R_lt (RAt HO_7.out)) k_ hk_), (Kd.freshB (g := gb487) (o := .cells #[.int .i64 a1_0, .int .i64 a1_1, .int .i64 a1_2, .slice A1_3 l1_3.length c1_3] 25 (0, 0)) (kAt BK487.out) k_ hk_)⟩)) (below_size (bAt HB.out)))
        replace HO_6 := Aside0.mk (Kd.R_below (RAt HO_6.out) hb)
        replace HO_7 := Aside0.mk (Kd.R_below (RAt HO_7.out) hb)
        replace BK487 := Aside0.mk (blk_below (g := gb487) (o := .cells #[.int .i64 a1_0, .int .i64 a1_1, .int .i64 a1_2, .slice A1_3 l1_3.length c1_3] 25 (0, 0)) (kAt BK487.out) hb)
        replace HB := Aside0.mk (below_step (bAt HB.out) hb)
        (try clear hb)
        (try clear hb2)
        (try clear hk)
        (try clear hi)
        (try clear ho0)
        refine hK.out _ _ trivial (fun hHeld => ?_)
        clear hK K
        refine norm_ (a' := ?_) ?_ ?_
        rotate_left
        ·show Act.put _ (some 40) _ = _
         simp only [Act.put, List.setIfInBounds_toArray, List.set_cons_zero, List.set_cons_succ, i64_w, i32_w]
         rfl
        refine one_ (i := 6) (N := some 42) (bm 20 127) rfl rfl (one_of HT_.out (by kernel_rfl)) (by decide) (fun K hK => ?_)
        refine goes_ Tryd.func14 (by kernel_rfl) rfl #[.slice A0 l0.length c0] (by rfl) rfl rfl gA ?_
        with_reducible refine (tmesislaw10_few.calls (fun k_ => k_ < w.heap.size) _ _ l0 t515 _ ?side1 A31.out).mono ?_
        (case side1 => exact Kd.V_mk HC0.out (Kd.F_below (Kd.C_F (Kd.heap_int .u8) HR0.out) (bAt HB.out)))
        rintro e w58 ⟨v516, rfl, ho0, hb⟩
        refine ⟨_, rfl, ?_⟩
        replace HO511 := Aside0.mk (Kd.V_below (VAt HO511.out) hb)
        have HO517 := Aside0.mk (Kd.V_lower (Kd.V_mono (ok' := fun k_ => some k_ ≠ (.slice Ao19 t495.length co19 : Value).ownBlock ∧ some k_ ≠ (.slice Ao20 t504.length co20 : Value).ownBlock ∧ some k_ ≠ (v513 : Value).ownBlock ∧ k_ ≠ gb487) ho0 (fun k_ hk_ => ⟨Or.elim hk_ (fun hs_ => fun e_ => Nat.not_le.2 hs_ (Kd.R_base HO_6.out k_ e_.symm)) (fun hn_ => (Kd.fresh' (Kd.R_lt (RAt HO_6.out)) k_ hn_)), Or.elim hk_ (fun hs_ => fun e_ => Nat.not_le.2 hs_ (Kd.R_base HO_7.out k_ e_.symm)) (fun hn_ => (Kd.fresh' (Kd.R_lt (RAt HO_7.out)) k_ hn_)), Or.elim hk_ (fun hs_ => fun e_ => Nat.not_le.2 hs_ (Kd.N_base HO514.out k_ e_.symm)) (fun hn_ => (Kd.fresh' (Kd.N_lt (NAt HO514.out)) k_ hn_)), Or.elim hk_ (fun hs_ => fun e_ => Nat.not_le.2 hs_ (by rw [e_]; exact GW487.out)) (fun hn_ => (Kd.freshB (g := gb487) (o := .cells #[.int .i64 a1_0, .int .i64 a1_1, .int .i64 a1_2, .slice A1_3 l1_3.length c1_3] 25 (0, 0)) (kAt BK487.out) k_ hn_))⟩)) (below_size (bAt HB.out)))
        replace HO_6 := Aside0.mk (Kd.R_below (RAt HO_6.out) hb)
        replace HO_7 := Aside0.mk (Kd.R_below (RAt HO_7.out) hb)
        replace HO514 := Aside0.mk (Kd.N_below (NAt HO514.out) hb)
        replace BK487 := Aside0.mk (blk_below (g := gb487) (o := .cells #[.int .i64 a1_0, .int .i64 a1_1, .int .i64 a1_2, .slice A1_3 l1_3.length c1_3] 25 (0, 0)) (kAt BK487.out) hb)
        replace HB := Aside0.mk (below_step (bAt HB.out) hb)
        (try clear hb)
        (try clear hb2)
        (try clear hk)
        (try clear hi)
        (try clear ho0)
        obtain ⟨Ao59, co59, eo59⟩ := Kd.V_slice HO517.out
        (first | subst eo59 | (injection eo59 with f1_ f2_ f3_; have f4_ := f1_.symm; have f5_ := f3_.symm; clear f1_ f2_ f3_; subst f4_; subst f5_))
        refine hK.out _ _ trivial (fun hHeld => ?_)
        clear hK K
        refine norm_ (a' := ?_) ?_ ?_
        rotate_left
        ·show Act.put _ (some 42) _ = _
         simp only [Act.put, List.setIfInBounds_toArray, List.set_cons_zero, List.set_cons_succ, i64_w, i32_w]
         rfl
        refine one_ (i := 7) (N := some 43) (bm 20 255) rfl rfl (one_of HT_.out (by kernel_rfl)) (by decide) (fun K hK => ?_)
        refine goes_ Tryd.func15 (by kernel_rfl) rfl #[.slice Ao59 t515.length co59] (by rfl) rfl rfl gA ?_
        with_reducible refine (tmesisref10_Pieces.calls k1 _ _ t515 t518 _ ?side1 ?side2 A32.out).mono ?_
        (case side1 => exact CAt ((Kd.V_reads' HO517.out).2.2))
        (case side2 => exact (Kd.V_reads' HO517.out).2.1)
        rintro e w60 ⟨v519, rfl, ho0, hb⟩
        refine ⟨_, rfl, ?_⟩
        replace HO511 := Aside0.mk (Kd.V_elder' (VAt HO511.out) (Kd.N_base (Kd.S_N ho0)) hb)
        replace HO517 := Aside0.mk (Kd.V_elder' (VAt HO517.out) (Kd.N_base (Kd.S_N ho0)) hb)
        have HO520 := Aside0.mk (Kd.N_lower (Kd.N_mono (ok' := fun k_ => some k_ ≠ (.slice Ao19 t495.length co19 : Value).ownBlock ∧ some k_ ≠ (.slice Ao20 t504.length co20 : Value).ownBlock ∧ some k_ ≠ (v513 : Value).ownBlock ∧ k_ ≠ gb487) (Kd.S_N (Kd.S_bound ho0)) (fun k_ hk_ => ⟨(Kd.fresh' (Kd.R_lt (RAt HO_6.out)) k_ hk_.2.1), (Kd.fresh' (Kd.R_lt (RAt HO_7.out)) k_ hk_.2.1), (Kd.fresh' (Kd.N_lt (NAt HO514.out)) k_ hk_.2.1), (Kd.freshB (g := gb487) (o := .cells #[.int .i64 a1_0, .int .i64 a1_1, .int .i64 a1_2, .slice A1_3 l1_3.length c1_3] 25 (0, 0)) (kAt BK487.out) k_ hk_.2.1)⟩)) (below_size (bAt HB.out)))
        replace HO_6 := Aside0.mk (Kd.R_below (RAt HO_6.out) hb)
        replace HO_7 := Aside0.mk (Kd.R_below (RAt HO_7.out) hb)
        replace HO514 := Aside0.mk (Kd.N_elder' (NAt HO514.out) (Kd.N_base (Kd.S_N ho0)) hb)
        replace BK487 := Aside0.mk (blk_below (g := gb487) (o := .cells #[.int .i64 a1_0, .int .i64 a1_1, .int .i64 a1_2, .slice A1_3 l1_3.length c1_3] 25 (0, 0)) (kAt BK487.out) hb)
        replace HB := Aside0.mk (below_step (bAt HB.out) hb)
        (try clear hb)
        (try clear hb2)
        (try clear hk)
        (try clear hi)
        (try clear ho0)
        obtain ⟨Ao61, co61, eo61⟩ := Kd.N_slice HO514.out
        (first | subst eo61 | (injection eo61 with f1_ f2_ f3_; have f4_ := f1_.symm; have f5_ := f3_.symm; clear f1_ f2_ f3_; subst f4_; subst f5_))
        obtain ⟨Ao62, co62, eo62⟩ := Kd.N_slice HO520.out
        (first | subst eo62 | (injection eo62 with f1_ f2_ f3_; have f4_ := f1_.symm; have f5_ := f3_.symm; clear f1_ f2_ f3_; subst f4_; subst f5_))
        refine hK.out _ _ trivial (fun hHeld => ?_)
        clear hK K
        refine norm_ (a' := ?_) ?_ ?_
        rotate_left
        ·show Act.put _ (some 43) _ = _
         simp only [Act.put, List.setIfInBounds_toArray, List.set_cons_zero, List.set_cons_succ, i64_w, i32_w]
         rfl
        refine one_ (i := 8) (N := some 44) (bm 20 511) rfl rfl (one_of HT_.out (by kernel_rfl)) (by decide) (fun K hK => ?_)
        refine goes_ Tryd.func12 (by kernel_rfl) rfl #[.slice Ao61 t512.length co61, .slice Ao62 t518.length co62] (by rfl) rfl rfl gA ?_
        with_reducible refine (tmesisref10_Same.calls k1 _ _ t512 _ _ t518 false _ ?side1 ?side2 ?side3 ?side4 A33.out).mono ?_
        (case side1 => exact CAt ((Kd.N_reads' HO514.out).2.2))
        (case side2 => exact (Kd.N_reads' HO514.out).2.1)
        (case side3 => exact CAt ((Kd.N_reads' HO520.out).2.2))
        (case side4 => exact (Kd.N_reads' HO520.out).2.1)
        rintro e w' ⟨rfl, ⟨nd, rfl⟩⟩
        refine ⟨_, rfl, ?_⟩
        refine hK.out _ _ trivial (fun hHeld => ?_)
        clear hK K
        refine norm_ (a' := ?_) ?_ ?_
        rotate_left
        ·show Act.put _ (some 44) _ = _
         simp only [Act.put, List.setIfInBounds_toArray, List.set_cons_zero, List.set_cons_succ, i64_w, i32_w]
         rfl
        refine pv_ 9 (some 45) (bm 20 1023) HT_.out ?_
        refine pv_ 10 (some 46) (bm 20 2047) HT_.out ?_
        refine pu_ 11 (some 47) (bm 20 4095) HT_.out ?_
        refine pu_ 12 (some 48) (bm 20 8191) HT_.out ?_
        refine pu_ 13 (some 49) (bm 20 16383) HT_.out ?_
        refine pu_ 14 (some 50) (bm 20 32767) HT_.out ?_
        refine pu_ 15 (some 51) (bm 20 65535) HT_.out ?_
        refine pu_ 16 (some 52) (bm 20 131071) HT_.out ?_
        refine pu_ 17 (some 53) (bm 20 262143) HT_.out ?_
        refine pv_ 18 (some 54) (bm 20 524287) HT_.out ?_
        refine pv_ 19 (some 4) (bm 20 1048575) HT_.out ?_
        refine done_ (done_of HT_.out (by kernel_rfl)) ?_
        try go_wp2
        go_meet
        case rel => exact ⟨_, (false), sR, H', ⟨by have := HK1.out; first | omega | exact Nat.le_refl _⟩, ⟨kAt BK487.out⟩, ⟨bAt HB.out⟩⟩
      ·replace c28 := Bool.eq_false_iff.mpr c28
       subst c28
       replace H := fP H
       have H' := Aside0.mk H
       clear H
       try go_wp2
       replace HO_6 := Aside0.mk (Kd.R_drew HO_6.out)
       replace HO_7 := Aside0.mk (Kd.R_drew HO_7.out)
       replace BK487 := Aside0.mk (blk_drew BK487.out)
       replace HB := Aside0.mk (below_drew1 HB.out)
       refine start_ (n := 20) (S := fun w' => True) (ds := []) (bm 20 0) (by kernel_rfl) rfl rfl trivial (fun hHeld => ?_); refine with_tabW tmesislaw10_SplitAll.tab11 tmesislaw10_SplitAll.bits11 (fun HT_ HW_ => ?_)
       generalize wr.drew = w63 at HO_6 HO_7 BK487 HB hHeld ⊢
       refine pv_ 0 (some 36) (bm 20 1) HT_.out ?_
       refine pv_ 1 (some 37) (bm 20 3) HT_.out ?_
       refine pu_ 2 (some 38) (bm 20 7) HT_.out ?_
       refine pu_ 3 (some 39) (bm 20 15) HT_.out ?_
       refine pu_ 4 (some 40) (bm 20 31) HT_.out ?_
       refine pu_ 5 (some 41) (bm 20 63) HT_.out ?_
       refine pu_ 6 (some 42) (bm 20 127) HT_.out ?_
       refine pu_ 7 (some 43) (bm 20 255) HT_.out ?_
       refine pu_ 8 (some 44) (bm 20 511) HT_.out ?_
       refine pv_ 9 (some 45) (bm 20 1023) HT_.out ?_
       refine pv_ 10 (some 46) (bm 20 2047) HT_.out ?_
       refine pu_ 11 (some 47) (bm 20 4095) HT_.out ?_
       refine pu_ 12 (some 48) (bm 20 8191) HT_.out ?_
       refine pu_ 13 (some 49) (bm 20 16383) HT_.out ?_
       refine pu_ 14 (some 50) (bm 20 32767) HT_.out ?_
       refine pu_ 15 (some 51) (bm 20 65535) HT_.out ?_
       refine pu_ 16 (some 52) (bm 20 131071) HT_.out ?_
       refine pu_ 17 (some 53) (bm 20 262143) HT_.out ?_
       refine pv_ 18 (some 54) (bm 20 524287) HT_.out ?_
       refine pv_ 19 (some 4) (bm 20 1048575) HT_.out ?_
       refine done_ (done_of HT_.out (by kernel_rfl)) ?_
       try go_wp2
       go_meet
       case rel => exact ⟨_, (false), sR, H', ⟨by have := HK1.out; first | omega | exact Nat.le_refl _⟩, ⟨kAt BK487.out⟩, ⟨bAt HB.out⟩⟩
     case rest =>
      clear HC27
      try clear c1
      try clear c2
      try clear p2
      try clear c3
      try clear c10
      try clear c12
      try clear c13
      try clear c14
      try clear c15
      try clear c17
      try clear c28
      try clear c34
      obtain ⟨kq, x4_26, rfl, HA, HJ26, BK487, HB⟩ := hcut
      cases kq with
      | zero => exact absurd HA.out (by simp [tmesislaw10_SplitAll.j1])
      | succ kj26 =>
       have H := HA.out
       clear HA
       simp only [tmesislaw10_SplitAll.j1] at H
       obtain rfl := Option.some.inj H
       go_wp2
       go_ret
       exact ⟨eR, bAt HB.out⟩
 ·rw [if_neg c8] at H
  obtain ⟨c8b0, c8b1⟩ := neB c8
  have c8b2 : (t495.length == t504.length) = false := by first | simpa using c8 | (simp at c8 ⊢; omega)
  obtain rfl := Option.some.inj H
  go_enter Tryd.func3, Tryd.ntmps3
  go_wp2_with (first | ((with_reducible refine gate_dst (N := 3) rfl ?_); refine box_event ?hg (N := 3) ?hd (cs := #[.int .i64 a1_0, .int .i64 a1_1, .int .i64 a1_2, .slice A1_3 l1_3.length c1_3]) (t := 25) ?hr ?_; (case hd => rfl); (case hg => rfl); (case hr => first | (go_simp; done) | (go_simp; rfl)); intro gb487 hg w64 hbox hb; have BK487 := Aside0.mk (hbox); have GW487 := Aside0.mk (gE (g := gb487) hg HB.out); have GE487 := Aside0.mk (gE (g := gb487) hg HB.out); replace HB := Aside0.mk (below_step (bAt HB.out) hb); clear hb hbox hg) | ((with_reducible refine gate_callee (f := 8) rfl ?_); refine gL (some 9) Tryd.func8 #[] rfl gA ?_; (with_reducible refine (tmesislaw10_shown.calls k  t488 _ ?side1 A3.out).mono ?_); (case side1 => exact Gl.below HG.out (bAt HB.out)); rintro e w65 ⟨rfl, hb⟩; refine ⟨_, rfl, ?_⟩; replace BK487 := Aside0.mk (blk_below (g := gb487) (o := .cells #[.int .i64 a1_0, .int .i64 a1_1, .int .i64 a1_2, .slice A1_3 l1_3.length c1_3] 25 (0, 0)) (kAt BK487.out) hb); replace HB := Aside0.mk (below_step (bAt HB.out) hb); (try clear hb); (try clear hb2); (try clear hk); (try clear hi); obtain ⟨hcz66_0, hcz66_1, hcz66_2, hcz66_3, hfz66_0, hfz66_1, hfz66_2, hfz66_3⟩ := blk4 BK487.out) | ((with_reducible refine gate_callee (f := 10) rfl ?_); refine gL (some 11) Tryd.func10 #[.agg #[.int .i64 a1_0, .int .i64 a1_1, .int .i64 a1_2, .slice A1_3 l1_3.length c1_3]] rfl gA ?_; (with_reducible refine (tmesislaw10_short.calls a1_0 a1_1 a1_2 (fun k_ => k_ < w.heap.size) _ _ l1_3 t489 t490 t491 t492 _ ?side1 A4.out).mono ?_); (case side1 => exact Kd.V_mk HC1_3.out (Kd.F_below (Kd.C_F k38_heap HR1_3.out) (bAt HB.out))); rintro e w67 ⟨v493, rfl, ho0, hb⟩; refine ⟨_, rfl, ?_⟩; have HO494 := Aside0.mk (Kd.V_lower (Kd.V_mono (ok' := fun k_ => k_ ≠ gb487) ho0 (fun k_ hk_ => Or.elim hk_ (fun hs_ => fun e_ => Nat.not_le.2 hs_ (by rw [e_]; exact GW487.out)) (fun hn_ => (Kd.freshB (g := gb487) (o := .cells #[.int .i64 a1_0, .int .i64 a1_1, .int .i64 a1_2, .slice A1_3 l1_3.length c1_3] 25 (0, 0)) (kAt BK487.out) k_ hn_)))) (below_size (bAt HB.out))); replace BK487 := Aside0.mk (blk_below (g := gb487) (o := .cells #[.int .i64 a1_0, .int .i64 a1_1, .int .i64 a1_2, .slice A1_3 l1_3.length c1_3] 25 (0, 0)) (kAt BK487.out) hb); replace HB := Aside0.mk (below_step (bAt HB.out) hb); (try clear hb); (try clear hb2); (try clear hk); (try clear hi); (try clear ho0); obtain ⟨Ao68, co68, eo68⟩ := Kd.V_slice HO494.out; subst eo68) | ((with_reducible refine gate_callee (f := 9) rfl ?_); refine gL (some 12) Tryd.func9 #[.agg #[.int .i64 t489, .int .i64 t490, .int .i64 t491, .slice Ao68 t492.length co68]] rfl gA ?_; (with_reducible refine (split_Names.calls k t489 t490 t491 _ _ t492 t495 _ ?side1 ?side2 A5.out).mono ?_); (case side1 => exact CAt ((Kd.V_reads' HO494.out).2.2)); (case side2 => exact (Kd.V_reads' HO494.out).2.1); rintro e w69 ⟨v496, rfl, ho0, hb⟩; refine ⟨_, rfl, ?_⟩; replace HO494 := Aside0.mk (Kd.V_elder' (VAt HO494.out) (Kd.R_base ho0) hb); have HO497 := Aside0.mk (Kd.R_lower ho0 (below_size (bAt HB.out))); replace BK487 := Aside0.mk (blk_below (g := gb487) (o := .cells #[.int .i64 a1_0, .int .i64 a1_1, .int .i64 a1_2, .slice A1_3 l1_3.length c1_3] 25 (0, 0)) (kAt BK487.out) hb); replace HB := Aside0.mk (below_step (bAt HB.out) hb); (try clear hb); (try clear hb2); (try clear hk); (try clear hi); (try clear ho0); obtain ⟨hcz70_0, hcz70_1, hcz70_2, hcz70_3, hfz70_0, hfz70_1, hfz70_2, hfz70_3⟩ := blk4 BK487.out) | ((with_reducible refine gate_callee (f := 10) rfl ?_); refine gL (some 14) Tryd.func10 #[.agg #[.int .i64 a1_0, .int .i64 a1_1, .int .i64 a1_2, .slice A1_3 l1_3.length c1_3]] rfl gA ?_; (with_reducible refine (tmesislaw10_short.calls a1_0 a1_1 a1_2 (fun k_ => k_ < w.heap.size) _ _ l1_3 t498 t499 t500 t501 _ ?side1 A6.out).mono ?_); (case side1 => exact Kd.V_mk HC1_3.out (Kd.F_below (Kd.C_F k38_heap HR1_3.out) (bAt HB.out))); rintro e w71 ⟨v502, rfl, ho0, hb⟩; refine ⟨_, rfl, ?_⟩; replace HO494 := Aside0.mk (Kd.V_below (VAt HO494.out) hb); have HO503 := Aside0.mk (Kd.V_lower (Kd.V_mono (ok' := fun k_ => some k_ ≠ (v496 : Value).ownBlock ∧ k_ ≠ gb487) ho0 (fun k_ hk_ => ⟨Or.elim hk_ (fun hs_ => fun e_ => Nat.not_le.2 hs_ (Kd.R_base HO497.out k_ e_.symm)) (fun hn_ => (Kd.fresh' (Kd.R_lt (RAt HO497.out)) k_ hn_)), Or.elim hk_ (fun hs_ => fun e_ => Nat.not_le.2 hs_ (by rw [e_]; exact GW487.out)) (fun hn_ => (Kd.freshB (g := gb487) (o := .cells #[.int .i64 a1_0, .int .i64 a1_1, .int .i64 a1_2, .slice A1_3 l1_3.length c1_3] 25 (0, 0)) (kAt BK487.out) k_ hn_))⟩)) (below_size (bAt HB.out))); replace HO497 := Aside0.mk (Kd.R_below (RAt HO497.out) hb); replace BK487 := Aside0.mk (blk_below (g := gb487) (o := .cells #[.int .i64 a1_0, .int .i64 a1_1, .int .i64 a1_2, .slice A1_3 l1_3.length c1_3] 25 (0, 0)) (kAt BK487.out) hb); replace HB := Aside0.mk (below_step (bAt HB.out) hb); (try clear hb); (try clear hb2); (try clear hk); (try clear hi); (try clear ho0); obtain ⟨Ao72, co72, eo72⟩ := Kd.V_slice HO503.out; subst eo72) | ((with_reducible refine gate_callee (f := 11) rfl ?_); refine gL (some 15) Tryd.func11 #[.agg #[.int .i64 t498, .int .i64 t499, .int .i64 t500, .slice Ao72 t501.length co72]] rfl gA ?_; (with_reducible refine (tmesisref10_Names.calls k t498 t499 t500 _ _ t501 t504 _ ?side1 ?side2 A7.out).mono ?_); (case side1 => exact CAt ((Kd.V_reads' HO503.out).2.2)); (case side2 => exact (Kd.V_reads' HO503.out).2.1); rintro e w73 ⟨v505, rfl, ho0, hb⟩; refine ⟨_, rfl, ?_⟩; replace HO494 := Aside0.mk (Kd.V_elder' (VAt HO494.out) (Kd.R_base ho0) hb); replace HO503 := Aside0.mk (Kd.V_elder' (VAt HO503.out) (Kd.R_base ho0) hb); have HO506 := Aside0.mk (Kd.R_lower (Kd.R_new' ho0 (Kd.R_lt (RAt HO497.out))) (below_size (bAt HB.out))); replace HO497 := Aside0.mk (Kd.R_elder' (RAt HO497.out) (Kd.R_base ho0) hb); replace BK487 := Aside0.mk (blk_below (g := gb487) (o := .cells #[.int .i64 a1_0, .int .i64 a1_1, .int .i64 a1_2, .slice A1_3 l1_3.length c1_3] 25 (0, 0)) (kAt BK487.out) hb); replace HB := Aside0.mk (below_step (bAt HB.out) hb); (try clear hb); (try clear hb2); (try clear hk); (try clear hi); (try clear ho0); obtain ⟨Ao74, co74, eo74⟩ := Kd.R_slice HO497.out; subst eo74; obtain ⟨Ao75, co75, eo75⟩ := Kd.R_slice HO506.out; subst eo75))
  go_ret
  exact ⟨eR, bAt HB.out⟩
/-- THE ONE PURE STATEMENT of tmesislaw10_SplitAll: yours. -/
def tmesislaw10_SplitAll.Pure : Prop := ∀ (l0 : List Int) (a1_0 : Int) (a1_1 : Int) (a1_2 : Int) (l1_3 : List (S38)), (l0.length ≤ 9223372036854775807 ∧ l0.length * 1 ≤ 140737488351232 ∧ ∀ z0_ ∈ l0, (Lit.int .u8 z0_).wf = true) → (Lit.int .i64 a1_0).wf = true → (Lit.int .i64 a1_1).wf = true → (Lit.int .i64 a1_2).wf = true → (l1_3.length ≤ 9223372036854775807 ∧ l1_3.length * 48 ≤ 140737488351232 ∧ ∀ z0_ ∈ l1_3, ok38 z0_) → ∃ k, tmesislaw10_SplitAll.f k l0 a1_0 a1_1 a1_2 l1_3 = some true
theorem tmesislaw10_SplitAll.walk (P : tmesislaw10_SplitAll.Pure) (A0 : Option Addr) (c0 : Nat) (l0 : List Int) (a1_0 : Int) (a1_1 : Int) (a1_2 : Int) (A1_3 : Option Addr) (c1_3 : Nat) (l1_3 : List (S38)) (w : World) (hG : Gl w) (hr0 : Kd.C (Kd.int .u8) w A0 l0.length l0) (hc0 : l0.length ≤ c0) (hr1_3 : Kd.C k38 w A1_3 l1_3.length l1_3) (hc1_3 : l1_3.length ≤ c1_3) (w0 : (l0.length ≤ 9223372036854775807 ∧ l0.length * 1 ≤ 140737488351232 ∧ ∀ z0_ ∈ l0, (Lit.int .u8 z0_).wf = true)) (w1_0 : (Lit.int .i64 a1_0).wf = true) (w1_1 : (Lit.int .i64 a1_1).wf = true) (w1_2 : (Lit.int .i64 a1_2).wf = true) (w1_3 : (l1_3.length ≤ 9223372036854775807 ∧ l1_3.length * 48 ≤ 140737488351232 ∧ ∀ z0_ ∈ l1_3, ok38 z0_)) :
  Calls Tryd.prog 3 #[.slice A0 l0.length c0, .agg #[.int .i64 a1_0, .int .i64 a1_1, .int .i64 a1_2, .slice A1_3 l1_3.length c1_3]] w fun e w' => e = .returned (.bool true) ∧ Below w.heap.size w w' := by
 obtain ⟨k, h⟩ := P l0 a1_0 a1_1 a1_2 l1_3 w0 w1_0 w1_1 w1_2 w1_3
 refine (tmesislaw10_SplitAll.calls k A0 c0 l0 a1_0 a1_1 a1_2 A1_3 c1_3 l1_3 true w hG hr0 hc0 hr1_3 hc1_3 h).mono ?_
 rintro e w' ⟨rfl, hd⟩
 exact ⟨rfl, hd⟩
end Go.Proofs.YtpkklbdclghcfaaDoor.P
