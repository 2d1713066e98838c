/- Part of the proof: what the theorem needs of this text. -/
import Derived.Test.YtklpephnbkoinaaDoorKHG
import Derived.Test.YtklpephnbkoinaaDoorKPx0
import Derived.Test.YtklpephnbkoinaaDoorKPx10
import Derived.Test.YtklpephnbkoinaaDoorKPx2
import Derived.Test.YtklpephnbkoinaaDoorKPx9
namespace Go.Proofs.YtklpephnbkoinaaDoor.P
open Go.RowKit Go.Proofs.YtklpephnbkoinaaDoorW.PrintWords Go.Proofs.YtklpephnbkoinaaDoorW.PrintLast Go.Proofs.YtklpephnbkoinaaDoorW.PrintMore
attribute [local go_sem] max2_int min2_int max_two min_two max_three min_three max_four min_four   -- for this text's walks alone
set_option linter.unusedVariables false
set_option linter.unusedSimpArgs false
def tmesislaw24_MatchAll.j0 : Nat → Bool → Option (Bool)
 | 0, _ => none
 | k + 1, x6 => some x6
def tmesislaw24_MatchAll.f (k : Nat) (l0 : List Int) (l1 : List Int) (l2_0 : List (S36)) (l2_1 : List (S36)) : Option (Bool) := (tmesislaw24_shown.f k).bind fun t286 => ((tmesislaw24_few.f l0).bind fun t287 => ((tmesislaw24_few.f l1).bind fun t290 => ((tmesislaw24_short.f l2_0).bind fun t293 => ((tmesislaw24_short.f l2_1).bind fun t296 => ((match_Keep.f k t287 t290 t293 t296).bind fun bt299 => ((tmesislaw24_short.f l2_0).bind fun t301 => ((tmesislaw24_short.f l2_1).bind fun t304 => ((tmesisref24_Keep.f k t287 t290 t301 t304).bind fun bt307 => ((split_Pieces.f k t287).bind fun t309 => ((split_Pieces.f k t290).bind fun t312 => ((match_Keep.f k t287 t290 t309 t312).bind fun bt315 => ((split_Pieces.f k t287).bind fun t317 => ((split_Pieces.f k t290).bind fun t320 => ((tmesisref24_Keep.f k t287 t290 t317 t320).bind fun bt323 => (if t286 = true then (if bt299.1 = bt307.1 then (if bt299.2 = bt307.2 then (if bt315.1 = bt323.1 then (tmesislaw24_MatchAll.j0 k (bt315.2 == bt323.2)) else (tmesislaw24_MatchAll.j0 k false)) else (tmesislaw24_MatchAll.j0 k false)) else (tmesislaw24_MatchAll.j0 k false)) else (tmesislaw24_MatchAll.j0 k false))))))))))))))))
theorem tmesislaw24_MatchAll.mono_l : ∀ k, (∀ y0, LeO (tmesislaw24_MatchAll.j0 k y0) (tmesislaw24_MatchAll.j0 (k + 1) y0))
 | 0 => fun _ r h => by simp [tmesislaw24_MatchAll.j0] at h
 | k + 1 => by
  have ih0 := tmesislaw24_MatchAll.mono_l k
  ·intro y0
   unfold tmesislaw24_MatchAll.j0
   repeat' with_reducible first | exact ih0 _ | exact match_Keep.mono _ _ _ _ _ | exact split_Pieces.mono _ _ | exact tmesislaw24_shown.mono _ | exact tmesisref24_Keep.mono _ _ _ _ _ | exact LeO.refl _ | exact LeO.none _ | refine LeO.ite ?_ ?_ | refine LeO.bind ?_ (fun _ => ?_)
theorem tmesislaw24_MatchAll.mono : ∀ a0 a1 a2 a3 k, LeO (tmesislaw24_MatchAll.f k a0 a1 a2 a3) (tmesislaw24_MatchAll.f (k + 1) a0 a1 a2 a3) := by
 intro a0 a1 a2 a3 k
 have ih0 := tmesislaw24_MatchAll.mono_l k
 unfold tmesislaw24_MatchAll.f
 repeat' with_reducible first | exact ih0 _ | exact match_Keep.mono _ _ _ _ _ | exact split_Pieces.mono _ _ | exact tmesislaw24_shown.mono _ | exact tmesisref24_Keep.mono _ _ _ _ _ | exact LeO.refl _ | exact LeO.none _ | refine LeO.ite ?_ ?_ | refine LeO.bind ?_ (fun _ => ?_)
def tmesislaw24_MatchAll.T4 : Bool × List (List Nat × List Nat) := (true, [([], []), ([], []), ([], []), ([2], [2]), ([3], [3]), ([], []), ([5], [5]), ([6, 4], [6]), ([0, 1, 4, 7, 7], [0, 1, 4, 7]), ([8], [8]), ([9], [9]), ([9], [9]), ([10, 8, 0, 1, 2, 3, 4, 5, 6, 7, 8, 9, 10], [10]), ([11, 12, 0, 1, 2, 3, 4, 5, 6, 7, 8, 9, 10, 11, 12], [11])])
def tmesislaw24_MatchAll.B4 : List Nat := [0, 0, 0, 4, 12, 0, 32, 124, 255, 511, 1023, 1023, 2047, 8191]
theorem tmesislaw24_MatchAll.tab4 : rtab .any (opsOf Tryd.f3 4) = tmesislaw24_MatchAll.T4 := by kernel_rfl
theorem tmesislaw24_MatchAll.bits4 : waitsOk tmesislaw24_MatchAll.T4.2 tmesislaw24_MatchAll.B4 = true := by kernel_rfl
def tmesislaw24_MatchAll.T5 : Bool × List (List Nat × List Nat) := (true, [([], []), ([], []), ([], []), ([2], [2]), ([3], [3]), ([], []), ([5], [5]), ([6, 4], [6]), ([0, 1, 4, 7, 7], [0, 1, 4, 7]), ([8], [8]), ([9], [9]), ([9], [9]), ([10, 8, 0, 1, 2, 3, 4, 5, 6, 7, 8, 9, 10], [10]), ([11, 12, 0, 1, 2, 3, 4, 5, 6, 7, 8, 9, 10, 11, 12], [11])])
def tmesislaw24_MatchAll.B5 : List Nat := [0, 0, 0, 4, 12, 0, 32, 124, 255, 511, 1023, 1023, 2047, 8191]
theorem tmesislaw24_MatchAll.tab5 : rtab .any (opsOf Tryd.f3 5) = tmesislaw24_MatchAll.T5 := by kernel_rfl
theorem tmesislaw24_MatchAll.bits5 : waitsOk tmesislaw24_MatchAll.T5.2 tmesislaw24_MatchAll.B5 = true := by kernel_rfl
set_option maxHeartbeats 8000000 in
set_option maxRecDepth 100000 in
theorem tmesislaw24_MatchAll.calls (k : Nat) (A0 : Option Addr) (c0 : Nat) (l0 : List Int) (A1 : Option Addr) (c1 : Nat) (l1 : List Int) (A2_0 : Option Addr) (c2_0 : Nat) (l2_0 : List (S36)) (A2_1 : Option Addr) (c2_1 : Nat) (l2_1 : List (S36)) (r : Bool) (w : World) (hG : Gl w) (hr0 : Kd.C (Kd.int .u8) w A0 l0.length l0) (hc0 : l0.length ≤ c0) (hr1 : Kd.C (Kd.int .u8) w A1 l1.length l1) (hc1 : l1.length ≤ c1) (hr2_0 : Kd.C k36 w A2_0 l2_0.length l2_0) (hc2_0 : l2_0.length ≤ c2_0) (hr2_1 : Kd.C k36 w A2_1 l2_1.length l2_1) (hc2_1 : l2_1.length ≤ c2_1) (h : tmesislaw24_MatchAll.f k l0 l1 l2_0 l2_1 = some r) :
  Calls Tryd.prog 3 #[.slice A0 l0.length c0, .slice A1 l1.length c1, .agg #[.slice A2_0 l2_0.length c2_0, .slice A2_1 l2_1.length c2_1]] w fun e w' => e = .returned (.bool r) ∧ Below w.heap.size w w' := by
 have hu24 := Tryd.underlying24
 have HR0 := Aside0.mk hr0
 have HC0 := Aside0.mk hc0
 clear hr0 hc0
 have HR1 := Aside0.mk hr1
 have HC1 := Aside0.mk hc1
 clear hr1 hc1
 have HR2_0 := Aside0.mk hr2_0
 have HC2_0 := Aside0.mk hc2_0
 clear hr2_0 hc2_0
 have HR2_1 := Aside0.mk hr2_1
 have HC2_1 := Aside0.mk hc2_1
 clear hr2_1 hc2_1
 have HB := Aside0.mk (Below.refl w.heap.size w)
 have HG := Aside0.mk hG
 clear hG
 have H : ((tmesislaw24_shown.f k).bind fun t286 => ((tmesislaw24_few.f l0).bind fun t287 => ((tmesislaw24_few.f l1).bind fun t290 => ((tmesislaw24_short.f l2_0).bind fun t293 => ((tmesislaw24_short.f l2_1).bind fun t296 => ((match_Keep.f k t287 t290 t293 t296).bind fun bt299 => ((tmesislaw24_short.f l2_0).bind fun t301 => ((tmesislaw24_short.f l2_1).bind fun t304 => ((tmesisref24_Keep.f k t287 t290 t301 t304).bind fun bt307 => ((split_Pieces.f k t287).bind fun t309 => ((split_Pieces.f k t290).bind fun t312 => ((match_Keep.f k t287 t290 t309 t312).bind fun bt315 => ((split_Pieces.f k t287).bind fun t317 => ((split_Pieces.f k t290).bind fun t320 => ((tmesisref24_Keep.f k t287 t290 t317 t320).bind fun bt323 => (if t286 = true then (if bt299.1 = bt307.1 then (if bt299.2 = bt307.2 then (if bt315.1 = bt323.1 then (tmesislaw24_MatchAll.j0 k (bt315.2 == bt323.2)) else (tmesislaw24_MatchAll.j0 k false)) else (tmesislaw24_MatchAll.j0 k false)) else (tmesislaw24_MatchAll.j0 k false)) else (tmesislaw24_MatchAll.j0 k false))))))))))))))))) = some r := h
 clear h
 obtain ⟨t286, A4, H⟩ := bE H
 obtain ⟨t287, A5, H⟩ := bE H
 obtain ⟨t290, A6, H⟩ := bE H
 obtain ⟨t293, A7, H⟩ := bE H
 obtain ⟨t296, A8, H⟩ := bE H
 obtain ⟨⟨t299, t300⟩, A9, H⟩ := bE H
 replace H : ((tmesislaw24_short.f l2_0).bind fun t301 => ((tmesislaw24_short.f l2_1).bind fun t304 => ((tmesisref24_Keep.f k t287 t290 t301 t304).bind fun bt307 => ((split_Pieces.f k t287).bind fun t309 => ((split_Pieces.f k t290).bind fun t312 => ((match_Keep.f k t287 t290 t309 t312).bind fun bt315 => ((split_Pieces.f k t287).bind fun t317 => ((split_Pieces.f k t290).bind fun t320 => ((tmesisref24_Keep.f k t287 t290 t317 t320).bind fun bt323 => (if t286 = true then (if t299 = bt307.1 then (if t300 = bt307.2 then (if bt315.1 = bt323.1 then (tmesislaw24_MatchAll.j0 k (bt315.2 == bt323.2)) else (tmesislaw24_MatchAll.j0 k false)) else (tmesislaw24_MatchAll.j0 k false)) else (tmesislaw24_MatchAll.j0 k false)) else (tmesislaw24_MatchAll.j0 k false))))))))))) = some r := H
 obtain ⟨t301, A10, H⟩ := bE H
 obtain ⟨t304, A11, H⟩ := bE H
 obtain ⟨⟨t307, t308⟩, A12, H⟩ := bE H
 replace H : ((split_Pieces.f k t287).bind fun t309 => ((split_Pieces.f k t290).bind fun t312 => ((match_Keep.f k t287 t290 t309 t312).bind fun bt315 => ((split_Pieces.f k t287).bind fun t317 => ((split_Pieces.f k t290).bind fun t320 => ((tmesisref24_Keep.f k t287 t290 t317 t320).bind fun bt323 => (if t286 = true then (if t299 = t307 then (if t300 = t308 then (if bt315.1 = bt323.1 then (tmesislaw24_MatchAll.j0 k (bt315.2 == bt323.2)) else (tmesislaw24_MatchAll.j0 k false)) else (tmesislaw24_MatchAll.j0 k false)) else (tmesislaw24_MatchAll.j0 k false)) else (tmesislaw24_MatchAll.j0 k false)))))))) = some r := H
 obtain ⟨t309, A13, H⟩ := bE H
 obtain ⟨t312, A14, H⟩ := bE H
 obtain ⟨⟨t315, t316⟩, A15, H⟩ := bE H
 replace H : ((split_Pieces.f k t287).bind fun t317 => ((split_Pieces.f k t290).bind fun t320 => ((tmesisref24_Keep.f k t287 t290 t317 t320).bind fun bt323 => (if t286 = true then (if t299 = t307 then (if t300 = t308 then (if t315 = bt323.1 then (tmesislaw24_MatchAll.j0 k (t316 == bt323.2)) else (tmesislaw24_MatchAll.j0 k false)) else (tmesislaw24_MatchAll.j0 k false)) else (tmesislaw24_MatchAll.j0 k false)) else (tmesislaw24_MatchAll.j0 k false))))) = some r := H
 obtain ⟨t317, A16, H⟩ := bE H
 obtain ⟨t320, A17, H⟩ := bE H
 obtain ⟨⟨t323, t324⟩, A18, H⟩ := bE H
 replace H : (if t286 = true then (if t299 = t307 then (if t300 = t308 then (if t315 = t323 then (tmesislaw24_MatchAll.j0 k (t316 == t324)) else (tmesislaw24_MatchAll.j0 k false)) else (tmesislaw24_MatchAll.j0 k false)) else (tmesislaw24_MatchAll.j0 k false)) else (tmesislaw24_MatchAll.j0 k false)) = some r := H
 have HC19 := Aside0.mk H
 clear H
 go_enter Tryd.func3, Tryd.ntmps3
 try go_wp2_with (first | ((with_reducible refine gate_dst (N := 5) rfl ?_); refine box_event ?hg (N := 5) ?hd (cs := #[.slice A2_0 l2_0.length c2_0, .slice A2_1 l2_1.length c2_1]) (t := 24) ?hr ?_; (case hd => rfl); (case hg => rfl); (case hr => first | (go_simp; done) | (go_simp; rfl)); intro gb285 hg w20 hbox hb; have BK285 := Aside0.mk (hbox); have GW285 := Aside0.mk (gE (g := gb285) hg HB.out); have GE285 := Aside0.mk (gE (g := gb285) hg HB.out); replace HB := Aside0.mk (below_step (bAt HB.out) hb); clear hb hbox hg) | ((with_reducible refine gate_callee (f := 6) rfl ?_); refine gL (some 18) Tryd.func6 #[] rfl gA ?_; (with_reducible refine (tmesislaw24_shown.calls k  t286 _ ?side1 A4.out).mono ?_); (case side1 => exact Gl.below HG.out (bAt HB.out)); rintro e w21 ⟨rfl, hb⟩; refine ⟨_, rfl, ?_⟩; replace BK285 := Aside0.mk (blk_below (g := gb285) (o := .cells #[.slice A2_0 l2_0.length c2_0, .slice A2_1 l2_1.length c2_1] 24 (0, 0)) (kAt BK285.out) hb); replace HB := Aside0.mk (below_step (bAt HB.out) hb); (try clear hb); (try clear hb2); (try clear hk); (try clear hi)) | ((with_reducible refine gate_callee (f := 7) rfl ?_); refine gL (some 20) Tryd.func7 #[.slice A0 l0.length c0] rfl gA ?_; (with_reducible refine (tmesislaw24_few.calls (fun k_ => k_ < w.heap.size) _ _ l0 t287 _ ?side1 A5.out).mono ?_); (case side1 => exact Kd.V_mk HC0.out (Kd.F_below (Kd.C_F (Kd.heap_int .u8) HR0.out) (bAt HB.out))); rintro e w22 ⟨v288, rfl, ho0, hb⟩; refine ⟨_, rfl, ?_⟩; have HO289 := Aside0.mk (Kd.V_lower (Kd.V_mono (ok' := fun k_ => k_ ≠ gb285) ho0 (fun k_ hk_ => Or.elim hk_ (fun hs_ => fun e_ => Nat.not_le.2 hs_ (by rw [e_]; exact GW285.out)) (fun hn_ => (Kd.freshB (g := gb285) (o := .cells #[.slice A2_0 l2_0.length c2_0, .slice A2_1 l2_1.length c2_1] 24 (0, 0)) (kAt BK285.out) k_ hn_)))) (below_size (bAt HB.out))); replace BK285 := Aside0.mk (blk_below (g := gb285) (o := .cells #[.slice A2_0 l2_0.length c2_0, .slice A2_1 l2_1.length c2_1] 24 (0, 0)) (kAt BK285.out) hb); replace HB := Aside0.mk (below_step (bAt HB.out) hb); (try clear hb); (try clear hb2); (try clear hk); (try clear hi); (try clear ho0)) | ((with_reducible refine gate_callee (f := 7) rfl ?_); refine gL (some 22) Tryd.func7 #[.slice A1 l1.length c1] rfl gA ?_; (with_reducible refine (tmesislaw24_few.calls (fun k_ => k_ < w.heap.size) _ _ l1 t290 _ ?side1 A6.out).mono ?_); (case side1 => exact Kd.V_mk HC1.out (Kd.F_below (Kd.C_F (Kd.heap_int .u8) HR1.out) (bAt HB.out))); rintro e w23 ⟨v291, rfl, ho0, hb⟩; refine ⟨_, rfl, ?_⟩; replace HO289 := Aside0.mk (Kd.V_below (VAt HO289.out) hb); have HO292 := Aside0.mk (Kd.V_lower (Kd.V_mono (ok' := fun k_ => k_ ≠ gb285) ho0 (fun k_ hk_ => Or.elim hk_ (fun hs_ => fun e_ => Nat.not_le.2 hs_ (by rw [e_]; exact GW285.out)) (fun hn_ => (Kd.freshB (g := gb285) (o := .cells #[.slice A2_0 l2_0.length c2_0, .slice A2_1 l2_1.length c2_1] 24 (0, 0)) (kAt BK285.out) k_ hn_)))) (below_size (bAt HB.out))); replace BK285 := Aside0.mk (blk_below (g := gb285) (o := .cells #[.slice A2_0 l2_0.length c2_0, .slice A2_1 l2_1.length c2_1] 24 (0, 0)) (kAt BK285.out) hb); replace HB := Aside0.mk (below_step (bAt HB.out) hb); (try clear hb); (try clear hb2); (try clear hk); (try clear hi); (try clear ho0)))
 replace HO289 := Aside0.mk (Kd.V_drew HO289.out)
 replace HO292 := Aside0.mk (Kd.V_drew HO292.out)
 replace BK285 := Aside0.mk (blk_drew BK285.out)
 replace HB := Aside0.mk (below_drew1 HB.out)
 refine start_ (n := 14) (S := fun w' => w'.cell? ⟨gb285, 0, none⟩ = some (.slice A2_0 l2_0.length c2_0) ∧ w'.cell? ⟨gb285, 1, none⟩ = some (.slice A2_1 l2_1.length c2_1)) (ds := []) (bm 14 0) (by kernel_rfl) rfl rfl ⟨(blk_cell BK285.out 0).trans rfl, (blk_cell BK285.out 1).trans rfl⟩ (fun hHeld => ?_); refine with_tabW tmesislaw24_MatchAll.tab4 tmesislaw24_MatchAll.bits4 (fun HT_ HW_ => ?_)
 generalize w23.drew = w24 at HO289 HO292 BK285 HB hHeld ⊢
 refine pv_ 0 (some 24) (bm 14 1) HT_.out ?_
 refine pv_ 1 (some 25) (bm 14 3) HT_.out ?_
 refine pv_ 2 (some 26) (bm 14 7) HT_.out ?_
 refine pv_ 5 (some 29) (bm 14 39) HT_.out ?_
 refine tk_ 3 (some 27) (bm 14 47) HT_.out HW_.out hHeld ?_
 refine tk_ 6 (some 30) (bm 14 111) HT_.out HW_.out hHeld ?_
 refine one_ (i := 4) (N := some 28) (bm 14 127) rfl rfl (one_of HT_.out (by kernel_rfl)) (by decide) (fun K hK => ?_)
 refine goes_ Tryd.func9 (by kernel_rfl) rfl #[.slice A2_0 l2_0.length c2_0] (by rfl) rfl rfl gA ?_
 with_reducible refine (tmesislaw24_short.calls (fun k_ => k_ < w.heap.size) _ _ l2_0 t293 _ ?side1 A7.out).mono ?_
 (case side1 => exact Kd.V_mk HC2_0.out (Kd.F_below (Kd.C_F k36_heap HR2_0.out) (bAt HB.out)))
 rintro e w25 ⟨v294, rfl, ho0, hb⟩
 refine ⟨_, rfl, ?_⟩
 replace HO289 := Aside0.mk (Kd.V_below (VAt HO289.out) hb)
 replace HO292 := Aside0.mk (Kd.V_below (VAt HO292.out) hb)
 have HO295 := Aside0.mk (Kd.V_lower (Kd.V_mono (ok' := fun k_ => k_ ≠ gb285) ho0 (fun k_ hk_ => Or.elim hk_ (fun hs_ => fun e_ => Nat.not_le.2 hs_ (by rw [e_]; exact GW285.out)) (fun hn_ => (Kd.freshB (g := gb285) (o := .cells #[.slice A2_0 l2_0.length c2_0, .slice A2_1 l2_1.length c2_1] 24 (0, 0)) (kAt BK285.out) k_ hn_)))) (below_size (bAt HB.out)))
 replace BK285 := Aside0.mk (blk_below (g := gb285) (o := .cells #[.slice A2_0 l2_0.length c2_0, .slice A2_1 l2_1.length c2_1] 24 (0, 0)) (kAt BK285.out) hb)
 replace HB := Aside0.mk (below_step (bAt HB.out) hb)
 (try clear hb)
 (try clear hb2)
 (try clear hk)
 (try clear hi)
 (try clear ho0)
 refine hK.out _ _ ⟨(blk_cell BK285.out 0).trans rfl, (blk_cell BK285.out 1).trans rfl⟩ (fun hHeld => ?_)
 clear hK K
 refine norm_ (a' := ?_) ?_ ?_
 rotate_left
 ·show Act.put _ (some 28) _ = _
  simp only [Act.put, List.setIfInBounds_toArray, List.set_cons_zero, List.set_cons_succ, i64_w, i32_w]
  rfl
 refine one_ (i := 7) (N := some 31) (bm 14 255) rfl rfl (one_of HT_.out (by kernel_rfl)) (by decide) (fun K hK => ?_)
 refine goes_ Tryd.func9 (by kernel_rfl) rfl #[.slice A2_1 l2_1.length c2_1] (by rfl) rfl rfl gA ?_
 with_reducible refine (tmesislaw24_short.calls (fun k_ => k_ < w.heap.size) _ _ l2_1 t296 _ ?side1 A8.out).mono ?_
 (case side1 => exact Kd.V_mk HC2_1.out (Kd.F_below (Kd.C_F k36_heap HR2_1.out) (bAt HB.out)))
 rintro e w26 ⟨v297, rfl, ho0, hb⟩
 refine ⟨_, rfl, ?_⟩
 replace HO289 := Aside0.mk (Kd.V_below (VAt HO289.out) hb)
 replace HO292 := Aside0.mk (Kd.V_below (VAt HO292.out) hb)
 replace HO295 := Aside0.mk (Kd.V_below (VAt HO295.out) hb)
 have HO298 := Aside0.mk (Kd.V_lower (Kd.V_mono (ok' := fun k_ => k_ ≠ gb285) ho0 (fun k_ hk_ => Or.elim hk_ (fun hs_ => fun e_ => Nat.not_le.2 hs_ (by rw [e_]; exact GW285.out)) (fun hn_ => (Kd.freshB (g := gb285) (o := .cells #[.slice A2_0 l2_0.length c2_0, .slice A2_1 l2_1.length c2_1] 24 (0, 0)) (kAt BK285.out) k_ hn_)))) (below_size (bAt HB.out)))
 replace BK285 := Aside0.mk (blk_below (g := gb285) (o := .cells #[.slice A2_0 l2_0.length c2_0, .slice A2_1 l2_1.length c2_1] 24 (0, 0)) (kAt BK285.out) hb)
 replace HB := Aside0.mk (below_step (bAt HB.out) hb)
 (try clear hb)
 (try clear hb2)
 (try clear hk)
 (try clear hi)
 (try clear ho0)
 obtain ⟨Ao27, co27, eo27⟩ := Kd.V_slice HO289.out
 (first | subst eo27 | (injection eo27 with f1_ f2_ f3_; have f4_ := f1_.symm; have f5_ := f3_.symm; clear f1_ f2_ f3_; subst f4_; subst f5_))
 obtain ⟨Ao28, co28, eo28⟩ := Kd.V_slice HO292.out
 (first | subst eo28 | (injection eo28 with f1_ f2_ f3_; have f4_ := f1_.symm; have f5_ := f3_.symm; clear f1_ f2_ f3_; subst f4_; subst f5_))
 obtain ⟨Ao29, co29, eo29⟩ := Kd.V_slice HO295.out
 (first | subst eo29 | (injection eo29 with f1_ f2_ f3_; have f4_ := f1_.symm; have f5_ := f3_.symm; clear f1_ f2_ f3_; subst f4_; subst f5_))
 obtain ⟨Ao30, co30, eo30⟩ := Kd.V_slice HO298.out
 (first | subst eo30 | (injection eo30 with f1_ f2_ f3_; have f4_ := f1_.symm; have f5_ := f3_.symm; clear f1_ f2_ f3_; subst f4_; subst f5_))
 refine hK.out _ _ ⟨(blk_cell BK285.out 0).trans rfl, (blk_cell BK285.out 1).trans rfl⟩ (fun hHeld => ?_)
 clear hK K
 refine norm_ (a' := ?_) ?_ ?_
 rotate_left
 ·show Act.put _ (some 31) _ = _
  simp only [Act.put, List.setIfInBounds_toArray, List.set_cons_zero, List.set_cons_succ, i64_w, i32_w]
  rfl
 refine one_ (i := 8) (N := some 32) (bm 14 511) rfl rfl (one_of HT_.out (by kernel_rfl)) (by decide) (fun K hK => ?_)
 refine goes_ Tryd.func8 (by kernel_rfl) rfl #[.slice Ao27 t287.length co27, .slice Ao28 t290.length co28, .slice Ao29 t293.length co29, .slice Ao30 t296.length co30] (by rfl) rfl rfl gA ?_
 with_reducible refine (match_Keep.calls k _ _ t287 _ _ t290 _ _ t293 _ _ t296 t299 t300 _ ?side1 ?side2 ?side3 ?side4 ?side5 ?side6 ?side7 ?side8 A9.out).mono ?_
 (case side1 => exact CAt ((Kd.V_reads' HO289.out).2.2))
 (case side2 => exact (Kd.V_reads' HO289.out).2.1)
 (case side3 => exact CAt ((Kd.V_reads' HO292.out).2.2))
 (case side4 => exact (Kd.V_reads' HO292.out).2.1)
 (case side5 => exact CAt ((Kd.V_reads' HO295.out).2.2))
 (case side6 => exact (Kd.V_reads' HO295.out).2.1)
 (case side7 => exact CAt ((Kd.V_reads' HO298.out).2.2))
 (case side8 => exact (Kd.V_reads' HO298.out).2.1)
 rintro e w31 ⟨rfl, hb⟩
 refine ⟨_, rfl, ?_⟩
 replace HO289 := Aside0.mk (Kd.V_below (VAt HO289.out) hb)
 replace HO292 := Aside0.mk (Kd.V_below (VAt HO292.out) hb)
 replace HO295 := Aside0.mk (Kd.V_below (VAt HO295.out) hb)
 replace HO298 := Aside0.mk (Kd.V_below (VAt HO298.out) hb)
 replace BK285 := Aside0.mk (blk_below (g := gb285) (o := .cells #[.slice A2_0 l2_0.length c2_0, .slice A2_1 l2_1.length c2_1] 24 (0, 0)) (kAt BK285.out) hb)
 replace HB := Aside0.mk (below_step (bAt HB.out) hb)
 (try clear hb)
 (try clear hb2)
 (try clear hk)
 (try clear hi)
 refine hK.out _ _ ⟨(blk_cell BK285.out 0).trans rfl, (blk_cell BK285.out 1).trans rfl⟩ (fun hHeld => ?_)
 clear hK K
 refine norm_ (a' := ?_) ?_ ?_
 rotate_left
 ·show Act.put _ (some 32) _ = _
  simp only [Act.put, List.setIfInBounds_toArray, List.set_cons_zero, List.set_cons_succ, i64_w, i32_w]
  rfl
 refine pv_ 9 (some 23) (bm 14 1023) HT_.out ?_
 refine pv_ 10 (some 33) (bm 14 2047) HT_.out ?_
 refine pv_ 11 (some 34) (bm 14 4095) HT_.out ?_
 refine pv_ 12 (some 10) (bm 14 8191) HT_.out ?_
 refine pv_ 13 (some 11) (bm 14 16383) HT_.out ?_
 refine done_ (done_of HT_.out (by kernel_rfl)) ?_
 try go_wp2
 replace HO289 := Aside0.mk (Kd.V_drew HO289.out)
 replace HO292 := Aside0.mk (Kd.V_drew HO292.out)
 replace HO295 := Aside0.mk (Kd.V_drew HO295.out)
 replace HO298 := Aside0.mk (Kd.V_drew HO298.out)
 replace BK285 := Aside0.mk (blk_drew BK285.out)
 replace HB := Aside0.mk (below_drew1 HB.out)
 refine start_ (n := 14) (S := fun w' => w'.cell? ⟨gb285, 0, none⟩ = some (.slice A2_0 l2_0.length c2_0) ∧ w'.cell? ⟨gb285, 1, none⟩ = some (.slice A2_1 l2_1.length c2_1)) (ds := []) (bm 14 0) (by kernel_rfl) rfl rfl ⟨(blk_cell BK285.out 0).trans rfl, (blk_cell BK285.out 1).trans rfl⟩ (fun hHeld => ?_); refine with_tabW tmesislaw24_MatchAll.tab5 tmesislaw24_MatchAll.bits5 (fun HT_ HW_ => ?_)
 generalize w31.drew = w32 at HO289 HO292 HO295 HO298 BK285 HB hHeld ⊢
 refine pv_ 0 (some 36) (bm 14 1) HT_.out ?_
 refine pv_ 1 (some 37) (bm 14 3) HT_.out ?_
 refine pv_ 2 (some 38) (bm 14 7) HT_.out ?_
 refine pv_ 5 (some 41) (bm 14 39) HT_.out ?_
 refine tk_ 3 (some 39) (bm 14 47) HT_.out HW_.out hHeld ?_
 refine tk_ 6 (some 42) (bm 14 111) HT_.out HW_.out hHeld ?_
 refine one_ (i := 4) (N := some 40) (bm 14 127) rfl rfl (one_of HT_.out (by kernel_rfl)) (by decide) (fun K hK => ?_)
 refine goes_ Tryd.func9 (by kernel_rfl) rfl #[.slice A2_0 l2_0.length c2_0] (by rfl) rfl rfl gA ?_
 with_reducible refine (tmesislaw24_short.calls (fun k_ => k_ < w.heap.size) _ _ l2_0 t301 _ ?side1 A10.out).mono ?_
 (case side1 => exact Kd.V_mk HC2_0.out (Kd.F_below (Kd.C_F k36_heap HR2_0.out) (bAt HB.out)))
 rintro e w33 ⟨v302, rfl, ho0, hb⟩
 refine ⟨_, rfl, ?_⟩
 replace HO289 := Aside0.mk (Kd.V_below (VAt HO289.out) hb)
 replace HO292 := Aside0.mk (Kd.V_below (VAt HO292.out) hb)
 replace HO295 := Aside0.mk (Kd.V_below (VAt HO295.out) hb)
 replace HO298 := Aside0.mk (Kd.V_below (VAt HO298.out) hb)
 have HO303 := Aside0.mk (Kd.V_lower (Kd.V_mono (ok' := fun k_ => k_ ≠ gb285) ho0 (fun k_ hk_ => Or.elim hk_ (fun hs_ => fun e_ => Nat.not_le.2 hs_ (by rw [e_]; exact GW285.out)) (fun hn_ => (Kd.freshB (g := gb285) (o := .cells #[.slice A2_0 l2_0.length c2_0, .slice A2_1 l2_1.length c2_1] 24 (0, 0)) (kAt BK285.out) k_ hn_)))) (below_size (bAt HB.out)))
 replace BK285 := Aside0.mk (blk_below (g := gb285) (o := .cells #[.slice A2_0 l2_0.length c2_0, .slice A2_1 l2_1.length c2_1] 24 (0, 0)) (kAt BK285.out) hb)
 replace HB := Aside0.mk (below_step (bAt HB.out) hb)
 (try clear hb)
 (try clear hb2)
 (try clear hk)
 (try clear hi)
 (try clear ho0)
 refine hK.out _ _ ⟨(blk_cell BK285.out 0).trans rfl, (blk_cell BK285.out 1).trans rfl⟩ (fun hHeld => ?_)
 clear hK K
 refine norm_ (a' := ?_) ?_ ?_
 rotate_left
 ·show Act.put _ (some 40) _ = _
  simp only [Act.put, List.setIfInBounds_toArray, List.set_cons_zero, List.set_cons_succ, i64_w, i32_w]
  rfl
 refine one_ (i := 7) (N := some 43) (bm 14 255) rfl rfl (one_of HT_.out (by kernel_rfl)) (by decide) (fun K hK => ?_)
 refine goes_ Tryd.func9 (by kernel_rfl) rfl #[.slice A2_1 l2_1.length c2_1] (by rfl) rfl rfl gA ?_
 with_reducible refine (tmesislaw24_short.calls (fun k_ => k_ < w.heap.size) _ _ l2_1 t304 _ ?side1 A11.out).mono ?_
 (case side1 => exact Kd.V_mk HC2_1.out (Kd.F_below (Kd.C_F k36_heap HR2_1.out) (bAt HB.out)))
 rintro e w34 ⟨v305, rfl, ho0, hb⟩
 refine ⟨_, rfl, ?_⟩
 replace HO289 := Aside0.mk (Kd.V_below (VAt HO289.out) hb)
 replace HO292 := Aside0.mk (Kd.V_below (VAt HO292.out) hb)
 replace HO295 := Aside0.mk (Kd.V_below (VAt HO295.out) hb)
 replace HO298 := Aside0.mk (Kd.V_below (VAt HO298.out) hb)
 replace HO303 := Aside0.mk (Kd.V_below (VAt HO303.out) hb)
 have HO306 := Aside0.mk (Kd.V_lower (Kd.V_mono (ok' := fun k_ => k_ ≠ gb285) ho0 (fun k_ hk_ => Or.elim hk_ (fun hs_ => fun e_ => Nat.not_le.2 hs_ (by rw [e_]; exact GW285.out)) (fun hn_ => (Kd.freshB (g := gb285) (o := .cells #[.slice A2_0 l2_0.length c2_0, .slice A2_1 l2_1.length c2_1] 24 (0, 0)) (kAt BK285.out) k_ hn_)))) (below_size (bAt HB.out)))
 replace BK285 := Aside0.mk (blk_below (g := gb285) (o := .cells #[.slice A2_0 l2_0.length c2_0, .slice A2_1 l2_1.length c2_1] 24 (0, 0)) (kAt BK285.out) hb)
 replace HB := Aside0.mk (below_step (bAt HB.out) hb)
 (try clear hb)
 (try clear hb2)
 (try clear hk)
 (try clear hi)
 (try clear ho0)
 obtain ⟨Ao35, co35, eo35⟩ := Kd.V_slice HO303.out
 (first | subst eo35 | (injection eo35 with f1_ f2_ f3_; have f4_ := f1_.symm; have f5_ := f3_.symm; clear f1_ f2_ f3_; subst f4_; subst f5_))
 obtain ⟨Ao36, co36, eo36⟩ := Kd.V_slice HO306.out
 (first | subst eo36 | (injection eo36 with f1_ f2_ f3_; have f4_ := f1_.symm; have f5_ := f3_.symm; clear f1_ f2_ f3_; subst f4_; subst f5_))
 refine hK.out _ _ ⟨(blk_cell BK285.out 0).trans rfl, (blk_cell BK285.out 1).trans rfl⟩ (fun hHeld => ?_)
 clear hK K
 refine norm_ (a' := ?_) ?_ ?_
 rotate_left
 ·show Act.put _ (some 43) _ = _
  simp only [Act.put, List.setIfInBounds_toArray, List.set_cons_zero, List.set_cons_succ, i64_w, i32_w]
  rfl
 refine one_ (i := 8) (N := some 44) (bm 14 511) rfl rfl (one_of HT_.out (by kernel_rfl)) (by decide) (fun K hK => ?_)
 refine goes_ Tryd.func10 (by kernel_rfl) rfl #[.slice Ao27 t287.length co27, .slice Ao28 t290.length co28, .slice Ao35 t301.length co35, .slice Ao36 t304.length co36] (by rfl) rfl rfl gA ?_
 with_reducible refine (tmesisref24_Keep.calls k _ _ t287 _ _ t290 _ _ t301 _ _ t304 t307 t308 _ ?side1 ?side2 ?side3 ?side4 ?side5 ?side6 ?side7 ?side8 A12.out).mono ?_
 (case side1 => exact CAt ((Kd.V_reads' HO289.out).2.2))
 (case side2 => exact (Kd.V_reads' HO289.out).2.1)
 (case side3 => exact CAt ((Kd.V_reads' HO292.out).2.2))
 (case side4 => exact (Kd.V_reads' HO292.out).2.1)
 (case side5 => exact CAt ((Kd.V_reads' HO303.out).2.2))
 (case side6 => exact (Kd.V_reads' HO303.out).2.1)
 (case side7 => exact CAt ((Kd.V_reads' HO306.out).2.2))
 (case side8 => exact (Kd.V_reads' HO306.out).2.1)
 rintro e w37 ⟨rfl, hb⟩
 refine ⟨_, rfl, ?_⟩
 replace HO289 := Aside0.mk (Kd.V_below (VAt HO289.out) hb)
 replace HO292 := Aside0.mk (Kd.V_below (VAt HO292.out) hb)
 replace HO295 := Aside0.mk (Kd.V_below (VAt HO295.out) hb)
 replace HO298 := Aside0.mk (Kd.V_below (VAt HO298.out) hb)
 replace HO303 := Aside0.mk (Kd.V_below (VAt HO303.out) hb)
 replace HO306 := Aside0.mk (Kd.V_below (VAt HO306.out) hb)
 replace BK285 := Aside0.mk (blk_below (g := gb285) (o := .cells #[.slice A2_0 l2_0.length c2_0, .slice A2_1 l2_1.length c2_1] 24 (0, 0)) (kAt BK285.out) hb)
 replace HB := Aside0.mk (below_step (bAt HB.out) hb)
 (try clear hb)
 (try clear hb2)
 (try clear hk)
 (try clear hi)
 refine hK.out _ _ ⟨(blk_cell BK285.out 0).trans rfl, (blk_cell BK285.out 1).trans rfl⟩ (fun hHeld => ?_)
 clear hK K
 refine norm_ (a' := ?_) ?_ ?_
 rotate_left
 ·show Act.put _ (some 44) _ = _
  simp only [Act.put, List.setIfInBounds_toArray, List.set_cons_zero, List.set_cons_succ, i64_w, i32_w]
  rfl
 refine pv_ 9 (some 35) (bm 14 1023) HT_.out ?_
 refine pv_ 10 (some 45) (bm 14 2047) HT_.out ?_
 refine pv_ 11 (some 46) (bm 14 4095) HT_.out ?_
 refine pv_ 12 (some 12) (bm 14 8191) HT_.out ?_
 refine pv_ 13 (some 13) (bm 14 16383) HT_.out ?_
 refine done_ (done_of HT_.out (by kernel_rfl)) ?_
 go_upto_region 8 with (first | ((with_reducible refine gate_callee (f := 11) rfl ?_); refine gL (some 51) Tryd.func11 #[.slice Ao27 t287.length co27] rfl gA ?_; (with_reducible refine (split_Pieces.calls k _ _ t287 t309 _ ?side1 ?side2 ?side3 A13.out).mono ?_); (case side1 => exact Gl.below HG.out (bAt HB.out)); (case side2 => exact CAt ((Kd.V_reads' HO289.out).2.2)); (case side3 => exact (Kd.V_reads' HO289.out).2.1); rintro e w38 ⟨v310, rfl, ho0, hb⟩; refine ⟨_, rfl, ?_⟩; replace HO289 := Aside0.mk (Kd.V_elder' (VAt HO289.out) (Kd.N_base ho0) hb); replace HO292 := Aside0.mk (Kd.V_elder' (VAt HO292.out) (Kd.N_base ho0) hb); replace HO295 := Aside0.mk (Kd.V_elder' (VAt HO295.out) (Kd.N_base ho0) hb); replace HO298 := Aside0.mk (Kd.V_elder' (VAt HO298.out) (Kd.N_base ho0) hb); replace HO303 := Aside0.mk (Kd.V_elder' (VAt HO303.out) (Kd.N_base ho0) hb); replace HO306 := Aside0.mk (Kd.V_elder' (VAt HO306.out) (Kd.N_base ho0) hb); have HO311 := Aside0.mk (Kd.N_lower (Kd.N_mono (ok' := fun k_ => k_ ≠ gb285) ho0 (fun k_ hk_ => (Kd.freshB (g := gb285) (o := .cells #[.slice A2_0 l2_0.length c2_0, .slice A2_1 l2_1.length c2_1] 24 (0, 0)) (kAt BK285.out) k_ hk_))) (below_size (bAt HB.out))); replace BK285 := Aside0.mk (blk_below (g := gb285) (o := .cells #[.slice A2_0 l2_0.length c2_0, .slice A2_1 l2_1.length c2_1] 24 (0, 0)) (kAt BK285.out) hb); replace HB := Aside0.mk (below_step (bAt HB.out) hb); (try clear hb); (try clear hb2); (try clear hk); (try clear hi); (try clear ho0)) | ((with_reducible refine gate_callee (f := 11) rfl ?_); refine gL (some 53) Tryd.func11 #[.slice Ao28 t290.length co28] rfl gA ?_; (with_reducible refine (split_Pieces.calls k _ _ t290 t312 _ ?side1 ?side2 ?side3 A14.out).mono ?_); (case side1 => exact Gl.below HG.out (bAt HB.out)); (case side2 => exact CAt ((Kd.V_reads' HO292.out).2.2)); (case side3 => exact (Kd.V_reads' HO292.out).2.1); rintro e w39 ⟨v313, rfl, ho0, hb⟩; refine ⟨_, rfl, ?_⟩; replace HO289 := Aside0.mk (Kd.V_elder' (VAt HO289.out) (Kd.N_base ho0) hb); replace HO292 := Aside0.mk (Kd.V_elder' (VAt HO292.out) (Kd.N_base ho0) hb); replace HO295 := Aside0.mk (Kd.V_elder' (VAt HO295.out) (Kd.N_base ho0) hb); replace HO298 := Aside0.mk (Kd.V_elder' (VAt HO298.out) (Kd.N_base ho0) hb); replace HO303 := Aside0.mk (Kd.V_elder' (VAt HO303.out) (Kd.N_base ho0) hb); replace HO306 := Aside0.mk (Kd.V_elder' (VAt HO306.out) (Kd.N_base ho0) hb); have HO314 := Aside0.mk (Kd.N_lower (Kd.N_mono (ok' := fun k_ => some k_ ≠ (v310 : Value).ownBlock ∧ k_ ≠ gb285) ho0 (fun k_ hk_ => ⟨(Kd.fresh' (Kd.N_lt (NAt HO311.out)) k_ hk_), (Kd.freshB (g := gb285) (o := .cells #[.slice A2_0 l2_0.length c2_0, .slice A2_1 l2_1.length c2_1] 24 (0, 0)) (kAt BK285.out) k_ hk_)⟩)) (below_size (bAt HB.out))); replace HO311 := Aside0.mk (Kd.N_elder' (NAt HO311.out) (Kd.N_base ho0) hb); replace BK285 := Aside0.mk (blk_below (g := gb285) (o := .cells #[.slice A2_0 l2_0.length c2_0, .slice A2_1 l2_1.length c2_1] 24 (0, 0)) (kAt BK285.out) hb); replace HB := Aside0.mk (below_step (bAt HB.out) hb); (try clear hb); (try clear hb2); (try clear hk); (try clear hi); (try clear ho0); obtain ⟨Ao40, co40, eo40⟩ := Kd.N_slice HO311.out; subst eo40; obtain ⟨Ao41, co41, eo41⟩ := Kd.N_slice HO314.out; subst eo41) | ((with_reducible refine gate_callee (f := 8) rfl ?_); refine gL (some 54) Tryd.func8 #[.slice Ao27 t287.length co27, .slice Ao28 t290.length co28, .slice Ao40 t309.length co40, .slice Ao41 t312.length co41] rfl gA ?_; (with_reducible refine (match_Keep.calls k _ _ t287 _ _ t290 _ _ t309 _ _ t312 t315 t316 _ ?side1 ?side2 ?side3 ?side4 ?side5 ?side6 ?side7 ?side8 A15.out).mono ?_); (case side1 => exact CAt ((Kd.V_reads' HO289.out).2.2)); (case side2 => exact (Kd.V_reads' HO289.out).2.1); (case side3 => exact CAt ((Kd.V_reads' HO292.out).2.2)); (case side4 => exact (Kd.V_reads' HO292.out).2.1); (case side5 => exact CAt ((Kd.N_reads' HO311.out).2.2)); (case side6 => exact (Kd.N_reads' HO311.out).2.1); (case side7 => exact CAt ((Kd.N_reads' HO314.out).2.2)); (case side8 => exact (Kd.N_reads' HO314.out).2.1); rintro e w42 ⟨rfl, hb⟩; refine ⟨_, rfl, ?_⟩; replace HO289 := Aside0.mk (Kd.V_below (VAt HO289.out) hb); replace HO292 := Aside0.mk (Kd.V_below (VAt HO292.out) hb); replace HO295 := Aside0.mk (Kd.V_below (VAt HO295.out) hb); replace HO298 := Aside0.mk (Kd.V_below (VAt HO298.out) hb); replace HO303 := Aside0.mk (Kd.V_below (VAt HO303.out) hb); replace HO306 := Aside0.mk (Kd.V_below (VAt HO306.out) hb); replace HO311 := Aside0.mk (Kd.N_below (NAt HO311.out) hb); replace HO314 := Aside0.mk (Kd.N_below (NAt HO314.out) hb); replace BK285 := Aside0.mk (blk_below (g := gb285) (o := .cells #[.slice A2_0 l2_0.length c2_0, .slice A2_1 l2_1.length c2_1] 24 (0, 0)) (kAt BK285.out) hb); replace HB := Aside0.mk (below_step (bAt HB.out) hb); (try clear hb); (try clear hb2); (try clear hk); (try clear hi)) | ((with_reducible refine gate_callee (f := 11) rfl ?_); refine gL (some 61) Tryd.func11 #[.slice Ao27 t287.length co27] rfl gA ?_; (with_reducible refine (split_Pieces.calls k _ _ t287 t317 _ ?side1 ?side2 ?side3 A16.out).mono ?_); (case side1 => exact Gl.below HG.out (bAt HB.out)); (case side2 => exact CAt ((Kd.V_reads' HO289.out).2.2)); (case side3 => exact (Kd.V_reads' HO289.out).2.1); rintro e w43 ⟨v318, rfl, ho0, hb⟩; refine ⟨_, rfl, ?_⟩; replace HO289 := Aside0.mk (Kd.V_elder' (VAt HO289.out) (Kd.N_base ho0) hb); replace HO292 := Aside0.mk (Kd.V_elder' (VAt HO292.out) (Kd.N_base ho0) hb); replace HO295 := Aside0.mk (Kd.V_elder' (VAt HO295.out) (Kd.N_base ho0) hb); replace HO298 := Aside0.mk (Kd.V_elder' (VAt HO298.out) (Kd.N_base ho0) hb); replace HO303 := Aside0.mk (Kd.V_elder' (VAt HO303.out) (Kd.N_base ho0) hb); replace HO306 := Aside0.mk (Kd.V_elder' (VAt HO306.out) (Kd.N_base ho0) hb); have HO319 := Aside0.mk (Kd.N_lower (Kd.N_mono (ok' := fun k_ => some k_ ≠ (.slice Ao40 t309.length co40 : Value).ownBlock ∧ some k_ ≠ (.slice Ao41 t312.length co41 : Value).ownBlock ∧ k_ ≠ gb285) ho0 (fun k_ hk_ => ⟨(Kd.fresh' (Kd.N_lt (NAt HO311.out)) k_ hk_), (Kd.fresh' (Kd.N_lt (NAt HO314.out)) k_ hk_), (Kd.freshB (g := gb285) (o := .cells #[.slice A2_0 l2_0.length c2_0, .slice A2_1 l2_1.length c2_1] 24 (0, 0)) (kAt BK285.out) k_ hk_)⟩)) (below_size (bAt HB.out))); replace HO311 := Aside0.mk (Kd.N_elder' (NAt HO311.out) (Kd.N_base ho0) hb); replace HO314 := Aside0.mk (Kd.N_elder' (NAt HO314.out) (Kd.N_base ho0) hb); replace BK285 := Aside0.mk (blk_below (g := gb285) (o := .cells #[.slice A2_0 l2_0.length c2_0, .slice A2_1 l2_1.length c2_1] 24 (0, 0)) (kAt BK285.out) hb); replace HB := Aside0.mk (below_step (bAt HB.out) hb); (try clear hb); (try clear hb2); (try clear hk); (try clear hi); (try clear ho0)) | ((with_reducible refine gate_callee (f := 11) rfl ?_); refine gL (some 63) Tryd.func11 #[.slice Ao28 t290.length co28] rfl gA ?_; (with_reducible refine (split_Pieces.calls k _ _ t290 t320 _ ?side1 ?side2 ?side3 A17.out).mono ?_); (case side1 => exact Gl.below HG.out (bAt HB.out)); (case side2 => exact CAt ((Kd.V_reads' HO292.out).2.2)); (case side3 => exact (Kd.V_reads' HO292.out).2.1); rintro e w44 ⟨v321, rfl, ho0, hb⟩; refine ⟨_, rfl, ?_⟩; replace HO289 := Aside0.mk (Kd.V_elder' (VAt HO289.out) (Kd.N_base ho0) hb); replace HO292 := Aside0.mk (Kd.V_elder' (VAt HO292.out) (Kd.N_base ho0) hb); replace HO295 := Aside0.mk (Kd.V_elder' (VAt HO295.out) (Kd.N_base ho0) hb); replace HO298 := Aside0.mk (Kd.V_elder' (VAt HO298.out) (Kd.N_base ho0) hb); replace HO303 := Aside0.mk (Kd.V_elder' (VAt HO303.out) (Kd.N_base ho0) hb); replace HO306 := Aside0.mk (Kd.V_elder' (VAt HO306.out) (Kd.N_base ho0) hb); have HO322 := Aside0.mk (Kd.N_lower (Kd.N_mono (ok' := fun k_ => some k_ ≠ (.slice Ao40 t309.length co40 : Value).ownBlock ∧ some k_ ≠ (.slice Ao41 t312.length co41 : Value).ownBlock ∧ some k_ ≠ (v318 : Value).ownBlock ∧ k_ ≠ gb285) ho0 (fun k_ hk_ => ⟨(Kd.fresh' (Kd.N_lt (NAt HO311.out)) k_ hk_), (Kd.fresh' (Kd.N_lt (NAt HO314.out)) k_ hk_), (Kd.fresh' (Kd.N_lt (NAt HO319.out)) k_ hk_), (Kd.freshB (g := gb285) (o := .cells #[.slice A2_0 l2_0.length c2_0, .slice A2_1 l2_1.length c2_1] 24 (0, 0)) (kAt BK285.out) k_ hk_)⟩)) (below_size (bAt HB.out))); replace HO311 := Aside0.mk (Kd.N_elder' (NAt HO311.out) (Kd.N_base ho0) hb); replace HO314 := Aside0.mk (Kd.N_elder' (NAt HO314.out) (Kd.N_base ho0) hb); replace HO319 := Aside0.mk (Kd.N_elder' (NAt HO319.out) (Kd.N_base ho0) hb); replace BK285 := Aside0.mk (blk_below (g := gb285) (o := .cells #[.slice A2_0 l2_0.length c2_0, .slice A2_1 l2_1.length c2_1] 24 (0, 0)) (kAt BK285.out) hb); replace HB := Aside0.mk (below_step (bAt HB.out) hb); (try clear hb); (try clear hb2); (try clear hk); (try clear hi); (try clear ho0); obtain ⟨Ao45, co45, eo45⟩ := Kd.N_slice HO319.out; subst eo45; obtain ⟨Ao46, co46, eo46⟩ := Kd.N_slice HO322.out; subst eo46) | ((with_reducible refine gate_callee (f := 10) rfl ?_); refine gL (some 64) Tryd.func10 #[.slice Ao27 t287.length co27, .slice Ao28 t290.length co28, .slice Ao45 t317.length co45, .slice Ao46 t320.length co46] rfl gA ?_; (with_reducible refine (tmesisref24_Keep.calls k _ _ t287 _ _ t290 _ _ t317 _ _ t320 t323 t324 _ ?side1 ?side2 ?side3 ?side4 ?side5 ?side6 ?side7 ?side8 A18.out).mono ?_); (case side1 => exact CAt ((Kd.V_reads' HO289.out).2.2)); (case side2 => exact (Kd.V_reads' HO289.out).2.1); (case side3 => exact CAt ((Kd.V_reads' HO292.out).2.2)); (case side4 => exact (Kd.V_reads' HO292.out).2.1); (case side5 => exact CAt ((Kd.N_reads' HO319.out).2.2)); (case side6 => exact (Kd.N_reads' HO319.out).2.1); (case side7 => exact CAt ((Kd.N_reads' HO322.out).2.2)); (case side8 => exact (Kd.N_reads' HO322.out).2.1); rintro e w47 ⟨rfl, hb⟩; refine ⟨_, rfl, ?_⟩; replace HO289 := Aside0.mk (Kd.V_below (VAt HO289.out) hb); replace HO292 := Aside0.mk (Kd.V_below (VAt HO292.out) hb); replace HO295 := Aside0.mk (Kd.V_below (VAt HO295.out) hb); replace HO298 := Aside0.mk (Kd.V_below (VAt HO298.out) hb); replace HO303 := Aside0.mk (Kd.V_below (VAt HO303.out) hb); replace HO306 := Aside0.mk (Kd.V_below (VAt HO306.out) hb); replace HO311 := Aside0.mk (Kd.N_below (NAt HO311.out) hb); replace HO314 := Aside0.mk (Kd.N_below (NAt HO314.out) hb); replace HO319 := Aside0.mk (Kd.N_below (NAt HO319.out) hb); replace HO322 := Aside0.mk (Kd.N_below (NAt HO322.out) hb); replace BK285 := Aside0.mk (blk_below (g := gb285) (o := .cells #[.slice A2_0 l2_0.length c2_0, .slice A2_1 l2_1.length c2_1] 24 (0, 0)) (kAt BK285.out) hb); replace HB := Aside0.mk (below_step (bAt HB.out) hb); (try clear hb); (try clear hb2); (try clear hk); (try clear hi)))
 (try simp only [Act.put, List.setIfInBounds_toArray, List.set_cons_zero, List.set_cons_succ])
 go_cut [6] (fun v6 wc => ∃ (kq : Nat) (x6_18 : Bool), v6 = .bool x6_18 ∧ Aside0 (tmesislaw24_MatchAll.j0 kq x6_18 = some r) ∧ Aside0 (kq ≤ k) ∧ Aside0 (wc.heap[gb285]? = some (.cells #[(.slice A2_0 l2_0.length c2_0), (.slice A2_1 l2_1.length c2_1)] 24 (0, 0))) ∧ Aside0 (Below w.heap.size w wc))
 case first =>
  have H := HC19.out
  clear HC19
  by_cases c48 : t286 = true
  ·subst c48
   replace H := tP H
   by_cases c49 : t299 = t307
   ·rw [if_pos c49] at H
    obtain ⟨c49b0, c49b1⟩ := eqB c49
    clear c49
    (first | rw [c49b0] | (simp only [i64_w, i32_w]; rw [c49b0]) | skip)
    by_cases c50 : t300 = t308
    ·rw [if_pos c50] at H
     obtain ⟨c50b0, c50b1⟩ := eqB c50
     clear c50
     by_cases c51 : t315 = t323
     ·rw [if_pos c51] at H
      obtain ⟨c51b0, c51b1⟩ := eqB c51
      clear c51
      have H' := Aside0.mk H
      clear H
      go_wp2
      go_meet
      case rel => exact ⟨_, ((t316 == t324)), sR, H', ⟨by first | omega | exact Nat.le_refl _⟩, ⟨kAt BK285.out⟩, ⟨bAt HB.out⟩⟩
     ·rw [if_neg c51] at H
      obtain ⟨c51b0, c51b1⟩ := neB c51
      have H' := Aside0.mk H
      clear H
      go_wp2
      go_meet
      case rel => exact ⟨_, (false), sR, H', ⟨by first | omega | exact Nat.le_refl _⟩, ⟨kAt BK285.out⟩, ⟨bAt HB.out⟩⟩
    ·rw [if_neg c50] at H
     obtain ⟨c50b0, c50b1⟩ := neB c50
     have H' := Aside0.mk H
     clear H
     go_wp2
     go_meet
     case rel => exact ⟨_, (false), sR, H', ⟨by first | omega | exact Nat.le_refl _⟩, ⟨kAt BK285.out⟩, ⟨bAt HB.out⟩⟩
   ·rw [if_neg c49] at H
    obtain ⟨c49b0, c49b1⟩ := neB c49
    (first | rw [c49b0] | (simp only [i64_w, i32_w]; rw [c49b0]) | skip)
    have H' := Aside0.mk H
    clear H
    go_wp2
    go_meet
    case rel => exact ⟨_, (false), sR, H', ⟨by first | omega | exact Nat.le_refl _⟩, ⟨kAt BK285.out⟩, ⟨bAt HB.out⟩⟩
  ·replace c48 := Bool.eq_false_iff.mpr c48
   subst c48
   replace H := fP H
   have H' := Aside0.mk H
   clear H
   go_wp2
   go_meet
   case rel => exact ⟨_, (false), sR, H', ⟨by first | omega | exact Nat.le_refl _⟩, ⟨kAt BK285.out⟩, ⟨bAt HB.out⟩⟩
 case rest =>
  clear HC19
  try clear c1
  try clear c2
  try clear p2
  try clear c3
  try clear c4
  try clear c5
  try clear c6
  try clear c7
  try clear c8
  try clear c9
  try clear c10
  try clear c11
  try clear c48
  try clear c49
  try clear c49b0 c49b1
  try clear c50
  try clear c50b0 c50b1
  try clear c51
  try clear c51b0 c51b1
  obtain ⟨kq, x6_18, rfl, HA, HJ18, BK285, HB⟩ := hcut
  cases kq with
  | zero => exact absurd HA.out (by simp [tmesislaw24_MatchAll.j0])
  | succ kj18 =>
   have H := HA.out
   clear HA
   simp only [tmesislaw24_MatchAll.j0] at H
   obtain rfl := Option.some.inj H
   go_wp2
   go_ret
   exact ⟨eR, bAt HB.out⟩
/-- THE ONE PURE STATEMENT of tmesislaw24_MatchAll: yours. -/
def tmesislaw24_MatchAll.Pure : Prop := ∀ (l0 : List Int) (l1 : List Int) (l2_0 : List (S36)) (l2_1 : List (S36)), (l0.length ≤ 9223372036854775807 ∧ l0.length * 1 ≤ 140737488351232 ∧ ∀ z0_ ∈ l0, (Lit.int .u8 z0_).wf = true) → (l1.length ≤ 9223372036854775807 ∧ l1.length * 1 ≤ 140737488351232 ∧ ∀ z0_ ∈ l1, (Lit.int .u8 z0_).wf = true) → (l2_0.length ≤ 9223372036854775807 ∧ l2_0.length * 48 ≤ 140737488351232 ∧ ∀ z0_ ∈ l2_0, ok36 z0_) → (l2_1.length ≤ 9223372036854775807 ∧ l2_1.length * 48 ≤ 140737488351232 ∧ ∀ z0_ ∈ l2_1, ok36 z0_) → ∃ k, tmesislaw24_MatchAll.f k l0 l1 l2_0 l2_1 = some true
theorem tmesislaw24_MatchAll.walk (P : tmesislaw24_MatchAll.Pure) (A0 : Option Addr) (c0 : Nat) (l0 : List Int) (A1 : Option Addr) (c1 : Nat) (l1 : List Int) (A2_0 : Option Addr) (c2_0 : Nat) (l2_0 : List (S36)) (A2_1 : Option Addr) (c2_1 : Nat) (l2_1 : List (S36)) (w : World) (hG : Gl w) (hr0 : Kd.C (Kd.int .u8) w A0 l0.length l0) (hc0 : l0.length ≤ c0) (hr1 : Kd.C (Kd.int .u8) w A1 l1.length l1) (hc1 : l1.length ≤ c1) (hr2_0 : Kd.C k36 w A2_0 l2_0.length l2_0) (hc2_0 : l2_0.length ≤ c2_0) (hr2_1 : Kd.C k36 w A2_1 l2_1.length l2_1) (hc2_1 : l2_1.length ≤ c2_1) (w0 : (l0.length ≤ 9223372036854775807 ∧ l0.length * 1 ≤ 140737488351232 ∧ ∀ z0_ ∈ l0, (Lit.int .u8 z0_).wf = true)) (w1 : (l1.length ≤ 9223372036854775807 ∧ l1.length * 1 ≤ 140737488351232 ∧ ∀ z0_ ∈ l1, (Lit.int .u8 z0_).wf = true)) (w2_0 : (l2_0.length ≤ 9223372036854775807 ∧ l2_0.length * 48 ≤ 140737488351232 ∧ ∀ z0_ ∈ l2_0, ok36 z0_)) (w2_1 : (l2_1.length ≤ 9223372036854775807 ∧ l2_1.length * 48 ≤ 140737488351232 ∧ ∀ z0_ ∈ l2_1, ok36 z0_)) :
  Calls Tryd.prog 3 #[.slice A0 l0.length c0, .slice A1 l1.length c1, .agg #[.slice A2_0 l2_0.length c2_0, .slice A2_1 l2_1.length c2_1]] w fun e w' => e = .returned (.bool true) ∧ Below w.heap.size w w' := by
 obtain ⟨k, h⟩ := P l0 l1 l2_0 l2_1 w0 w1 w2_0 w2_1
 refine (tmesislaw24_MatchAll.calls k A0 c0 l0 A1 c1 l1 A2_0 c2_0 l2_0 A2_1 c2_1 l2_1 true w hG hr0 hc0 hr1 hc1 hr2_0 hc2_0 hr2_1 hc2_1 h).mono ?_
 rintro e w' ⟨rfl, hd⟩
 exact ⟨rfl, hd⟩
end Go.Proofs.YtklpephnbkoinaaDoor.P
