/- Part of the proof: what the theorem needs of this text. -/
import Derived.Test.YtklpephnbkoinaaDoorKHG
import Derived.Test.YtklpephnbkoinaaDoorKHTX
import Derived.Test.YtklpephnbkoinaaDoorKPx0
import Derived.Test.YtklpephnbkoinaaDoorKPx2
import Derived.Test.YtklpephnbkoinaaDoorKPx3
namespace Go.Proofs.YtklpephnbkoinaaDoor.P
open Go.RowKit Go.Proofs.YtklpephnbkoinaaDoorW.PrintWords Go.Proofs.YtklpephnbkoinaaDoorW.PrintLast Go.Proofs.YtklpephnbkoinaaDoorW.PrintMore
attribute [local go_sem] max2_int min2_int max_two min_two max_three min_three max_four min_four   -- for this text's walks alone
set_option linter.unusedVariables false
set_option linter.unusedSimpArgs false
def lex_All.l0 : Nat → List Int → List (S39) → Int → Option ((List (S39)))
 | 0, _, _, _ => none
 | k + 1, x0, x3, x4 => (token_Next.f k x0 x4).bind fun bt221 => (if bt221.2.2.2.2.2 = true then (if x3.length < 2932031007402 then (lex_All.l0 k x0 (x3 ++ [(⟨bt221.1, bt221.2.1, bt221.2.2.1, bt221.2.2.2.1, bt221.2.2.2.2.1⟩ : S39)]) bt221.2.2.1) else (none)) else (some x3))
def lex_All.f (k : Nat) (l0 : List Int) : Option ((List (S39))) := lex_All.l0 k l0 ([] : List (S39)) 0
theorem lex_All.mono_l : ∀ k, (∀ y0 y1 y2, LeO (lex_All.l0 k y0 y1 y2) (lex_All.l0 (k + 1) y0 y1 y2))
 | 0 => fun _ _ _ r h => by simp [lex_All.l0] at h
 | k + 1 => by
  have ih0 := lex_All.mono_l k
  ·intro y0 y1 y2
   unfold lex_All.l0
   repeat' with_reducible first | exact ih0 _ _ _ | exact token_Next.mono _ _ _ | exact LeO.refl _ | exact LeO.none _ | refine LeO.ite ?_ ?_ | refine LeO.bind ?_ (fun _ => ?_)
theorem lex_All.mono : ∀ a0 k, LeO (lex_All.f k a0) (lex_All.f (k + 1) a0) := by
 intro a0 k
 have ih0 := lex_All.mono_l k
 unfold lex_All.f
 repeat' with_reducible first | exact ih0 _ _ _ | exact token_Next.mono _ _ _ | exact LeO.refl _ | exact LeO.none _ | refine LeO.ite ?_ ?_ | refine LeO.bind ?_ (fun _ => ?_)
def lex_All.T6 : Bool × List (List Nat × List Nat) := (true, [([], []), ([], []), ([1], [1]), ([0, 2], [0, 2]), ([], []), ([4], [4]), ([3, 3, 0, 1, 2, 3], [0, 3]), ([5, 6, 0, 1, 2, 3, 4, 5, 6], [5])])
def lex_All.B6 : List Nat := [0, 0, 2, 7, 0, 16, 15, 127]
theorem lex_All.tab6 : rtab .any (opsOf Tryd.f17 6) = lex_All.T6 := by kernel_rfl
theorem lex_All.bits6 : waitsOk lex_All.T6.2 lex_All.B6 = true := by kernel_rfl
set_option maxHeartbeats 8000000 in
set_option maxRecDepth 100000 in
theorem lex_All.calls (k : Nat) (A0 : Option Addr) (c0 : Nat) (l0 : List Int) (r : List (S39)) (w : World) (hG : Gl w) (hr0 : Kd.C (Kd.int .u8) w A0 l0.length l0) (hc0 : l0.length ≤ c0) (h : lex_All.f k l0 = some r) :
  Calls Tryd.prog 17 #[.slice A0 l0.length c0] w fun e w' => ∃ v0_ : Value, e = .returned (v0_) ∧ Kd.Q k39 39 w' w.heap.size (fun _ => True) v0_ r ∧ Below w.heap.size w w' := by
 have hu39 := Tryd.underlying39
 have HR0 := Aside0.mk hr0
 have HC0 := Aside0.mk hc0
 clear hr0 hc0
 have HB := Aside0.mk (Below.refl w.heap.size w)
 have HG := Aside0.mk hG
 clear hG
 have H : (lex_All.l0 k l0 ([] : List (S39)) 0) = some r := h
 clear h
 have H' := Aside0.mk H
 clear H
 go_enter Tryd.func17, Tryd.ntmps17
 go_wp2
 go_loopg [3, 4] k (fun kq v3 v4 w' => ∃ (x3_1 : List (S39)) (x4_1 : Int), v4 = .int .i64 x4_1 ∧ Aside0 (lex_All.l0 kq l0 x3_1 x4_1 = some r) ∧ Aside0 (kq ≤ k) ∧ Aside0 (Kd.R k39 39 w' w.heap.size (fun _ => True) v3 x3_1) ∧ Aside0 (Below w.heap.size w w'))
 case atStart => exact ⟨(([] : List (S39))), (0), sR, H', ⟨Nat.le_refl _⟩, ⟨by first | exact Kd.R_nil _ _ _ _ _ | exact Kd.N_nil _ _ _ _ _ | exact Kd.V_nil _ _ _ _ _ | exact Kd.Q_nil _ _ _ _ _ | exact Kd.S_nil _ _ _ _ _⟩, ⟨bAt HB.out⟩⟩
 case round =>
  clear H'
  try clear c1
  obtain ⟨x3_1, x4_1, rfl, HA, HK1, HO_3, HB⟩ := hrel
  cases gk with
  | zero => exact absurd HA.out (by simp [lex_All.l0])
  | succ k1 =>
   have H := HA.out
   clear HA
   simp only [lex_All.l0] at H
   obtain ⟨⟨t221, t222, t223, t224, t225, t226⟩, A2, H⟩ := bE H
   replace H : (if t226 = true then (if x3_1.length < 2932031007402 then (lex_All.l0 k1 l0 (x3_1 ++ [(⟨t221, t222, t223, t224, t225⟩ : S39)]) t223) else (none)) else (some x3_1)) = some r := H
   by_cases c3 : t226 = true
   ·subst c3
    replace H := tP H
    by_cases c4 : x3_1.length < 2932031007402
    ·rw [if_pos c4] at H
     have LMc4 := Aside0.mk c4
     clear c4
     obtain ⟨y228, hy228⟩ : ∃ y_ : List (S39), y_ = (x3_1 ++ [(⟨t221, t222, t223, t224, t225⟩ : S39)]) := ⟨_, rfl⟩
     replace H : (lex_All.l0 k1 l0 y228 t223) = some r := by first | (rw [hy228]; with_reducible exact H) | (have H2_ := (Option.bind_some _ _).symm.trans H; rw [hy228]; with_reducible exact H2_) | (have H2_ := (Option.bind_some _ _).symm.trans H; with_reducible exact H2_) | with_reducible exact H | (rw [hy228]; exact H) | exact H
     have Ny228 := Aside0.mk hy228
     clear hy228
     have H' := Aside0.mk H
     clear H
     try go_wp2_with (first | ((with_reducible refine gate_callee (f := 21) rfl ?_); refine gL (some 10) Tryd.func21 #[.slice A0 l0.length c0, .int .i64 x4_1] rfl gA ?_; (with_reducible refine (token_Next.calls k1 _ _ l0 x4_1 t221 t222 t223 t224 t225 true _ ?side1 ?side2 ?side3 A2.out).mono ?_); (case side1 => exact Gl.below HG.out (bAt HB.out)); (case side2 => exact CAt (Kd.C_below HR0.out HB.out)); (case side3 => exact HC0.out); rintro e w5 ⟨rfl, hb⟩; refine ⟨_, rfl, ?_⟩; replace HO_3 := Aside0.mk (Kd.R_below (RAt HO_3.out) hb); replace HB := Aside0.mk (below_step (bAt HB.out) hb); (try clear hb); (try clear hb2); (try clear hk); (try clear hi)) | ((with_reducible refine gate_dst (N := 5) rfl ?_); refine box_event ?hg (N := 5) ?hd (cs := #[.int .i64 0, .int .i64 0, .int .i64 0, .string (⟨#[]⟩ : ByteArray), .int .i64 0]) (t := 39) ?hr ?_; (case hd => rfl); (case hg => rfl); (case hr => first | (go_simp; done) | (go_simp; rfl)); intro gb227 hg w6 hbox hb; replace HO_3 := Aside0.mk (Kd.R_below (Kd.R_elderB (RAt HO_3.out) gb227 (Nat.le_of_eq hg.symm)) hb); have BK227 := Aside0.mk (hbox); have GW227 := Aside0.mk (gE (g := gb227) hg HB.out); have GE227 := Aside0.mk (gE (g := gb227) hg HB.out); replace HB := Aside0.mk (below_step (bAt HB.out) hb); clear hb hbox hg; obtain ⟨hcz7_0, hcz7_1, hcz7_2, hcz7_3, hcz7_4, hfz7_0, hfz7_1, hfz7_2, hfz7_3, hfz7_4⟩ := blk5 BK227.out))
     have n0_ : Aside0 (Kd.R k39 39 (((((w6.setCell ⟨gb227, 0, none⟩ (.int .i64 t221)).setCell ⟨gb227, 1, none⟩ (.int .i64 t222)).setCell ⟨gb227, 2, none⟩ (.int .i64 t223)).setCell ⟨gb227, 3, none⟩ (.string t224)).setCell ⟨gb227, 4, none⟩ (.int .i64 t225)) w.heap.size (fun k_ => k_ ≠ gb227) u3 x3_1) := ⟨RAt (Kd.R_mono (Kd.R_far (p := ⟨gb227, 4, none⟩) (Kd.R_far (p := ⟨gb227, 3, none⟩) (Kd.R_far (p := ⟨gb227, 2, none⟩) (Kd.R_far (p := ⟨gb227, 1, none⟩) (Kd.R_far (p := ⟨gb227, 0, none⟩) (Kd.R_mono HO_3.out (fun k_ hk => (⟨hk, hk.2⟩ : _ ∧ k_ ≠ gb227))) (fun _ hk => hk.2) (.int .i64 t221)) (fun _ hk => hk.2) (.int .i64 t222)) (fun _ hk => hk.2) (.int .i64 t223)) (fun _ hk => hk.2) (.string t224)) (fun _ hk => hk.2) (.int .i64 t225)) (fun _ hk => hk.1.2))⟩
     have n1_ : Aside0 ((((((w6.setCell ⟨gb227, 0, none⟩ (.int .i64 t221)).setCell ⟨gb227, 1, none⟩ (.int .i64 t222)).setCell ⟨gb227, 2, none⟩ (.int .i64 t223)).setCell ⟨gb227, 3, none⟩ (.string t224)).setCell ⟨gb227, 4, none⟩ (.int .i64 t225)).heap[gb227]? = some (.cells #[.int .i64 t221, .int .i64 t222, .int .i64 t223, .string t224, .int .i64 t225] 39 (0, 0))) := ⟨by refine bP #[.int .i64 t221, .int .i64 t222, .int .i64 t223, .string t224, .int .i64 0] 4 ?_; refine bP #[.int .i64 t221, .int .i64 t222, .int .i64 t223, .string (⟨#[]⟩ : ByteArray), .int .i64 0] 3 ?_; refine bP #[.int .i64 t221, .int .i64 t222, .int .i64 0, .string (⟨#[]⟩ : ByteArray), .int .i64 0] 2 ?_; refine bP #[.int .i64 t221, .int .i64 0, .int .i64 0, .string (⟨#[]⟩ : ByteArray), .int .i64 0] 1 ?_; refine bP #[.int .i64 0, .int .i64 0, .int .i64 0, .string (⟨#[]⟩ : ByteArray), .int .i64 0] 0 ?_; (with_reducible repeat (first | refine blk_drewN ?_ _ | refine blk_drew ?_ | refine blk_alloc ?_ _)); exact BK227.out⟩
     have n2_ : Aside0 (Below w.heap.size w (((((w6.setCell ⟨gb227, 0, none⟩ (.int .i64 t221)).setCell ⟨gb227, 1, none⟩ (.int .i64 t222)).setCell ⟨gb227, 2, none⟩ (.int .i64 t223)).setCell ⟨gb227, 3, none⟩ (.string t224)).setCell ⟨gb227, 4, none⟩ (.int .i64 t225))) := ⟨bAt HB.out⟩
     (try clear HO_3)
     (try clear BK227)
     (try clear HB)
     generalize (((((w6.setCell ⟨gb227, 0, none⟩ (.int .i64 t221)).setCell ⟨gb227, 1, none⟩ (.int .i64 t222)).setCell ⟨gb227, 2, none⟩ (.int .i64 t223)).setCell ⟨gb227, 3, none⟩ (.string t224)).setCell ⟨gb227, 4, none⟩ (.int .i64 t225)) = w8 at n0_ n1_ n2_ ⊢
     have HO_3 := n0_
     have BK227 := n1_
     have HB := n2_
     clear n0_ n1_ n2_
     replace HO_3 := Aside0.mk (Kd.R_drew HO_3.out)
     replace BK227 := Aside0.mk (blk_drew BK227.out)
     replace HB := Aside0.mk (below_drew1 HB.out)
     refine start_ (n := 8) (S := fun w' => w'.cell? ⟨gb227, 0, none⟩ = some (.int .i64 t221) ∧ w'.cell? ⟨gb227, 1, none⟩ = some (.int .i64 t222) ∧ w'.cell? ⟨gb227, 2, none⟩ = some (.int .i64 t223) ∧ w'.cell? ⟨gb227, 3, none⟩ = some (.string t224) ∧ w'.cell? ⟨gb227, 4, none⟩ = some (.int .i64 t225)) (ds := []) (bm 8 0) (by kernel_rfl) rfl rfl ⟨(blk_cell BK227.out 0).trans rfl, (blk_cell BK227.out 1).trans rfl, (blk_cell BK227.out 2).trans rfl, (blk_cell BK227.out 3).trans rfl, (blk_cell BK227.out 4).trans rfl⟩ (fun hHeld => ?_); refine with_tabW lex_All.tab6 lex_All.bits6 (fun HT_ HW_ => ?_)
     generalize w8.drew = w9 at HO_3 BK227 HB hHeld ⊢
     refine pv_ 0 (some 21) (bm 8 1) HT_.out ?_
     refine pv_ 4 (some 25) (bm 8 17) HT_.out ?_
     refine tk_ 1 (some 22) (bm 8 19) HT_.out HW_.out hHeld ?_
     refine tk_ 5 (some 26) (bm 8 51) HT_.out HW_.out hHeld ?_
     refine one_ (i := 2) (N := some 23) (bm 8 55) rfl rfl (one_of HT_.out (by kernel_rfl)) (by decide) (fun K hK => ?_)
     refine value_ (w1 := ?_) (v := ?_) (by rfl) rfl ?_ ?_
     rotate_left 2
     ·go_simp
      constructor
      ·rfl
      ·rfl
     refine hK.out _ _ ⟨(blk_cell (blk_alloc BK227.out _) 0).trans rfl, (blk_cell (blk_alloc BK227.out _) 1).trans rfl, (blk_cell (blk_alloc BK227.out _) 2).trans rfl, (blk_cell (blk_alloc BK227.out _) 3).trans rfl, (blk_cell (blk_alloc BK227.out _) 4).trans rfl⟩ (fun hHeld => ?_)
     clear hK K
     refine norm_ (a' := ?_) ?_ ?_
     rotate_left
     ·show Act.put _ (some 23) _ = _
      simp only [Act.put, List.setIfInBounds_toArray, List.set_cons_zero, List.set_cons_succ, i64_w, i32_w]
      rfl
     refine one_ (i := 3) (N := some 24) (bm 8 63) rfl rfl (one_of HT_.out (by kernel_rfl)) (by decide) (fun K hK => ?_)
     refine Kd.R_append_step k39 (w0 := w) w.heap.size (by rfl) (.tmp 21) (.tmp 23) 34 39 (.agg #[(.int .i64 0), (.int .i64 0), (.int .i64 0), (.string ⟨#[]⟩), (.int .i64 0)]) 48 rfl Tryd.underlying34 info39 rfl (by decide) (by omega) u3 x3_1 (⟨t221, t222, t223, t224, t225⟩ : S39) [.int .i64 t221, .int .i64 t222, .int .i64 t223, .string t224, .int .i64 t225] (fun k_ => k_ ≠ gb227) (fun _ => False) rfl rfl ?aP (fun _ hk => hk.elim) ?aF ?aO ?aB ?aS ?aL ?_
     (case aP => exact k39_mkM _ _ _ (⟨t221, t222, t223, t224, t225⟩ : S39))
     (case aB => exact (bAt HB.out))
     (case aF => exact (fun k_ hk => Kd.freshB (g := gb227) (o := .cells #[.int .i64 t221, .int .i64 t222, .int .i64 t223, .string t224, .int .i64 t225] 39 (0, 0)) (kAt BK227.out) k_ hk))
     (case aO => exact (RAt HO_3.out))
     (case aS => exact (below_size (bAt HB.out)))
     (case aL => have := LMc4.out; omega)
     intro v229 w10 ho hb hg hat
     rw [← Ny228.out] at ho
     have n0_ := Aside0.mk (blk_grown (g := gb227) (o := .cells #[.int .i64 t221, .int .i64 t222, .int .i64 t223, .string t224, .int .i64 t225] 39 (0, 0)) (kAt BK227.out) hg (Kd.R_away HO_3.out (fun _ hk => hk)))
     have n1_ := Aside0.mk (hb)
     have n2_ := Aside0.mk (ho)
     clear BK227 HB HO_3
     have BK227 := n0_
     have HB := n1_
     have HO230 := n2_
     clear n0_ n1_ n2_ ho hb hg hat
     refine hK.out _ _ ⟨(blk_cell BK227.out 0).trans rfl, (blk_cell BK227.out 1).trans rfl, (blk_cell BK227.out 2).trans rfl, (blk_cell BK227.out 3).trans rfl, (blk_cell BK227.out 4).trans rfl⟩ (fun hHeld => ?_)
     clear hK K
     refine norm_ (a' := ?_) ?_ ?_
     rotate_left
     ·show Act.put _ (some 24) _ = _
      simp only [Act.put, List.setIfInBounds_toArray, List.set_cons_zero, List.set_cons_succ, i64_w, i32_w]
      rfl
     refine pv_ 6 (some 3) (bm 8 127) HT_.out ?_
     refine pv_ 7 (some 4) (bm 8 255) HT_.out ?_
     refine done_ (done_of HT_.out (by kernel_rfl)) ?_
     try go_wp2
     go_roundg k1
     case measure => have := HK1.out; omega
     case rel => exact ⟨(y228), (t223), sR, H', ⟨by have := HK1.out; omega⟩, ⟨RAt (Kd.R_mono HO230.out (fun _ hk => trivial))⟩, ⟨bAt HB.out⟩⟩
    ·exact nB H c4
   ·replace c3 := Bool.eq_false_iff.mpr c3
    subst c3
    replace H := fP H
    obtain rfl := Option.some.inj H
    go_wp2_with (first | ((with_reducible refine gate_callee (f := 21) rfl ?_); refine gL (some 10) Tryd.func21 #[.slice A0 l0.length c0, .int .i64 x4_1] rfl gA ?_; (with_reducible refine (token_Next.calls k1 _ _ l0 x4_1 t221 t222 t223 t224 t225 false _ ?side1 ?side2 ?side3 A2.out).mono ?_); (case side1 => exact Gl.below HG.out (bAt HB.out)); (case side2 => exact CAt (Kd.C_below HR0.out HB.out)); (case side3 => exact HC0.out); rintro e w11 ⟨rfl, hb⟩; refine ⟨_, rfl, ?_⟩; replace HO_3 := Aside0.mk (Kd.R_below (RAt HO_3.out) hb); replace HB := Aside0.mk (below_step (bAt HB.out) hb); (try clear hb); (try clear hb2); (try clear hk); (try clear hi)) | ((with_reducible refine gate_dst (N := 5) rfl ?_); refine box_event ?hg (N := 5) ?hd (cs := #[.int .i64 0, .int .i64 0, .int .i64 0, .string (⟨#[]⟩ : ByteArray), .int .i64 0]) (t := 39) ?hr ?_; (case hd => rfl); (case hg => rfl); (case hr => first | (go_simp; done) | (go_simp; rfl)); intro gb227 hg w12 hbox hb; replace HO_3 := Aside0.mk (Kd.R_below (Kd.R_elderB (RAt HO_3.out) gb227 (Nat.le_of_eq hg.symm)) hb); have BK227 := Aside0.mk (hbox); have GW227 := Aside0.mk (gE (g := gb227) hg HB.out); have GE227 := Aside0.mk (gE (g := gb227) hg HB.out); replace HB := Aside0.mk (below_step (bAt HB.out) hb); clear hb hbox hg; obtain ⟨hcz13_0, hcz13_1, hcz13_2, hcz13_3, hcz13_4, hfz13_0, hfz13_1, hfz13_2, hfz13_3, hfz13_4⟩ := blk5 BK227.out; obtain ⟨Ao14, co14, eo14⟩ := Kd.R_slice HO_3.out; subst eo14; obtain ⟨iq, hiq, _⟩ := info_parts info39; have hcapq := print_cap_of (P := Tryd.prog) 34 39 Tryd.underlying34 hiq Ao14 x3_1.length co14 (Kd.R_reads' HO_3.out).2.1; clear hiq))
    go_ret
    exact ⟨_, eR, Q_cap (RAt (Kd.R_mono (Kd.R_far (p := ⟨gb227, 4, none⟩) (Kd.R_far (p := ⟨gb227, 3, none⟩) (Kd.R_far (p := ⟨gb227, 2, none⟩) (Kd.R_far (p := ⟨gb227, 1, none⟩) (Kd.R_far (p := ⟨gb227, 0, none⟩) (Kd.R_mono HO_3.out (fun k_ hk => (⟨hk, hk.2⟩ : _ ∧ k_ ≠ gb227))) (fun _ hk => hk.2) (.int .i64 t221)) (fun _ hk => hk.2) (.int .i64 t222)) (fun _ hk => hk.2) (.int .i64 t223)) (fun _ hk => hk.2) (.string t224)) (fun _ hk => hk.2) (.int .i64 t225)) (fun _ hk => trivial))), bAt HB.out⟩
def split_Pieces.l0 : Nat → List (S36) → Int → List (List (S39)) → Int → Int → Option ((List (S36)))
 | 0, _, _, _, _, _ => none
 | k + 1, x3, x4, x9, x10, x11 => if x11 < x10 then (if 0 ≤ x11 then (if x11 < (x9.length : Int) then (if 0 < ((rd_L4 x9 x11).length : Int) then (if 0 ≤ (wrap64 (((rd_L4 x9 x11).length : Int) - 1)) then (if (wrap64 (((rd_L4 x9 x11).length : Int) - 1)) < ((rd_L4 x9 x11).length : Int) then (if x3.length < 2932031007402 then (split_Pieces.l0 k (x3 ++ [(⟨(rd_T39 (rd_L4 x9 x11) 0).f1, (rd_T39 (rd_L4 x9 x11) (wrap64 (((rd_L4 x9 x11).length : Int) - 1))).f2, x4, rd_L4 x9 x11⟩ : S36)]) (wrap64 (x4 + ((rd_L4 x9 x11).length : Int))) x9 x10 (wrap64 (x11 + 1))) else (none)) else (none)) else (none)) else (none)) else (none)) else (none)) else (some x3)
def split_Pieces.f (k : Nat) (l0 : List Int) : Option ((List (S36))) := (lex_All.f k l0).bind fun t231 => ((api_Token_16.f k t231).bind fun t234 => (split_Pieces.l0 k ([] : List (S36)) 0 t234 (t234.length : Int) 0))
theorem split_Pieces.mono_l : ∀ k, (∀ y0 y1 y2 y3 y4, LeO (split_Pieces.l0 k y0 y1 y2 y3 y4) (split_Pieces.l0 (k + 1) y0 y1 y2 y3 y4))
 | 0 => fun _ _ _ _ _ r h => by simp [split_Pieces.l0] at h
 | k + 1 => by
  have ih0 := split_Pieces.mono_l k
  ·intro y0 y1 y2 y3 y4
   unfold split_Pieces.l0
   repeat' with_reducible first | exact ih0 _ _ _ _ _ | exact api_Token_16.mono _ _ | exact lex_All.mono _ _ | exact LeO.refl _ | exact LeO.none _ | refine LeO.ite ?_ ?_ | refine LeO.bind ?_ (fun _ => ?_)
theorem split_Pieces.mono : ∀ a0 k, LeO (split_Pieces.f k a0) (split_Pieces.f (k + 1) a0) := by
 intro a0 k
 have ih0 := split_Pieces.mono_l k
 unfold split_Pieces.f
 repeat' with_reducible first | exact ih0 _ _ _ _ _ | exact api_Token_16.mono _ _ | exact lex_All.mono _ _ | exact LeO.refl _ | exact LeO.none _ | refine LeO.ite ?_ ?_ | refine LeO.bind ?_ (fun _ => ?_)
def split_Pieces.T6 : Bool × List (List Nat × List Nat) := (true, [([], []), ([], []), ([1], [1]), ([2], [2]), ([3], [3]), ([], []), ([], []), ([6], [6]), ([7], [7]), ([5, 8], [5, 8]), ([9], [9]), ([10], [10]), ([], []), ([], []), ([4, 11, 12, 13], [4, 11, 12, 13]), ([14], [14]), ([0, 15], [0, 15]), ([16, 16, 0, 1, 2, 3, 4, 5, 6, 7, 8, 9, 10, 11, 12, 13, 14, 15, 16], [0, 16])])
def split_Pieces.B6 : List Nat := [0, 0, 2, 6, 14, 0, 0, 64, 192, 480, 992, 2016, 0, 0, 16382, 32766, 65535, 131071]
theorem split_Pieces.tab6 : rtab .any (opsOf Tryd.f11 6) = split_Pieces.T6 := by kernel_rfl
theorem split_Pieces.bits6 : waitsOk split_Pieces.T6.2 split_Pieces.B6 = true := by kernel_rfl
set_option maxHeartbeats 8000000 in
set_option maxRecDepth 100000 in
theorem split_Pieces.calls (k : Nat) (A0 : Option Addr) (c0 : Nat) (l0 : List Int) (r : List (S36)) (w : World) (hG : Gl w) (hr0 : Kd.C (Kd.int .u8) w A0 l0.length l0) (hc0 : l0.length ≤ c0) (h : split_Pieces.f k l0 = some r) :
  Calls Tryd.prog 11 #[.slice A0 l0.length c0] w fun e w' => ∃ v0_ : Value, e = .returned (v0_) ∧ Kd.N k36 36 w' w.heap.size (fun k_ => (w.heap.size ≤ k_)) v0_ r ∧ Below w.heap.size w w' := by
 have hu36 := Tryd.underlying36
 have HR0 := Aside0.mk hr0
 have HC0 := Aside0.mk hc0
 clear hr0 hc0
 have HB := Aside0.mk (Below.refl w.heap.size w)
 have HG := Aside0.mk hG
 clear hG
 have H : ((lex_All.f k l0).bind fun t231 => ((api_Token_16.f k t231).bind fun t234 => (split_Pieces.l0 k ([] : List (S36)) 0 t234 (t234.length : Int) 0))) = some r := h
 clear h
 obtain ⟨t231, A2, H⟩ := bE H
 obtain ⟨t234, A3, H⟩ := bE H
 have H' := Aside0.mk H
 clear H
 go_enter Tryd.func11, Tryd.ntmps11
 go_wp2_with (first | ((with_reducible refine gate_callee (f := 17) rfl ?_); refine gL (some 8) Tryd.func17 #[.slice A0 l0.length c0] rfl gA ?_; (with_reducible refine (lex_All.calls k _ _ l0 t231 _ ?side1 ?side2 ?side3 A2.out).mono ?_); (case side1 => exact Gl.below HG.out (bAt HB.out)); (case side2 => exact CAt HR0.out); (case side3 => exact HC0.out); rintro e w4 ⟨v232, rfl, ho0, hb⟩; refine ⟨_, rfl, ?_⟩; have HO233 := Aside0.mk (Kd.Q_lower (Kd.Q_newM (M := fun k_ => (w.heap.size ≤ k_)) ho0 (below_size (bAt HB.out)) (fun k_ h_ => h_)) (below_size (bAt HB.out))); replace HB := Aside0.mk (below_step (bAt HB.out) hb); (try clear hb); (try clear hb2); (try clear hk); (try clear hi); (try clear ho0); obtain ⟨Ao5, co5, eo5, _⟩ := Kd.Q_slice HO233.out; subst eo5) | ((with_reducible refine gate_callee (f := 16) rfl ?_); refine gL (some 9) Tryd.func16 #[.slice Ao5 t231.length co5, .func (.func 18) #[] #[]] rfl gA ?_; (with_reducible refine (api_Token_16.calls k (fun k_ => some k_ = (.slice Ao5 t231.length co5 : Value).ownBlock) _ _ t231 t234 _ ?side1 A3.out).mono ?_); (case side1 => exact Kd.Q_V (Kd.Q_tight rfl (HO233.out))); rintro e w6 ⟨v235, rfl, ho0, hb⟩; refine ⟨_, rfl, ?_⟩; have HO236 := Aside0.mk (Kd.N_lower (Kd.N_mono (ok' := fun k_ => (w.heap.size ≤ k_)) ho0 (fun k_ hk_ => Or.elim hk_ (fun hs_ => ((HO233.out).1 k_ hs_.symm).1) (fun hn_ => (Nat.le_trans (below_size (bAt HB.out)) hn_)))) (below_size (bAt HB.out))); replace HO233 := Aside0.mk (Kd.Q_below (QAt HO233.out) hb); replace HB := Aside0.mk (below_step (bAt HB.out) hb); (try clear hb); (try clear hb2); (try clear hk); (try clear hi); (try clear ho0); obtain ⟨Ao7, co7, eo7⟩ := Kd.N_slice HO236.out; subst eo7))
 go_loopg [3, 4, 11] k (fun kq v3 v4 v11 w' => ∃ (x3_1 : List (S36)) (x4_1 : Int) (x11_1 : Int), v4 = .int .i64 x4_1 ∧ v11 = .int .i64 x11_1 ∧ Aside0 (split_Pieces.l0 kq x3_1 x4_1 t234 (t234.length : Int) x11_1 = some r) ∧ Aside0 (kq ≤ k) ∧ Aside0 (Kd.N k36 36 w' w.heap.size (fun k_ => (w.heap.size ≤ k_) ∧ some k_ ≠ ((.slice Ao7 t234.length co7) : Value).ownBlock) v3 x3_1) ∧ Aside0 (Kd.N (Kd.slice 39 k39) 34 w' w.heap.size (fun k_ => (w.heap.size ≤ k_) ∧ some k_ ≠ (v3 : Value).ownBlock) (.slice Ao7 t234.length co7) t234) ∧ Aside0 (Below w.heap.size w w'))
 case atStart => exact ⟨(([] : List (S36))), (0), (0), sR, sR, H', ⟨Nat.le_refl _⟩, ⟨by first | exact Kd.S_nil _ _ _ _ _ | exact Kd.N_nil _ _ _ _ _ | exact Kd.V_nil _ _ _ _ _ | exact Kd.Q_nil _ _ _ _ _ | exact Kd.R_nil _ _ _ _ _⟩, ⟨NAt (Kd.N_mono HO236.out (fun _ hk => ⟨hk, (by simp [Value.ownBlock])⟩))⟩, ⟨bAt HB.out⟩⟩
 case round =>
  clear H'
  try clear c1
  try clear p2
  obtain ⟨x3_1, x4_1, x11_1, rfl, rfl, HA, HK1, HO_3, HO_9, HB⟩ := hrel
  cases gk with
  | zero => exact absurd HA.out (by simp [split_Pieces.l0])
  | succ k1 =>
   have H := HA.out
   clear HA
   simp only [split_Pieces.l0] at H
   by_cases c8 : x11_1 < (t234.length : Int)
   ·rw [if_pos c8] at H
    have c8b0 := decide_eq_true c8
    clear c8
    by_cases c9 : 0 ≤ x11_1
    ·rw [if_pos c9] at H
     have c9b0 := decide_eq_true c9
     clear c9
     by_cases c10 : x11_1 < (t234.length : Int)
     ·rw [if_pos c10] at H
      have c10b0 := decide_eq_true c10
      clear c10
      by_cases c11 : 0 < ((rd_L4 t234 x11_1).length : Int)
      ·rw [if_pos c11] at H
       have c11b0 := decide_eq_true c11
       have c11b1 : decide (0 < (rd_L4 t234 x11_1).length) = true := decide_eq_true (by omega)
       clear c11
       obtain ⟨ji12, hji12⟩ : ∃ j_ : Int, (wrap64 (((rd_L4 t234 x11_1).length : Int) - 1)) = j_ := ⟨_, rfl⟩
       replace H : (if 0 ≤ (ji12) then (if (ji12) < ((rd_L4 t234 x11_1).length : Int) then (if x3_1.length < 2932031007402 then (split_Pieces.l0 k1 (x3_1 ++ [(⟨(rd_T39 (rd_L4 t234 x11_1) 0).f1, (rd_T39 (rd_L4 t234 x11_1) (ji12)).f2, x4_1, rd_L4 t234 x11_1⟩ : S36)]) (wrap64 (x4_1 + ((rd_L4 t234 x11_1).length : Int))) t234 (t234.length : Int) (wrap64 (x11_1 + 1))) else (none)) else (none)) else (none)) = some r := by first | (rw [hji12] at H; exact H) | (simp only [hji12] at H ⊢; exact H)
       have hji12w : (IntKind.i64.wrap (((rd_L4 t234 x11_1).length : Int) - 1)) = ji12 := (i64_w _).trans hji12
       by_cases c13 : 0 ≤ (ji12)
       ·rw [if_pos c13] at H
        have c13b0 := decide_eq_true c13
        clear c13
        by_cases c14 : (ji12) < ((rd_L4 t234 x11_1).length : Int)
        ·rw [if_pos c14] at H
         have c14b0 := decide_eq_true c14
         clear c14
         by_cases c15 : x3_1.length < 2932031007402
         ·rw [if_pos c15] at H
          have LMc15 := Aside0.mk c15
          clear c15
          obtain ⟨y240, hy240⟩ : ∃ y_ : List (S36), y_ = (x3_1 ++ [(⟨(rd_T39 (rd_L4 t234 x11_1) 0).f1, (rd_T39 (rd_L4 t234 x11_1) (ji12)).f2, x4_1, rd_L4 t234 x11_1⟩ : S36)]) := ⟨_, rfl⟩
          replace H : (split_Pieces.l0 k1 y240 (wrap64 (x4_1 + ((rd_L4 t234 x11_1).length : Int))) t234 (t234.length : Int) (wrap64 (x11_1 + 1))) = some r := by first | (rw [hy240]; with_reducible exact H) | (have H2_ := (Option.bind_some _ _).symm.trans H; rw [hy240]; with_reducible exact H2_) | (have H2_ := (Option.bind_some _ _).symm.trans H; with_reducible exact H2_) | with_reducible exact H | (rw [hy240]; exact H) | exact H
          have Ny240 := Aside0.mk hy240
          clear hy240
          have H' := Aside0.mk H
          clear H
          have p237 : 0 ≤ (x11_1 : Int) := dt
          have q237 : x11_1 < (t234.length : Int) := dt
          obtain ⟨ad237, A237_0, c237_0, e237, hx237_0, hl237_0, hi237_0⟩ := at_L4 (Kd.N_reads' HO_9.out).2.2 x11_1 p237 q237
          cases e237
          obtain ⟨ce237, hce237, hMe237, hcc237⟩ := Kd.N_get HO_9.out [] x11_1 p237 (by first | exact q237 | exact dt | (have e_ := (Kd.N_reads' HO_9.out).1; omega))
          obtain ⟨ua237_0, uc237_0, rfl, ul237_0, ge237_0⟩ := Kd.FK_slice_open hMe237
          have hv237_0 := hcc237 0 _ rfl
          rw [Nat.add_zero, show ((Kd.slice 39 k39)).sz = 1 from rfl, Nat.mul_one] at hv237_0
          replace hv237_0 := Option.some.inj (hv237_0.symm.trans hx237_0)
          injection hv237_0 with hva_ hvn_ hvc_
          rw [hva_] at ge237_0
          rw [hvc_] at ul237_0
          have HL237_0 := Aside0.mk (show Kd.V k39 39 _ w.heap.size _ _ (rd_L4 t234 x11_1) from Kd.V_mk ul237_0 ge237_0)
          clear hva_ hvn_ hvc_ ge237_0 ul237_0 hcc237 hce237
          have HR237_0 := Aside0.mk hi237_0
          have HC237_0 := Aside0.mk hl237_0
          clear hi237_0 hl237_0
          replace p237 := eq_true p237
          replace q237 := eq_true q237
          try go_wp2
          replace HO_3 := Aside0.mk (Kd.N_drew HO_3.out)
          replace HO_9 := Aside0.mk (Kd.N_drew HO_9.out)
          replace HL237_0 := Aside0.mk (Kd.V_drew HL237_0.out)
          replace HR237_0 := Aside0.mk (Kd.C_drew HR237_0.out)
          replace HB := Aside0.mk (below_drew1 HB.out)
          have p238 : 0 ≤ (0 : Int) := (by omega)
          have q238 : 0 < ((rd_L4 t234 x11_1).length : Int) := dt
          obtain ⟨ad238, e238, hx238_0, hx238_1, hx238_2, hx238_3, hx238_4⟩ := at_T39 (Kd.V_reads' HL237_0.out).2.2 0 p238 q238
          cases e238
          have qi238 : (0 < (rd_L4 t234 x11_1).length) = True := eq_true (by omega)
          (try rw [show ((0 : Int)).toNat = 0 from rfl] at hx238_0)
          (try rw [show 0 * 5 = 0 from rfl] at hx238_0)
          (try rw [Addr.add_zero'] at hx238_0)
          (try rw [show ((0 : Int)).toNat = 0 from rfl] at hx238_1)
          (try rw [show 0 * 5 = 0 from rfl] at hx238_1)
          (try rw [Addr.add_zero'] at hx238_1)
          (try rw [show ((0 : Int)).toNat = 0 from rfl] at hx238_2)
          (try rw [show 0 * 5 = 0 from rfl] at hx238_2)
          (try rw [Addr.add_zero'] at hx238_2)
          (try rw [show ((0 : Int)).toNat = 0 from rfl] at hx238_3)
          (try rw [show 0 * 5 = 0 from rfl] at hx238_3)
          (try rw [Addr.add_zero'] at hx238_3)
          (try rw [show ((0 : Int)).toNat = 0 from rfl] at hx238_4)
          (try rw [show 0 * 5 = 0 from rfl] at hx238_4)
          (try rw [Addr.add_zero'] at hx238_4)
          replace p238 := eq_true p238
          replace q238 := eq_true q238
          have p239 : 0 ≤ ((ji12) : Int) := dt
          have q239 : (ji12) < ((rd_L4 t234 x11_1).length : Int) := dt
          obtain ⟨ad239, e239, hx239_0, hx239_1, hx239_2, hx239_3, hx239_4⟩ := at_T39 (Kd.V_reads' HL237_0.out).2.2 (ji12) p239 q239
          obtain rfl : ad238 = ad239 := (by injection e239)
          replace p239 := eq_true p239
          replace q239 := eq_true q239
          refine start_ (n := 18) (S := fun w' => w'.cell? ad238 = some (.int .i64 ((rd_T39 (rd_L4 t234 x11_1) 0).f0)) ∧ w'.cell? ⟨ad238.block, ad238.off + 1, none⟩ = some (.int .i64 ((rd_T39 (rd_L4 t234 x11_1) 0).f1)) ∧ w'.cell? ⟨ad238.block, ad238.off + 2, none⟩ = some (.int .i64 ((rd_T39 (rd_L4 t234 x11_1) 0).f2)) ∧ w'.cell? ⟨ad238.block, ad238.off + 3, none⟩ = some (.string ((rd_T39 (rd_L4 t234 x11_1) 0).f3)) ∧ w'.cell? ⟨ad238.block, ad238.off + 4, none⟩ = some (.int .i64 ((rd_T39 (rd_L4 t234 x11_1) 0).f4)) ∧ w'.cell? (ad238.add (((ji12)).toNat * 5)) = some (.int .i64 ((rd_T39 (rd_L4 t234 x11_1) (ji12)).f0)) ∧ w'.cell? ⟨(ad238.add (((ji12)).toNat * 5)).block, (ad238.add (((ji12)).toNat * 5)).off + 1, none⟩ = some (.int .i64 ((rd_T39 (rd_L4 t234 x11_1) (ji12)).f1)) ∧ w'.cell? ⟨(ad238.add (((ji12)).toNat * 5)).block, (ad238.add (((ji12)).toNat * 5)).off + 2, none⟩ = some (.int .i64 ((rd_T39 (rd_L4 t234 x11_1) (ji12)).f2)) ∧ w'.cell? ⟨(ad238.add (((ji12)).toNat * 5)).block, (ad238.add (((ji12)).toNat * 5)).off + 3, none⟩ = some (.string ((rd_T39 (rd_L4 t234 x11_1) (ji12)).f3)) ∧ w'.cell? ⟨(ad238.add (((ji12)).toNat * 5)).block, (ad238.add (((ji12)).toNat * 5)).off + 4, none⟩ = some (.int .i64 ((rd_T39 (rd_L4 t234 x11_1) (ji12)).f4))) (ds := [15, 16]) (bm 18 0) (by kernel_rfl) rfl rfl ⟨hx238_0, hx238_1, hx238_2, hx238_3, hx238_4, hx239_0, hx239_1, hx239_2, hx239_3, hx239_4⟩ (fun hHeld => ?_); refine with_tabW split_Pieces.tab6 split_Pieces.bits6 (fun HT_ HW_ => ?_)
          generalize wr.drew = w16 at HO_3 HO_9 HL237_0 HR237_0 HB hx238_0 hx238_1 hx238_2 hx238_3 hx238_4 hx239_0 hx239_1 hx239_2 hx239_3 hx239_4 hHeld ⊢
          refine pv_ 0 (some 15) (bm 18 1) HT_.out ?_
          refine pv_ 1 (some 16) (bm 18 3) HT_.out ?_
          refine pv_ 2 (some 17) (bm 18 7) HT_.out ?_
          refine pv_ 3 (some 18) (bm 18 15) HT_.out ?_
          refine pv_ 5 (some 20) (bm 18 47) HT_.out ?_
          refine pv_ 6 (some 21) (bm 18 111) HT_.out ?_
          refine pv_ 7 (some 22) (bm 18 239) HT_.out ?_
          refine pv_ 8 (some 23) (bm 18 495) HT_.out ?_
          refine pv_ 9 (some 24) (bm 18 1007) HT_.out ?_
          refine pv_ 10 (some 25) (bm 18 2031) HT_.out ?_
          refine pv_ 12 (some 27) (bm 18 6127) HT_.out ?_
          refine pv_ 13 (some 28) (bm 18 14319) HT_.out ?_
          refine tk_ 4 (some 19) (bm 18 14335) HT_.out HW_.out hHeld ?_
          refine tk_ 11 (some 26) (bm 18 16383) HT_.out HW_.out hHeld ?_
          refine pv_ 14 (some 29) (bm 18 32767) HT_.out ?_
          refine last_ (i := 15) (N := some 30) (bm 18 65535) rfl rfl (one_of HT_.out (by kernel_rfl)) (by decide) (fun K hK => ?_)
          refine value_ (w1 := ?_) (v := ?_) (by rfl) rfl ?_ ?_
          rotate_left 2
          ·go_simp
           constructor
           ·rfl
           ·rfl
          refine hK.out _ _ ?_
          clear hK K
          refine norm_ (a' := ?_) ?_ ?_
          rotate_left
          ·show Act.put _ (some 30) _ = _
           simp only [Act.put, List.setIfInBounds_toArray, List.set_cons_zero, List.set_cons_succ, i64_w, i32_w]
           rfl
          refine last_ (i := 16) (N := some 31) (bm 18 131071) rfl rfl (one_of HT_.out (by kernel_rfl)) (by decide) (fun K hK => ?_)
          refine Kd.N_append_step k36 (w0 := w) w.heap.size (by rfl) (.tmp 15) (.tmp 30) 23 36 (.agg #[(.int .i64 0), (.int .i64 0), (.int .i64 0), (.slice none 0 0)]) 48 rfl Tryd.underlying23 info36 rfl (by decide) (by omega) u3 x3_1 (⟨(rd_T39 (rd_L4 t234 x11_1) 0).f1, (rd_T39 (rd_L4 t234 x11_1) (ji12)).f2, x4_1, rd_L4 t234 x11_1⟩ : S36) [.int .i64 ((rd_T39 (rd_L4 t234 x11_1) 0).f1), .int .i64 ((rd_T39 (rd_L4 t234 x11_1) (ji12)).f2), .int .i64 x4_1, .slice (some ad238) (rd_L4 t234 x11_1).length c237_0] (fun k_ => (w.heap.size ≤ k_) ∧ some k_ ≠ (.slice (some ad237) t234.length co7 : Value).ownBlock) (fun k_ => ((fun k_ => (w.heap.size ≤ k_) ∧ some k_ ≠ (.slice (some ad237) t234.length co7 : Value).ownBlock)) k_ ∧ some k_ ≠ (u3 : Value).ownBlock) rfl rfl ?aP (fun _ hk => hk) ?aF ?aO ?aB ?aS ?aL ?_
          (case aP => exact (k36_mkF _ _ (⟨(rd_T39 (rd_L4 t234 x11_1) 0).f1, (rd_T39 (rd_L4 t234 x11_1) (ji12)).f2, x4_1, rd_L4 t234 x11_1⟩ : S36) (Kd.V_reads' (Kd.V_mono (ok' := (fun k_ => ((fun k_ => (w.heap.size ≤ k_) ∧ some k_ ≠ (.slice (some ad237) t234.length co7 : Value).ownBlock)) k_ ∧ some k_ ≠ (u3 : Value).ownBlock)) (HL237_0.out) (fun k_ hk => ⟨⟨hk.1.1, hk.2⟩, hk.1.2⟩))).2.1 (Kd.V_F (Kd.V_mono (ok' := (fun k_ => ((fun k_ => (w.heap.size ≤ k_) ∧ some k_ ≠ (.slice (some ad237) t234.length co7 : Value).ownBlock)) k_ ∧ some k_ ≠ (u3 : Value).ownBlock)) (HL237_0.out) (fun k_ hk => ⟨⟨hk.1.1, hk.2⟩, hk.1.2⟩)))))
          (case aB => exact (bAt HB.out))
          (case aF => exact (fun k_ hk => ⟨(Nat.le_trans (below_size (bAt HB.out)) hk), Kd.fresh' (Kd.N_lt (NAt HO_9.out)) k_ hk⟩))
          (case aO => exact (NAt HO_3.out))
          (case aS => exact (below_size (bAt HB.out)))
          (case aL => have := LMc15.out; omega)
          intro v241 w17 ho hb hg hat
          rw [← Ny240.out] at ho
          have n0_ := Aside0.mk (Kd.N_afterv (ok := (fun k_ => (w.heap.size ≤ k_))) (NAt HO_9.out) hg hat)
          have n1_ := Aside0.mk (Kd.V_afterv (ok := (fun k_ => (w.heap.size ≤ k_) ∧ some k_ ≠ (.slice (some ad237) t234.length co7 : Value).ownBlock)) (VAt (Kd.V_mono HL237_0.out (fun _ hk => ⟨⟨hk.1.1, hk.2⟩, hk.1.2⟩))) hg hat)
          have n2_ := Aside0.mk (hb)
          have n3_ := Aside0.mk (ho)
          clear HO_9 HL237_0 HB HO_3
          have HO_9 := n0_
          have HL237_0 := n1_
          have HB := n2_
          have HO242 := n3_
          clear n0_ n1_ n2_ n3_ ho hb hg hat
          refine hK.out _ _ ?_
          clear hK K
          refine norm_ (a' := ?_) ?_ ?_
          rotate_left
          ·show Act.put _ (some 31) _ = _
           simp only [Act.put, List.setIfInBounds_toArray, List.set_cons_zero, List.set_cons_succ, i64_w, i32_w]
           rfl
          refine pv_ 17 (some 3) (bm 18 262143) HT_.out ?_
          refine done_ (done_of HT_.out (by kernel_rfl)) ?_
          try go_wp2
          go_roundg k1
          case measure => have := HK1.out; omega
          case rel => exact ⟨(y240), (wrap64 (x4_1 + ((rd_L4 t234 x11_1).length : Int))), (wrap64 (x11_1 + 1)), sR, sR, H', ⟨by have := HK1.out; omega⟩, ⟨NAt HO242.out⟩, ⟨NAt HO_9.out⟩, ⟨bAt HB.out⟩⟩
         ·exact nB H c15
        ·exact nB H c14
       ·exact nB H c13
      ·exact nB H c11
     ·exact nB H c10
    ·exact nB H c9
   ·rw [if_neg c8] at H
    have c8b0 := decide_eq_false c8
    clear c8
    obtain rfl := Option.some.inj H
    go_wp2
    go_ret
    exact ⟨_, eR, NAt (Kd.N_mono HO_3.out (fun _ hk => hk.1)), bAt HB.out⟩
def tmesislaw24_shown.f (k : Nat)  : Option (Bool) := (some (([97, 46, 32, 98, 46, 32, 99, 46] : List Int) : List Int)).bind fun y243 => ((some (([97, 46, 32, 120, 121, 46, 32, 99, 46] : List Int) : List Int)).bind fun y246 => ((split_Pieces.f k y243).bind fun t249 => ((split_Pieces.f k y246).bind fun t252 => ((match_Keep.f k y243 y246 t249 t252).bind fun bt255 => (if bt255.1 = 1 then (some (bt255.2 == 1)) else (some false))))))
theorem tmesislaw24_shown.mono : ∀ k, LeO (tmesislaw24_shown.f k ) (tmesislaw24_shown.f (k + 1) ) := by
 intro  k
 unfold tmesislaw24_shown.f
 repeat' with_reducible first | exact match_Keep.mono _ _ _ _ _ | exact split_Pieces.mono _ _ | exact LeO.refl _ | exact LeO.none _ | refine LeO.ite ?_ ?_ | refine LeO.bind ?_ (fun _ => ?_)
set_option maxHeartbeats 8000000 in
set_option maxRecDepth 100000 in
theorem tmesislaw24_shown.calls (k : Nat)  (r : Bool) (w : World) (hG : Gl w) (h : tmesislaw24_shown.f k  = some r) :
  Calls Tryd.prog 6 #[] w fun e w' => e = .returned (.bool r) ∧ Below w.heap.size w w' := by
 have HB := Aside0.mk (Below.refl w.heap.size w)
 have HG := Aside0.mk hG
 clear hG
 have H : ((some (([97, 46, 32, 98, 46, 32, 99, 46] : List Int) : List Int)).bind fun y243 => ((some (([97, 46, 32, 120, 121, 46, 32, 99, 46] : List Int) : List Int)).bind fun y246 => ((split_Pieces.f k y243).bind fun t249 => ((split_Pieces.f k y246).bind fun t252 => ((match_Keep.f k y243 y246 t249 t252).bind fun bt255 => (if bt255.1 = 1 then (some (bt255.2 == 1)) else (some false))))))) = some r := h
 clear h
 obtain ⟨y243, hy243⟩ : ∃ y_ : List Int, y_ = (([97, 46, 32, 98, 46, 32, 99, 46] : List Int)) := ⟨_, rfl⟩
 replace H : ((some (([97, 46, 32, 120, 121, 46, 32, 99, 46] : List Int) : List Int)).bind fun y246 => ((split_Pieces.f k y243).bind fun t249 => ((split_Pieces.f k y246).bind fun t252 => ((match_Keep.f k y243 y246 t249 t252).bind fun bt255 => (if bt255.1 = 1 then (some (bt255.2 == 1)) else (some false)))))) = some r := by first | (rw [hy243]; with_reducible exact H) | (have H2_ := (Option.bind_some _ _).symm.trans H; rw [hy243]; with_reducible exact H2_) | (have H2_ := (Option.bind_some _ _).symm.trans H; with_reducible exact H2_) | with_reducible exact H | (rw [hy243]; exact H) | exact H
 have Ny243 := Aside0.mk hy243
 clear hy243
 obtain ⟨y246, hy246⟩ : ∃ y_ : List Int, y_ = (([97, 46, 32, 120, 121, 46, 32, 99, 46] : List Int)) := ⟨_, rfl⟩
 replace H : ((split_Pieces.f k y243).bind fun t249 => ((split_Pieces.f k y246).bind fun t252 => ((match_Keep.f k y243 y246 t249 t252).bind fun bt255 => (if bt255.1 = 1 then (some (bt255.2 == 1)) else (some false))))) = some r := by first | (rw [hy246]; with_reducible exact H) | (have H2_ := (Option.bind_some _ _).symm.trans H; rw [hy246]; with_reducible exact H2_) | (have H2_ := (Option.bind_some _ _).symm.trans H; with_reducible exact H2_) | with_reducible exact H | (rw [hy246]; exact H) | exact H
 have Ny246 := Aside0.mk hy246
 clear hy246
 obtain ⟨t249, A1, H⟩ := bE H
 obtain ⟨t252, A2, H⟩ := bE H
 obtain ⟨⟨t255, t256⟩, A3, H⟩ := bE H
 replace H : (if t255 = 1 then (some (t256 == 1)) else (some false)) = some r := H
 by_cases c4 : t255 = 1
 ·rw [if_pos c4] at H
  obtain ⟨c4b0, c4b1⟩ := eqB c4
  clear c4
  obtain rfl := Option.some.inj H
  go_enter Tryd.func6, Tryd.ntmps6
  go_wp2_with (first | ((with_reducible refine gate_dst (N := 5) rfl ?_); refine V_litsG _ 5 ?hg (N := 5) ?hd (xs := ([97, 46, 32, 98, 46, 32, 99, 46] : List Int)) ?hr ?hw2 ?hr2 (Below.refl _ _) (Nat.le_refl _) (by simp) ?_; (case hd => rfl); (case hg => rfl); (case hr => intro W_; first | (go_simp; done) | (go_simp; rfl)); (case hw2 => rfl); (case hr2 => intro W_; go_simp; rw [run_convert_lit _ 22 5 _ _ _ Tryd.underlying22 Tryd.underlying5]; rfl); intro v244 w5 ho6 hb hg_ hnew_; clear hg_ hnew_; (first | rw [← Ny243.out] at ho6 | (simp only [Int.reduceToNat] at ho6; rw [← Ny243.out] at ho6)); have HO245 := Aside0.mk (Kd.V_lower (Kd.V_mono (ok' := fun k_ => True) ho6 (fun k_ hk_ => trivial)) (below_size (bAt HB.out))); replace HB := Aside0.mk (below_step (bAt HB.out) hb); clear hb ho6) | ((with_reducible refine gate_dst (N := 7) rfl ?_); refine V_litsG _ 5 ?hg (N := 7) ?hd (xs := ([97, 46, 32, 120, 121, 46, 32, 99, 46] : List Int)) ?hr ?hw2 ?hr2 (Below.refl _ _) (Nat.le_refl _) (by simp) ?_; (case hd => rfl); (case hg => rfl); (case hr => intro W_; first | (go_simp; done) | (go_simp; rfl)); (case hw2 => rfl); (case hr2 => intro W_; go_simp; rw [run_convert_lit _ 22 5 _ _ _ Tryd.underlying22 Tryd.underlying5]; rfl); intro v247 w7 ho8 hb hg_ hnew_; clear hg_ hnew_; (first | rw [← Ny246.out] at ho8 | (simp only [Int.reduceToNat] at ho8; rw [← Ny246.out] at ho8)); replace HO245 := Aside0.mk (Kd.V_below (VAt HO245.out) hb); have HO248 := Aside0.mk (Kd.V_lower (Kd.V_mono (ok' := fun k_ => True) ho8 (fun k_ hk_ => trivial)) (below_size (bAt HB.out))); replace HB := Aside0.mk (below_step (bAt HB.out) hb); clear hb ho8; obtain ⟨Ao9, co9, eo9⟩ := Kd.V_slice HO245.out; subst eo9) | ((with_reducible refine gate_callee (f := 11) rfl ?_); refine gL (some 13) Tryd.func11 #[.slice Ao9 y243.length co9] rfl gA ?_; (with_reducible refine (split_Pieces.calls k _ _ y243 t249 _ ?side1 ?side2 ?side3 A1.out).mono ?_); (case side1 => exact Gl.below HG.out (bAt HB.out)); (case side2 => exact CAt ((Kd.V_reads' HO245.out).2.2)); (case side3 => exact (Kd.V_reads' HO245.out).2.1); rintro e w10 ⟨v250, rfl, ho0, hb⟩; refine ⟨_, rfl, ?_⟩; replace HO245 := Aside0.mk (Kd.V_elder' (VAt HO245.out) (Kd.N_base ho0) hb); replace HO248 := Aside0.mk (Kd.V_elder' (VAt HO248.out) (Kd.N_base ho0) hb); have HO251 := Aside0.mk (Kd.N_lower (Kd.N_mono (ok' := fun k_ => True) ho0 (fun k_ hk_ => trivial)) (below_size (bAt HB.out))); replace HB := Aside0.mk (below_step (bAt HB.out) hb); (try clear hb); (try clear hb2); (try clear hk); (try clear hi); (try clear ho0); obtain ⟨Ao11, co11, eo11⟩ := Kd.V_slice HO248.out; subst eo11) | ((with_reducible refine gate_callee (f := 11) rfl ?_); refine gL (some 15) Tryd.func11 #[.slice Ao11 y246.length co11] rfl gA ?_; (with_reducible refine (split_Pieces.calls k _ _ y246 t252 _ ?side1 ?side2 ?side3 A2.out).mono ?_); (case side1 => exact Gl.below HG.out (bAt HB.out)); (case side2 => exact CAt ((Kd.V_reads' HO248.out).2.2)); (case side3 => exact (Kd.V_reads' HO248.out).2.1); rintro e w12 ⟨v253, rfl, ho0, hb⟩; refine ⟨_, rfl, ?_⟩; replace HO245 := Aside0.mk (Kd.V_elder' (VAt HO245.out) (Kd.N_base ho0) hb); replace HO248 := Aside0.mk (Kd.V_elder' (VAt HO248.out) (Kd.N_base ho0) hb); have HO254 := Aside0.mk (Kd.N_lower (Kd.N_mono (ok' := fun k_ => some k_ ≠ (v250 : Value).ownBlock) ho0 (fun k_ hk_ => (Kd.fresh' (Kd.N_lt (NAt HO251.out)) k_ hk_))) (below_size (bAt HB.out))); replace HO251 := Aside0.mk (Kd.N_elder' (NAt HO251.out) (Kd.N_base ho0) hb); replace HB := Aside0.mk (below_step (bAt HB.out) hb); (try clear hb); (try clear hb2); (try clear hk); (try clear hi); (try clear ho0); obtain ⟨Ao13, co13, eo13⟩ := Kd.N_slice HO251.out; subst eo13; obtain ⟨Ao14, co14, eo14⟩ := Kd.N_slice HO254.out; subst eo14) | ((with_reducible refine gate_callee (f := 8) rfl ?_); refine gL (some 16) Tryd.func8 #[.slice Ao9 y243.length co9, .slice Ao11 y246.length co11, .slice Ao13 t249.length co13, .slice Ao14 t252.length co14] rfl gA ?_; (with_reducible refine (match_Keep.calls k _ _ y243 _ _ y246 _ _ t249 _ _ t252 t255 t256 _ ?side1 ?side2 ?side3 ?side4 ?side5 ?side6 ?side7 ?side8 A3.out).mono ?_); (case side1 => exact CAt ((Kd.V_reads' HO245.out).2.2)); (case side2 => exact (Kd.V_reads' HO245.out).2.1); (case side3 => exact CAt ((Kd.V_reads' HO248.out).2.2)); (case side4 => exact (Kd.V_reads' HO248.out).2.1); (case side5 => exact CAt ((Kd.N_reads' HO251.out).2.2)); (case side6 => exact (Kd.N_reads' HO251.out).2.1); (case side7 => exact CAt ((Kd.N_reads' HO254.out).2.2)); (case side8 => exact (Kd.N_reads' HO254.out).2.1); rintro e w15 ⟨rfl, hb⟩; refine ⟨_, rfl, ?_⟩; replace HO245 := Aside0.mk (Kd.V_below (VAt HO245.out) hb); replace HO248 := Aside0.mk (Kd.V_below (VAt HO248.out) hb); replace HO251 := Aside0.mk (Kd.N_below (NAt HO251.out) hb); replace HO254 := Aside0.mk (Kd.N_below (NAt HO254.out) hb); replace HB := Aside0.mk (below_step (bAt HB.out) hb); (try clear hb); (try clear hb2); (try clear hk); (try clear hi)))
  go_ret
  exact ⟨eR, bAt HB.out⟩
 ·rw [if_neg c4] at H
  obtain ⟨c4b0, c4b1⟩ := neB c4
  obtain rfl := Option.some.inj H
  go_enter Tryd.func6, Tryd.ntmps6
  go_wp2_with (first | ((with_reducible refine gate_dst (N := 5) rfl ?_); refine V_litsG _ 5 ?hg (N := 5) ?hd (xs := ([97, 46, 32, 98, 46, 32, 99, 46] : List Int)) ?hr ?hw2 ?hr2 (Below.refl _ _) (Nat.le_refl _) (by simp) ?_; (case hd => rfl); (case hg => rfl); (case hr => intro W_; first | (go_simp; done) | (go_simp; rfl)); (case hw2 => rfl); (case hr2 => intro W_; go_simp; rw [run_convert_lit _ 22 5 _ _ _ Tryd.underlying22 Tryd.underlying5]; rfl); intro v244 w16 ho17 hb hg_ hnew_; clear hg_ hnew_; (first | rw [← Ny243.out] at ho17 | (simp only [Int.reduceToNat] at ho17; rw [← Ny243.out] at ho17)); have HO245 := Aside0.mk (Kd.V_lower (Kd.V_mono (ok' := fun k_ => True) ho17 (fun k_ hk_ => trivial)) (below_size (bAt HB.out))); replace HB := Aside0.mk (below_step (bAt HB.out) hb); clear hb ho17) | ((with_reducible refine gate_dst (N := 7) rfl ?_); refine V_litsG _ 5 ?hg (N := 7) ?hd (xs := ([97, 46, 32, 120, 121, 46, 32, 99, 46] : List Int)) ?hr ?hw2 ?hr2 (Below.refl _ _) (Nat.le_refl _) (by simp) ?_; (case hd => rfl); (case hg => rfl); (case hr => intro W_; first | (go_simp; done) | (go_simp; rfl)); (case hw2 => rfl); (case hr2 => intro W_; go_simp; rw [run_convert_lit _ 22 5 _ _ _ Tryd.underlying22 Tryd.underlying5]; rfl); intro v247 w18 ho19 hb hg_ hnew_; clear hg_ hnew_; (first | rw [← Ny246.out] at ho19 | (simp only [Int.reduceToNat] at ho19; rw [← Ny246.out] at ho19)); replace HO245 := Aside0.mk (Kd.V_below (VAt HO245.out) hb); have HO248 := Aside0.mk (Kd.V_lower (Kd.V_mono (ok' := fun k_ => True) ho19 (fun k_ hk_ => trivial)) (below_size (bAt HB.out))); replace HB := Aside0.mk (below_step (bAt HB.out) hb); clear hb ho19; obtain ⟨Ao20, co20, eo20⟩ := Kd.V_slice HO245.out; subst eo20) | ((with_reducible refine gate_callee (f := 11) rfl ?_); refine gL (some 13) Tryd.func11 #[.slice Ao20 y243.length co20] rfl gA ?_; (with_reducible refine (split_Pieces.calls k _ _ y243 t249 _ ?side1 ?side2 ?side3 A1.out).mono ?_); (case side1 => exact Gl.below HG.out (bAt HB.out)); (case side2 => exact CAt ((Kd.V_reads' HO245.out).2.2)); (case side3 => exact (Kd.V_reads' HO245.out).2.1); rintro e w21 ⟨v250, rfl, ho0, hb⟩; refine ⟨_, rfl, ?_⟩; replace HO245 := Aside0.mk (Kd.V_elder' (VAt HO245.out) (Kd.N_base ho0) hb); replace HO248 := Aside0.mk (Kd.V_elder' (VAt HO248.out) (Kd.N_base ho0) hb); have HO251 := Aside0.mk (Kd.N_lower (Kd.N_mono (ok' := fun k_ => True) ho0 (fun k_ hk_ => trivial)) (below_size (bAt HB.out))); replace HB := Aside0.mk (below_step (bAt HB.out) hb); (try clear hb); (try clear hb2); (try clear hk); (try clear hi); (try clear ho0); obtain ⟨Ao22, co22, eo22⟩ := Kd.V_slice HO248.out; subst eo22) | ((with_reducible refine gate_callee (f := 11) rfl ?_); refine gL (some 15) Tryd.func11 #[.slice Ao22 y246.length co22] rfl gA ?_; (with_reducible refine (split_Pieces.calls k _ _ y246 t252 _ ?side1 ?side2 ?side3 A2.out).mono ?_); (case side1 => exact Gl.below HG.out (bAt HB.out)); (case side2 => exact CAt ((Kd.V_reads' HO248.out).2.2)); (case side3 => exact (Kd.V_reads' HO248.out).2.1); rintro e w23 ⟨v253, rfl, ho0, hb⟩; refine ⟨_, rfl, ?_⟩; replace HO245 := Aside0.mk (Kd.V_elder' (VAt HO245.out) (Kd.N_base ho0) hb); replace HO248 := Aside0.mk (Kd.V_elder' (VAt HO248.out) (Kd.N_base ho0) hb); have HO254 := Aside0.mk (Kd.N_lower (Kd.N_mono (ok' := fun k_ => some k_ ≠ (v250 : Value).ownBlock) ho0 (fun k_ hk_ => (Kd.fresh' (Kd.N_lt (NAt HO251.out)) k_ hk_))) (below_size (bAt HB.out))); replace HO251 := Aside0.mk (Kd.N_elder' (NAt HO251.out) (Kd.N_base ho0) hb); replace HB := Aside0.mk (below_step (bAt HB.out) hb); (try clear hb); (try clear hb2); (try clear hk); (try clear hi); (try clear ho0); obtain ⟨Ao24, co24, eo24⟩ := Kd.N_slice HO251.out; subst eo24; obtain ⟨Ao25, co25, eo25⟩ := Kd.N_slice HO254.out; subst eo25) | ((with_reducible refine gate_callee (f := 8) rfl ?_); refine gL (some 16) Tryd.func8 #[.slice Ao20 y243.length co20, .slice Ao22 y246.length co22, .slice Ao24 t249.length co24, .slice Ao25 t252.length co25] rfl gA ?_; (with_reducible refine (match_Keep.calls k _ _ y243 _ _ y246 _ _ t249 _ _ t252 t255 t256 _ ?side1 ?side2 ?side3 ?side4 ?side5 ?side6 ?side7 ?side8 A3.out).mono ?_); (case side1 => exact CAt ((Kd.V_reads' HO245.out).2.2)); (case side2 => exact (Kd.V_reads' HO245.out).2.1); (case side3 => exact CAt ((Kd.V_reads' HO248.out).2.2)); (case side4 => exact (Kd.V_reads' HO248.out).2.1); (case side5 => exact CAt ((Kd.N_reads' HO251.out).2.2)); (case side6 => exact (Kd.N_reads' HO251.out).2.1); (case side7 => exact CAt ((Kd.N_reads' HO254.out).2.2)); (case side8 => exact (Kd.N_reads' HO254.out).2.1); rintro e w26 ⟨rfl, hb⟩; refine ⟨_, rfl, ?_⟩; replace HO245 := Aside0.mk (Kd.V_below (VAt HO245.out) hb); replace HO248 := Aside0.mk (Kd.V_below (VAt HO248.out) hb); replace HO251 := Aside0.mk (Kd.N_below (NAt HO251.out) hb); replace HO254 := Aside0.mk (Kd.N_below (NAt HO254.out) hb); replace HB := Aside0.mk (below_step (bAt HB.out) hb); (try clear hb); (try clear hb2); (try clear hk); (try clear hi)))
  go_ret
  exact ⟨eR, bAt HB.out⟩
def tmesislaw24_few.f (l0 : List Int) : Option (List Int) := if 0 ≤ (mn (l0.length : Int) 200) then (if (mn (l0.length : Int) 200) ≤ (l0.length : Int) then (some (l0.take ((mn (l0.length : Int) 200) : Int).toNat)) else (none)) else (none)
set_option maxHeartbeats 8000000 in
set_option maxRecDepth 100000 in
theorem tmesislaw24_few.calls (P0_ : Nat → Prop) (A0 : Option Addr) (c0 : Nat) (l0 : List Int) (r : List Int) (w : World) (hs0 : Kd.V (Kd.int .u8) 5 w w.heap.size (fun k_ => P0_ k_) (.slice A0 l0.length c0) l0) (h : tmesislaw24_few.f l0 = some r) :
  Calls Tryd.prog 7 #[.slice A0 l0.length c0] w fun e w' => ∃ v0_ : Value, e = .returned (v0_) ∧ Kd.V (Kd.int .u8) 5 w' w.heap.size (fun k_ => (P0_ k_ ∨ w.heap.size ≤ k_)) v0_ r ∧ Below w.heap.size w w' := by
 have HO0 := Aside0.mk (show Kd.V (Kd.int .u8) 5 w w.heap.size (fun k_ => (P0_ k_ ∨ w.heap.size ≤ k_)) (.slice A0 l0.length c0) l0 from Kd.V_mono hs0 (fun k_ hk => .inl hk))
 have HB := Aside0.mk (Below.refl w.heap.size w)
 have H : (if 0 ≤ (mn (l0.length : Int) 200) then (if (mn (l0.length : Int) 200) ≤ (l0.length : Int) then (some (l0.take ((mn (l0.length : Int) 200) : Int).toNat)) else (none)) else (none)) = some r := h
 clear h
 obtain ⟨ji2, hji2⟩ : ∃ j_ : Int, (mn (l0.length : Int) 200) = j_ := ⟨_, rfl⟩
 replace H : (if 0 ≤ (ji2) then (if (ji2) ≤ (l0.length : Int) then (some (l0.take ((ji2) : Int).toNat)) else (none)) else (none)) = some r := by first | (rw [hji2] at H; exact H) | (simp only [hji2] at H ⊢; exact H)
 (try (have hji2h : ji2 ≤ 200 := by (rw [← hji2]; unfold mn; (repeat' split) <;> omega)))
 (try (have hji2g : ji2 ≤ 64 := by omega))
 (try (have hji2l : 0 ≤ ji2 := by (rw [← hji2]; unfold mn; (repeat' split) <;> omega)))
 (try (have hji2m : 0 ≤ ji2 := by omega))
 have hji2_ : (if 200 < (l0.length : Int) then 200 else (l0.length : Int)) = ji2 := hji2
 by_cases c3 : 0 ≤ (ji2)
 ·rw [if_pos c3] at H
  have c3b0 := eq_true c3
  have c3b1 := decide_eq_true c3
  clear c3
  by_cases c4 : (ji2) ≤ (l0.length : Int)
  ·rw [if_pos c4] at H
   have c4b0 := eq_true c4
   have c4b1 := decide_eq_true c4
   clear c4
   obtain ⟨y257, hy257⟩ : ∃ y_ : List Int, y_ = (l0.take ((ji2) : Int).toNat) := ⟨_, rfl⟩
   replace H : (some y257) = some r := by first | (rw [hy257]; with_reducible exact H) | (have H2_ := (Option.bind_some _ _).symm.trans H; rw [hy257]; with_reducible exact H2_) | (have H2_ := (Option.bind_some _ _).symm.trans H; with_reducible exact H2_) | with_reducible exact H | (rw [hy257]; exact H) | exact H
   have Ny257 := Aside0.mk hy257
   clear hy257
   obtain rfl := Option.some.inj H
   have q5 : ((ji2) : Int) ≤ ((l0.length : Int) : Int) := dt
   obtain ⟨i05, hi05, _, hsz5, _⟩ := info_parts info5
   have hroom5 : l0.length ≤ c0 := (Kd.V_reads' HO0.out).2.1
   have hC5 : Kd.F (Kd.int .u8) _ _ A0 l0.length l0 := (Kd.V_at (base := w.heap.size) HO0.out).2.2
   have hcut5 := cut_to (P := Tryd.prog) 22 5 .i64 Tryd.underlying22 hi05 A0 l0.length c0 (ji2) dt q5 hroom5
   have hr5 := Kd.F_take (m := ((ji2) : Int).toNat) hC5 (by omega)
   have hy5 : y257.length = ((ji2) : Int).toNat := (by rw [Ny257.out, List.length_take]; omega)
   rw [← Ny257.out] at hr5
   rw [← hy5] at hcut5
   have HO261 := Aside0.mk (show Kd.V (Kd.int .u8) 5 _ w.heap.size _ (.slice A0 y257.length c0) y257 from Kd.V_mk (by omega) hr5)
   have HC261 := Aside0.mk (show y257.length ≤ c0 from by omega)
   clear hr5 hC5 hroom5 hi05 hsz5
   have KY5 := Aside0.mk hy5
   clear hy5
   replace q5 := eq_true q5
   go_enter Tryd.func7, Tryd.ntmps7
   go_wp2
   go_ret
   exact ⟨_, by first | rfl | (simp [errW_none, errW_some] <;> rfl) | (simp only [← hji2]; first | rfl | (simp [errW_none, errW_some] <;> rfl)) | (simp [*, errW_none, errW_some] <;> rfl), VAt HO261.out, bAt HB.out⟩
  ·exact nB H c4
 ·exact nB H c3
end Go.Proofs.YtklpephnbkoinaaDoor.P
