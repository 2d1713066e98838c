/- Part of the proof: what the theorem needs of this text. -/
import Derived.Test.YtdejidhgeefmeaaDoorKHG
import Derived.Test.YtdejidhgeefmeaaDoorKHTX
import Derived.Test.YtdejidhgeefmeaaDoorKPx0
namespace Go.Proofs.YtdejidhgeefmeaaDoor.P
open Go.RowKit Go.Proofs.YtdejidhgeefmeaaDoorW.PrintWords Go.Proofs.YtdejidhgeefmeaaDoorW.PrintLast Go.Proofs.YtdejidhgeefmeaaDoorW.PrintMore
attribute [local go_sem] max2_int min2_int max_two min_two max_three min_three max_four min_four   -- for this text's walks alone
set_option linter.unusedVariables false
set_option linter.unusedSimpArgs false
def lex_All.l0 : Nat → List Int → List (S34) → Int → Option ((List (S34)))
 | 0, _, _, _ => none
 | k + 1, x0, x3, x4 => (token_Next.f k x0 x4).bind fun bt164 => (if bt164.2.2.2.2.2 = true then (if x3.length < 2932031007402 then (lex_All.l0 k x0 (x3 ++ [(⟨bt164.1, bt164.2.1, bt164.2.2.1, bt164.2.2.2.1, bt164.2.2.2.2.1⟩ : S34)]) bt164.2.2.1) else (none)) else (some x3))
def lex_All.f (k : Nat) (l0 : List Int) : Option ((List (S34))) := lex_All.l0 k l0 ([] : List (S34)) 0
theorem lex_All.mono_l : ∀ k, (∀ y0 y1 y2, LeO (lex_All.l0 k y0 y1 y2) (lex_All.l0 (k + 1) y0 y1 y2))
 | 0 => fun _ _ _ r h => by simp [lex_All.l0] at h
 | k + 1 => by
  have ih0 := lex_All.mono_l k
  ·intro y0 y1 y2
   unfold lex_All.l0
   repeat' with_reducible first | exact ih0 _ _ _ | exact token_Next.mono _ _ _ | exact LeO.refl _ | exact LeO.none _ | refine LeO.ite ?_ ?_ | refine LeO.bind ?_ (fun _ => ?_)
theorem lex_All.mono : ∀ a0 k, LeO (lex_All.f k a0) (lex_All.f (k + 1) a0) := by
 intro a0 k
 have ih0 := lex_All.mono_l k
 unfold lex_All.f
 repeat' with_reducible first | exact ih0 _ _ _ | exact token_Next.mono _ _ _ | exact LeO.refl _ | exact LeO.none _ | refine LeO.ite ?_ ?_ | refine LeO.bind ?_ (fun _ => ?_)
def lex_All.T6 : Bool × List (List Nat × List Nat) := (true, [([], []), ([], []), ([1], [1]), ([0, 2], [0, 2]), ([], []), ([4], [4]), ([3, 3, 0, 1, 2, 3], [0, 3]), ([5, 6, 0, 1, 2, 3, 4, 5, 6], [5])])
def lex_All.B6 : List Nat := [0, 0, 2, 7, 0, 16, 15, 127]
theorem lex_All.tab6 : rtab .any (opsOf Tryd.f14 6) = lex_All.T6 := by kernel_rfl
theorem lex_All.bits6 : waitsOk lex_All.T6.2 lex_All.B6 = true := by kernel_rfl
set_option maxHeartbeats 8000000 in
set_option maxRecDepth 100000 in
theorem lex_All.calls (k : Nat) (A0 : Option Addr) (c0 : Nat) (l0 : List Int) (r : List (S34)) (w : World) (hG : Gl w) (hr0 : Kd.C (Kd.int .u8) w A0 l0.length l0) (hc0 : l0.length ≤ c0) (h : lex_All.f k l0 = some r) :
  Calls Tryd.prog 14 #[.slice A0 l0.length c0] w fun e w' => ∃ v0_ : Value, e = .returned (v0_) ∧ Kd.Q k34 34 w' w.heap.size (fun _ => True) v0_ r ∧ Below w.heap.size w w' := by
 have hu34 := Tryd.underlying34
 have HR0 := Aside0.mk hr0
 have HC0 := Aside0.mk hc0
 clear hr0 hc0
 have HB := Aside0.mk (Below.refl w.heap.size w)
 have HG := Aside0.mk hG
 clear hG
 have H : (lex_All.l0 k l0 ([] : List (S34)) 0) = some r := h
 clear h
 have H' := Aside0.mk H
 clear H
 go_enter Tryd.func14, Tryd.ntmps14
 go_wp2
 go_loopg [3, 4] k (fun kq v3 v4 w' => ∃ (x3_1 : List (S34)) (x4_1 : Int), v4 = .int .i64 x4_1 ∧ Aside0 (lex_All.l0 kq l0 x3_1 x4_1 = some r) ∧ Aside0 (kq ≤ k) ∧ Aside0 (Kd.R k34 34 w' w.heap.size (fun _ => True) v3 x3_1) ∧ Aside0 (Below w.heap.size w w'))
 case atStart => exact ⟨(([] : List (S34))), (0), sR, H', ⟨Nat.le_refl _⟩, ⟨by first | exact Kd.R_nil _ _ _ _ _ | exact Kd.N_nil _ _ _ _ _ | exact Kd.V_nil _ _ _ _ _ | exact Kd.Q_nil _ _ _ _ _ | exact Kd.S_nil _ _ _ _ _⟩, ⟨bAt HB.out⟩⟩
 case round =>
  clear H'
  try clear c1
  obtain ⟨x3_1, x4_1, rfl, HA, HK1, HO_3, HB⟩ := hrel
  cases gk with
  | zero => exact absurd HA.out (by simp [lex_All.l0])
  | succ k1 =>
   have H := HA.out
   clear HA
   simp only [lex_All.l0] at H
   obtain ⟨⟨t164, t165, t166, t167, t168, t169⟩, A2, H⟩ := bE H
   replace H : (if t169 = true then (if x3_1.length < 2932031007402 then (lex_All.l0 k1 l0 (x3_1 ++ [(⟨t164, t165, t166, t167, t168⟩ : S34)]) t166) else (none)) else (some x3_1)) = some r := H
   by_cases c3 : t169 = true
   ·subst c3
    replace H := tP H
    by_cases c4 : x3_1.length < 2932031007402
    ·rw [if_pos c4] at H
     have LMc4 := Aside0.mk c4
     clear c4
     obtain ⟨y171, hy171⟩ : ∃ y_ : List (S34), y_ = (x3_1 ++ [(⟨t164, t165, t166, t167, t168⟩ : S34)]) := ⟨_, rfl⟩
     replace H : (lex_All.l0 k1 l0 y171 t166) = some r := by first | (rw [hy171]; with_reducible exact H) | (have H2_ := (Option.bind_some _ _).symm.trans H; rw [hy171]; with_reducible exact H2_) | (have H2_ := (Option.bind_some _ _).symm.trans H; with_reducible exact H2_) | with_reducible exact H | (rw [hy171]; exact H) | exact H
     have Ny171 := Aside0.mk hy171
     clear hy171
     have H' := Aside0.mk H
     clear H
     try go_wp2_with (first | ((with_reducible refine gate_callee (f := 22) rfl ?_); refine gL (some 10) Tryd.func22 #[.slice A0 l0.length c0, .int .i64 x4_1] rfl gA ?_; (with_reducible refine (token_Next.calls k1 _ _ l0 x4_1 t164 t165 t166 t167 t168 true _ ?side1 ?side2 ?side3 A2.out).mono ?_); (case side1 => exact Gl.below HG.out (bAt HB.out)); (case side2 => exact CAt (Kd.C_below HR0.out HB.out)); (case side3 => exact HC0.out); rintro e w5 ⟨rfl, hb⟩; refine ⟨_, rfl, ?_⟩; replace HO_3 := Aside0.mk (Kd.R_below (RAt HO_3.out) hb); replace HB := Aside0.mk (below_step (bAt HB.out) hb); (try clear hb); (try clear hb2); (try clear hk); (try clear hi)) | ((with_reducible refine gate_dst (N := 5) rfl ?_); refine box_event ?hg (N := 5) ?hd (cs := #[.int .i64 0, .int .i64 0, .int .i64 0, .string (⟨#[]⟩ : ByteArray), .int .i64 0]) (t := 34) ?hr ?_; (case hd => rfl); (case hg => rfl); (case hr => first | (go_simp; done) | (go_simp; rfl)); intro gb170 hg w6 hbox hb; replace HO_3 := Aside0.mk (Kd.R_below (Kd.R_elderB (RAt HO_3.out) gb170 (Nat.le_of_eq hg.symm)) hb); have BK170 := Aside0.mk (hbox); have GW170 := Aside0.mk (gE (g := gb170) hg HB.out); have GE170 := Aside0.mk (gE (g := gb170) hg HB.out); replace HB := Aside0.mk (below_step (bAt HB.out) hb); clear hb hbox hg; obtain ⟨hcz7_0, hcz7_1, hcz7_2, hcz7_3, hcz7_4, hfz7_0, hfz7_1, hfz7_2, hfz7_3, hfz7_4⟩ := blk5 BK170.out))
     have n0_ : Aside0 (Kd.R k34 34 (((((w6.setCell ⟨gb170, 0, none⟩ (.int .i64 t164)).setCell ⟨gb170, 1, none⟩ (.int .i64 t165)).setCell ⟨gb170, 2, none⟩ (.int .i64 t166)).setCell ⟨gb170, 3, none⟩ (.string t167)).setCell ⟨gb170, 4, none⟩ (.int .i64 t168)) w.heap.size (fun k_ => k_ ≠ gb170) u3 x3_1) := ⟨RAt (Kd.R_mono (Kd.R_far (p := ⟨gb170, 4, none⟩) (Kd.R_far (p := ⟨gb170, 3, none⟩) (Kd.R_far (p := ⟨gb170, 2, none⟩) (Kd.R_far (p := ⟨gb170, 1, none⟩) (Kd.R_far (p := ⟨gb170, 0, none⟩) (Kd.R_mono HO_3.out (fun k_ hk => (⟨hk, hk.2⟩ : _ ∧ k_ ≠ gb170))) (fun _ hk => hk.2) (.int .i64 t164)) (fun _ hk => hk.2) (.int .i64 t165)) (fun _ hk => hk.2) (.int .i64 t166)) (fun _ hk => hk.2) (.string t167)) (fun _ hk => hk.2) (.int .i64 t168)) (fun _ hk => hk.1.2))⟩
     have n1_ : Aside0 ((((((w6.setCell ⟨gb170, 0, none⟩ (.int .i64 t164)).setCell ⟨gb170, 1, none⟩ (.int .i64 t165)).setCell ⟨gb170, 2, none⟩ (.int .i64 t166)).setCell ⟨gb170, 3, none⟩ (.string t167)).setCell ⟨gb170, 4, none⟩ (.int .i64 t168)).heap[gb170]? = some (.cells #[.int .i64 t164, .int .i64 t165, .int .i64 t166, .string t167, .int .i64 t168] 34 (0, 0))) := ⟨by refine bP #[.int .i64 t164, .int .i64 t165, .int .i64 t166, .string t167, .int .i64 0] 4 ?_; refine bP #[.int .i64 t164, .int .i64 t165, .int .i64 t166, .string (⟨#[]⟩ : ByteArray), .int .i64 0] 3 ?_; refine bP #[.int .i64 t164, .int .i64 t165, .int .i64 0, .string (⟨#[]⟩ : ByteArray), .int .i64 0] 2 ?_; refine bP #[.int .i64 t164, .int .i64 0, .int .i64 0, .string (⟨#[]⟩ : ByteArray), .int .i64 0] 1 ?_; refine bP #[.int .i64 0, .int .i64 0, .int .i64 0, .string (⟨#[]⟩ : ByteArray), .int .i64 0] 0 ?_; (with_reducible repeat (first | refine blk_drewN ?_ _ | refine blk_drew ?_ | refine blk_alloc ?_ _)); exact BK170.out⟩
     have n2_ : Aside0 (Below w.heap.size w (((((w6.setCell ⟨gb170, 0, none⟩ (.int .i64 t164)).setCell ⟨gb170, 1, none⟩ (.int .i64 t165)).setCell ⟨gb170, 2, none⟩ (.int .i64 t166)).setCell ⟨gb170, 3, none⟩ (.string t167)).setCell ⟨gb170, 4, none⟩ (.int .i64 t168))) := ⟨bAt HB.out⟩
     (try clear HO_3)
     (try clear BK170)
     (try clear HB)
     generalize (((((w6.setCell ⟨gb170, 0, none⟩ (.int .i64 t164)).setCell ⟨gb170, 1, none⟩ (.int .i64 t165)).setCell ⟨gb170, 2, none⟩ (.int .i64 t166)).setCell ⟨gb170, 3, none⟩ (.string t167)).setCell ⟨gb170, 4, none⟩ (.int .i64 t168)) = w8 at n0_ n1_ n2_ ⊢
     have HO_3 := n0_
     have BK170 := n1_
     have HB := n2_
     clear n0_ n1_ n2_
     replace HO_3 := Aside0.mk (Kd.R_drew HO_3.out)
     replace BK170 := Aside0.mk (blk_drew BK170.out)
     replace HB := Aside0.mk (below_drew1 HB.out)
     refine start_ (n := 8) (S := fun w' => w'.cell? ⟨gb170, 0, none⟩ = some (.int .i64 t164) ∧ w'.cell? ⟨gb170, 1, none⟩ = some (.int .i64 t165) ∧ w'.cell? ⟨gb170, 2, none⟩ = some (.int .i64 t166) ∧ w'.cell? ⟨gb170, 3, none⟩ = some (.string t167) ∧ w'.cell? ⟨gb170, 4, none⟩ = some (.int .i64 t168)) (ds := []) (bm 8 0) (by kernel_rfl) rfl rfl ⟨(blk_cell BK170.out 0).trans rfl, (blk_cell BK170.out 1).trans rfl, (blk_cell BK170.out 2).trans rfl, (blk_cell BK170.out 3).trans rfl, (blk_cell BK170.out 4).trans rfl⟩ (fun hHeld => ?_); refine with_tabW lex_All.tab6 lex_All.bits6 (fun HT_ HW_ => ?_)
     generalize w8.drew = w9 at HO_3 BK170 HB hHeld ⊢
     refine pv_ 0 (some 21) (bm 8 1) HT_.out ?_
     refine pv_ 4 (some 25) (bm 8 17) HT_.out ?_
     refine tk_ 1 (some 22) (bm 8 19) HT_.out HW_.out hHeld ?_
     refine tk_ 5 (some 26) (bm 8 51) HT_.out HW_.out hHeld ?_
     refine one_ (i := 2) (N := some 23) (bm 8 55) rfl rfl (one_of HT_.out (by kernel_rfl)) (by decide) (fun K hK => ?_)
     refine value_ (w1 := ?_) (v := ?_) (by rfl) rfl ?_ ?_
     rotate_left 2
     ·go_simp
      constructor
      ·rfl
      ·rfl
     refine hK.out _ _ ⟨(blk_cell (blk_alloc BK170.out _) 0).trans rfl, (blk_cell (blk_alloc BK170.out _) 1).trans rfl, (blk_cell (blk_alloc BK170.out _) 2).trans rfl, (blk_cell (blk_alloc BK170.out _) 3).trans rfl, (blk_cell (blk_alloc BK170.out _) 4).trans rfl⟩ (fun hHeld => ?_)
     clear hK K
     refine norm_ (a' := ?_) ?_ ?_
     rotate_left
     ·show Act.put _ (some 23) _ = _
      simp only [Act.put, List.setIfInBounds_toArray, List.set_cons_zero, List.set_cons_succ, i64_w, i32_w]
      rfl
     refine one_ (i := 3) (N := some 24) (bm 8 63) rfl rfl (one_of HT_.out (by kernel_rfl)) (by decide) (fun K hK => ?_)
     refine Kd.R_append_step k34 (w0 := w) w.heap.size (by rfl) (.tmp 21) (.tmp 23) 23 34 (.agg #[(.int .i64 0), (.int .i64 0), (.int .i64 0), (.string ⟨#[]⟩), (.int .i64 0)]) 48 rfl Tryd.underlying23 info34 rfl (by decide) (by omega) u3 x3_1 (⟨t164, t165, t166, t167, t168⟩ : S34) [.int .i64 t164, .int .i64 t165, .int .i64 t166, .string t167, .int .i64 t168] (fun k_ => k_ ≠ gb170) (fun _ => False) rfl rfl ?aP (fun _ hk => hk.elim) ?aF ?aO ?aB ?aS ?aL ?_
     (case aP => exact k34_mkM _ _ _ (⟨t164, t165, t166, t167, t168⟩ : S34))
     (case aB => exact (bAt HB.out))
     (case aF => exact (fun k_ hk => Kd.freshB (g := gb170) (o := .cells #[.int .i64 t164, .int .i64 t165, .int .i64 t166, .string t167, .int .i64 t168] 34 (0, 0)) (kAt BK170.out) k_ hk))
     (case aO => exact (RAt HO_3.out))
     (case aS => exact (below_size (bAt HB.out)))
     (case aL => have := LMc4.out; omega)
     intro v172 w10 ho hb hg hat
     rw [← Ny171.out] at ho
     have n0_ := Aside0.mk (blk_grown (g := gb170) (o := .cells #[.int .i64 t164, .int .i64 t165, .int .i64 t166, .string t167, .int .i64 t168] 34 (0, 0)) (kAt BK170.out) hg (Kd.R_away HO_3.out (fun _ hk => hk)))
     have n1_ := Aside0.mk (hb)
     have n2_ := Aside0.mk (ho)
     clear BK170 HB HO_3
     have BK170 := n0_
     have HB := n1_
     have HO173 := n2_
     clear n0_ n1_ n2_ ho hb hg hat
     refine hK.out _ _ ⟨(blk_cell BK170.out 0).trans rfl, (blk_cell BK170.out 1).trans rfl, (blk_cell BK170.out 2).trans rfl, (blk_cell BK170.out 3).trans rfl, (blk_cell BK170.out 4).trans rfl⟩ (fun hHeld => ?_)
     clear hK K
     refine norm_ (a' := ?_) ?_ ?_
     rotate_left
     ·show Act.put _ (some 24) _ = _
      simp only [Act.put, List.setIfInBounds_toArray, List.set_cons_zero, List.set_cons_succ, i64_w, i32_w]
      rfl
     refine pv_ 6 (some 3) (bm 8 127) HT_.out ?_
     refine pv_ 7 (some 4) (bm 8 255) HT_.out ?_
     refine done_ (done_of HT_.out (by kernel_rfl)) ?_
     try go_wp2
     go_roundg k1
     case measure => have := HK1.out; omega
     case rel => exact ⟨(y171), (t166), sR, H', ⟨by have := HK1.out; omega⟩, ⟨RAt (Kd.R_mono HO173.out (fun _ hk => trivial))⟩, ⟨bAt HB.out⟩⟩
    ·exact nB H c4
   ·replace c3 := Bool.eq_false_iff.mpr c3
    subst c3
    replace H := fP H
    obtain rfl := Option.some.inj H
    go_wp2_with (first | ((with_reducible refine gate_callee (f := 22) rfl ?_); refine gL (some 10) Tryd.func22 #[.slice A0 l0.length c0, .int .i64 x4_1] rfl gA ?_; (with_reducible refine (token_Next.calls k1 _ _ l0 x4_1 t164 t165 t166 t167 t168 false _ ?side1 ?side2 ?side3 A2.out).mono ?_); (case side1 => exact Gl.below HG.out (bAt HB.out)); (case side2 => exact CAt (Kd.C_below HR0.out HB.out)); (case side3 => exact HC0.out); rintro e w11 ⟨rfl, hb⟩; refine ⟨_, rfl, ?_⟩; replace HO_3 := Aside0.mk (Kd.R_below (RAt HO_3.out) hb); replace HB := Aside0.mk (below_step (bAt HB.out) hb); (try clear hb); (try clear hb2); (try clear hk); (try clear hi)) | ((with_reducible refine gate_dst (N := 5) rfl ?_); refine box_event ?hg (N := 5) ?hd (cs := #[.int .i64 0, .int .i64 0, .int .i64 0, .string (⟨#[]⟩ : ByteArray), .int .i64 0]) (t := 34) ?hr ?_; (case hd => rfl); (case hg => rfl); (case hr => first | (go_simp; done) | (go_simp; rfl)); intro gb170 hg w12 hbox hb; replace HO_3 := Aside0.mk (Kd.R_below (Kd.R_elderB (RAt HO_3.out) gb170 (Nat.le_of_eq hg.symm)) hb); have BK170 := Aside0.mk (hbox); have GW170 := Aside0.mk (gE (g := gb170) hg HB.out); have GE170 := Aside0.mk (gE (g := gb170) hg HB.out); replace HB := Aside0.mk (below_step (bAt HB.out) hb); clear hb hbox hg; obtain ⟨hcz13_0, hcz13_1, hcz13_2, hcz13_3, hcz13_4, hfz13_0, hfz13_1, hfz13_2, hfz13_3, hfz13_4⟩ := blk5 BK170.out; obtain ⟨Ao14, co14, eo14⟩ := Kd.R_slice HO_3.out; subst eo14; obtain ⟨iq, hiq, _⟩ := info_parts info34; have hcapq := print_cap_of (P := Tryd.prog) 23 34 Tryd.underlying23 hiq Ao14 x3_1.length co14 (Kd.R_reads' HO_3.out).2.1; clear hiq))
    go_ret
    exact ⟨_, eR, Q_cap (RAt (Kd.R_mono (Kd.R_far (p := ⟨gb170, 4, none⟩) (Kd.R_far (p := ⟨gb170, 3, none⟩) (Kd.R_far (p := ⟨gb170, 2, none⟩) (Kd.R_far (p := ⟨gb170, 1, none⟩) (Kd.R_far (p := ⟨gb170, 0, none⟩) (Kd.R_mono HO_3.out (fun k_ hk => (⟨hk, hk.2⟩ : _ ∧ k_ ≠ gb170))) (fun _ hk => hk.2) (.int .i64 t164)) (fun _ hk => hk.2) (.int .i64 t165)) (fun _ hk => hk.2) (.int .i64 t166)) (fun _ hk => hk.2) (.string t167)) (fun _ hk => hk.2) (.int .i64 t168)) (fun _ hk => trivial))), bAt HB.out⟩
end Go.Proofs.YtdejidhgeefmeaaDoor.P
