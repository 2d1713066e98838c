/- Part of the proof: what the theorem needs of this text. -/
import Derived.Test.YtpkklbdclghcfaaDoorKHG
import Derived.Test.YtpkklbdclghcfaaDoorKHTX
import Derived.Test.YtpkklbdclghcfaaDoorKPx0
import Derived.Test.YtpkklbdclghcfaaDoorKPx3
namespace Go.Proofs.YtpkklbdclghcfaaDoor.P
open Go.RowKit Go.Proofs.YtpkklbdclghcfaaDoorW.PrintWords Go.Proofs.YtpkklbdclghcfaaDoorW.PrintLast Go.Proofs.YtpkklbdclghcfaaDoorW.PrintMore
attribute [local go_sem] max2_int min2_int max_two min_two max_three min_three max_four min_four   -- for this text's walks alone
set_option linter.unusedVariables false
set_option linter.unusedSimpArgs false
def lex_All.l0 : Nat → List Int → List (S38) → Int → Option ((List (S38)))
 | 0, _, _, _ => none
 | k + 1, x0, x3, x4 => (token_Next.f k x0 x4).bind fun bt180 => (if bt180.2.2.2.2.2 = true then (if x3.length < 2932031007402 then (lex_All.l0 k x0 (x3 ++ [(⟨bt180.1, bt180.2.1, bt180.2.2.1, bt180.2.2.2.1, bt180.2.2.2.2.1⟩ : S38)]) bt180.2.2.1) else (none)) else (some x3))
def lex_All.f (k : Nat) (l0 : List Int) : Option ((List (S38))) := lex_All.l0 k l0 ([] : List (S38)) 0
theorem lex_All.mono_l : ∀ k, (∀ y0 y1 y2, LeO (lex_All.l0 k y0 y1 y2) (lex_All.l0 (k + 1) y0 y1 y2))
 | 0 => fun _ _ _ r h => by simp [lex_All.l0] at h
 | k + 1 => by
  have ih0 := lex_All.mono_l k
  ·intro y0 y1 y2
   unfold lex_All.l0
   repeat' with_reducible first | exact ih0 _ _ _ | exact token_Next.mono _ _ _ | exact LeO.refl _ | exact LeO.none _ | refine LeO.ite ?_ ?_ | refine LeO.bind ?_ (fun _ => ?_)
theorem lex_All.mono : ∀ a0 k, LeO (lex_All.f k a0) (lex_All.f (k + 1) a0) := by
 intro a0 k
 have ih0 := lex_All.mono_l k
 unfold lex_All.f
 repeat' with_reducible first | exact ih0 _ _ _ | exact token_Next.mono _ _ _ | exact LeO.refl _ | exact LeO.none _ | refine LeO.ite ?_ ?_ | refine LeO.bind ?_ (fun _ => ?_)
def lex_All.T6 : Bool × List (List Nat × List Nat) := (true, [([], []), ([], []), ([1], [1]), ([0, 2], [0, 2]), ([], []), ([4], [4]), ([3, 3, 0, 1, 2, 3], [0, 3]), ([5, 6, 0, 1, 2, 3, 4, 5, 6], [5])])
def lex_All.B6 : List Nat := [0, 0, 2, 7, 0, 16, 15, 127]
theorem lex_All.tab6 : rtab .any (opsOf Tryd.f19 6) = lex_All.T6 := by kernel_rfl
theorem lex_All.bits6 : waitsOk lex_All.T6.2 lex_All.B6 = true := by kernel_rfl
set_option maxHeartbeats 8000000 in
set_option maxRecDepth 100000 in
theorem lex_All.calls (k : Nat) (A0 : Option Addr) (c0 : Nat) (l0 : List Int) (r : List (S38)) (w : World) (hG : Gl w) (hr0 : Kd.C (Kd.int .u8) w A0 l0.length l0) (hc0 : l0.length ≤ c0) (h : lex_All.f k l0 = some r) :
  Calls Tryd.prog 19 #[.slice A0 l0.length c0] w fun e w' => ∃ v0_ : Value, e = .returned (v0_) ∧ Kd.Q k38 38 w' w.heap.size (fun _ => True) v0_ r ∧ Below w.heap.size w w' := by
 have hu38 := Tryd.underlying38
 have HR0 := Aside0.mk hr0
 have HC0 := Aside0.mk hc0
 clear hr0 hc0
 have HB := Aside0.mk (Below.refl w.heap.size w)
 have HG := Aside0.mk hG
 clear hG
 have H : (lex_All.l0 k l0 ([] : List (S38)) 0) = some r := h
 clear h
 have H' := Aside0.mk H
 clear H
 go_enter Tryd.func19, Tryd.ntmps19
 go_wp2
 go_loopg [3, 4] k (fun kq v3 v4 w' => ∃ (x3_1 : List (S38)) (x4_1 : Int), v4 = .int .i64 x4_1 ∧ Aside0 (lex_All.l0 kq l0 x3_1 x4_1 = some r) ∧ Aside0 (kq ≤ k) ∧ Aside0 (Kd.R k38 38 w' w.heap.size (fun _ => True) v3 x3_1) ∧ Aside0 (Below w.heap.size w w'))
 case atStart => exact ⟨(([] : List (S38))), (0), sR, H', ⟨Nat.le_refl _⟩, ⟨by first | exact Kd.R_nil _ _ _ _ _ | exact Kd.N_nil _ _ _ _ _ | exact Kd.V_nil _ _ _ _ _ | exact Kd.Q_nil _ _ _ _ _ | exact Kd.S_nil _ _ _ _ _⟩, ⟨bAt HB.out⟩⟩
 case round =>
  clear H'
  try clear c1
  obtain ⟨x3_1, x4_1, rfl, HA, HK1, HO_3, HB⟩ := hrel
  cases gk with
  | zero => exact absurd HA.out (by simp [lex_All.l0])
  | succ k1 =>
   have H := HA.out
   clear HA
   simp only [lex_All.l0] at H
   obtain ⟨⟨t180, t181, t182, t183, t184, t185⟩, A2, H⟩ := bE H
   replace H : (if t185 = true then (if x3_1.length < 2932031007402 then (lex_All.l0 k1 l0 (x3_1 ++ [(⟨t180, t181, t182, t183, t184⟩ : S38)]) t182) else (none)) else (some x3_1)) = some r := H
   by_cases c3 : t185 = true
   ·subst c3
    replace H := tP H
    by_cases c4 : x3_1.length < 2932031007402
    ·rw [if_pos c4] at H
     have LMc4 := Aside0.mk c4
     clear c4
     obtain ⟨y187, hy187⟩ : ∃ y_ : List (S38), y_ = (x3_1 ++ [(⟨t180, t181, t182, t183, t184⟩ : S38)]) := ⟨_, rfl⟩
     replace H : (lex_All.l0 k1 l0 y187 t182) = some r := by first | (rw [hy187]; with_reducible exact H) | (have H2_ := (Option.bind_some _ _).symm.trans H; rw [hy187]; with_reducible exact H2_) | (have H2_ := (Option.bind_some _ _).symm.trans H; with_reducible exact H2_) | with_reducible exact H | (rw [hy187]; exact H) | exact H
     have Ny187 := Aside0.mk hy187
     clear hy187
     have H' := Aside0.mk H
     clear H
     try go_wp2_with (first | ((with_reducible refine gate_callee (f := 28) rfl ?_); refine gL (some 10) Tryd.func28 #[.slice A0 l0.length c0, .int .i64 x4_1] rfl gA ?_; (with_reducible refine (token_Next.calls k1 _ _ l0 x4_1 t180 t181 t182 t183 t184 true _ ?side1 ?side2 ?side3 A2.out).mono ?_); (case side1 => exact Gl.below HG.out (bAt HB.out)); (case side2 => exact CAt (Kd.C_below HR0.out HB.out)); (case side3 => exact HC0.out); rintro e w5 ⟨rfl, hb⟩; refine ⟨_, rfl, ?_⟩; replace HO_3 := Aside0.mk (Kd.R_below (RAt HO_3.out) hb); replace HB := Aside0.mk (below_step (bAt HB.out) hb); (try clear hb); (try clear hb2); (try clear hk); (try clear hi)) | ((with_reducible refine gate_dst (N := 5) rfl ?_); refine box_event ?hg (N := 5) ?hd (cs := #[.int .i64 0, .int .i64 0, .int .i64 0, .string (⟨#[]⟩ : ByteArray), .int .i64 0]) (t := 38) ?hr ?_; (case hd => rfl); (case hg => rfl); (case hr => first | (go_simp; done) | (go_simp; rfl)); intro gb186 hg w6 hbox hb; replace HO_3 := Aside0.mk (Kd.R_below (Kd.R_elderB (RAt HO_3.out) gb186 (Nat.le_of_eq hg.symm)) hb); have BK186 := Aside0.mk (hbox); have GW186 := Aside0.mk (gE (g := gb186) hg HB.out); have GE186 := Aside0.mk (gE (g := gb186) hg HB.out); replace HB := Aside0.mk (below_step (bAt HB.out) hb); clear hb hbox hg; obtain ⟨hcz7_0, hcz7_1, hcz7_2, hcz7_3, hcz7_4, hfz7_0, hfz7_1, hfz7_2, hfz7_3, hfz7_4⟩ := blk5 BK186.out))
     have n0_ : Aside0 (Kd.R k38 38 (((((w6.setCell ⟨gb186, 0, none⟩ (.int .i64 t180)).setCell ⟨gb186, 1, none⟩ (.int .i64 t181)).setCell ⟨gb186, 2, none⟩ (.int .i64 t182)).setCell ⟨gb186, 3, none⟩ (.string t183)).setCell ⟨gb186, 4, none⟩ (.int .i64 t184)) w.heap.size (fun k_ => k_ ≠ gb186) u3 x3_1) := ⟨RAt (Kd.R_mono (Kd.R_far (p := ⟨gb186, 4, none⟩) (Kd.R_far (p := ⟨gb186, 3, none⟩) (Kd.R_far (p := ⟨gb186, 2, none⟩) (Kd.R_far (p := ⟨gb186, 1, none⟩) (Kd.R_far (p := ⟨gb186, 0, none⟩) (Kd.R_mono HO_3.out (fun k_ hk => (⟨hk, hk.2⟩ : _ ∧ k_ ≠ gb186))) (fun _ hk => hk.2) (.int .i64 t180)) (fun _ hk => hk.2) (.int .i64 t181)) (fun _ hk => hk.2) (.int .i64 t182)) (fun _ hk => hk.2) (.string t183)) (fun _ hk => hk.2) (.int .i64 t184)) (fun _ hk => hk.1.2))⟩
     have n1_ : Aside0 ((((((w6.setCell ⟨gb186, 0, none⟩ (.int .i64 t180)).setCell ⟨gb186, 1, none⟩ (.int .i64 t181)).setCell ⟨gb186, 2, none⟩ (.int .i64 t182)).setCell ⟨gb186, 3, none⟩ (.string t183)).setCell ⟨gb186, 4, none⟩ (.int .i64 t184)).heap[gb186]? = some (.cells #[.int .i64 t180, .int .i64 t181, .int .i64 t182, .string t183, .int .i64 t184] 38 (0, 0))) := ⟨by refine bP #[.int .i64 t180, .int .i64 t181, .int .i64 t182, .string t183, .int .i64 0] 4 ?_; refine bP #[.int .i64 t180, .int .i64 t181, .int .i64 t182, .string (⟨#[]⟩ : ByteArray), .int .i64 0] 3 ?_; refine bP #[.int .i64 t180, .int .i64 t181, .int .i64 0, .string (⟨#[]⟩ : ByteArray), .int .i64 0] 2 ?_; refine bP #[.int .i64 t180, .int .i64 0, .int .i64 0, .string (⟨#[]⟩ : ByteArray), .int .i64 0] 1 ?_; refine bP #[.int .i64 0, .int .i64 0, .int .i64 0, .string (⟨#[]⟩ : ByteArray), .int .i64 0] 0 ?_; (with_reducible repeat (first | refine blk_drewN ?_ _ | refine blk_drew ?_ | refine blk_alloc ?_ _)); exact BK186.out⟩
     have n2_ : Aside0 (Below w.heap.size w (((((w6.setCell ⟨gb186, 0, none⟩ (.int .i64 t180)).setCell ⟨gb186, 1, none⟩ (.int .i64 t181)).setCell ⟨gb186, 2, none⟩ (.int .i64 t182)).setCell ⟨gb186, 3, none⟩ (.string t183)).setCell ⟨gb186, 4, none⟩ (.int .i64 t184))) := ⟨bAt HB.out⟩
     (try clear HO_3)
     (try clear BK186)
     (try clear HB)
     generalize (((((w6.setCell ⟨gb186, 0, none⟩ (.int .i64 t180)).setCell ⟨gb186, 1, none⟩ (.int .i64 t181)).setCell ⟨gb186, 2, none⟩ (.int .i64 t182)).setCell ⟨gb186, 3, none⟩ (.string t183)).setCell ⟨gb186, 4, none⟩ (.int .i64 t184)) = w8 at n0_ n1_ n2_ ⊢
     have HO_3 := n0_
     have BK186 := n1_
     have HB := n2_
     clear n0_ n1_ n2_
     replace HO_3 := Aside0.mk (Kd.R_drew HO_3.out)
     replace BK186 := Aside0.mk (blk_drew BK186.out)
     replace HB := Aside0.mk (below_drew1 HB.out)
     refine start_ (n := 8) (S := fun w' => w'.cell? ⟨gb186, 0, none⟩ = some (.int .i64 t180) ∧ w'.cell? ⟨gb186, 1, none⟩ = some (.int .i64 t181) ∧ w'.cell? ⟨gb186, 2, none⟩ = some (.int .i64 t182) ∧ w'.cell? ⟨gb186, 3, none⟩ = some (.string t183) ∧ w'.cell? ⟨gb186, 4, none⟩ = some (.int .i64 t184)) (ds := []) (bm 8 0) (by kernel_rfl) rfl rfl ⟨(blk_cell BK186.out 0).trans rfl, (blk_cell BK186.out 1).trans rfl, (blk_cell BK186.out 2).trans rfl, (blk_cell BK186.out 3).trans rfl, (blk_cell BK186.out 4).trans rfl⟩ (fun hHeld => ?_); refine with_tabW lex_All.tab6 lex_All.bits6 (fun HT_ HW_ => ?_)
     generalize w8.drew = w9 at HO_3 BK186 HB hHeld ⊢
     refine pv_ 0 (some 21) (bm 8 1) HT_.out ?_
     refine pv_ 4 (some 25) (bm 8 17) HT_.out ?_
     refine tk_ 1 (some 22) (bm 8 19) HT_.out HW_.out hHeld ?_
     refine tk_ 5 (some 26) (bm 8 51) HT_.out HW_.out hHeld ?_
     refine one_ (i := 2) (N := some 23) (bm 8 55) rfl rfl (one_of HT_.out (by kernel_rfl)) (by decide) (fun K hK => ?_)
     refine value_ (w1 := ?_) (v := ?_) (by rfl) rfl ?_ ?_
     rotate_left 2
     ·go_simp
      constructor
      ·rfl
      ·rfl
     refine hK.out _ _ ⟨(blk_cell (blk_alloc BK186.out _) 0).trans rfl, (blk_cell (blk_alloc BK186.out _) 1).trans rfl, (blk_cell (blk_alloc BK186.out _) 2).trans rfl, (blk_cell (blk_alloc BK186.out _) 3).trans rfl, (blk_cell (blk_alloc BK186.out _) 4).trans rfl⟩ (fun hHeld => ?_)
     clear hK K
     refine norm_ (a' := ?_) ?_ ?_
     rotate_left
     ·show Act.put _ (some 23) _ = _
      simp only [Act.put, List.setIfInBounds_toArray, List.set_cons_zero, List.set_cons_succ, i64_w, i32_w]
      rfl
     refine one_ (i := 3) (N := some 24) (bm 8 63) rfl rfl (one_of HT_.out (by kernel_rfl)) (by decide) (fun K hK => ?_)
     refine Kd.R_append_step k38 (w0 := w) w.heap.size (by rfl) (.tmp 21) (.tmp 23) 23 38 (.agg #[(.int .i64 0), (.int .i64 0), (.int .i64 0), (.string ⟨#[]⟩), (.int .i64 0)]) 48 rfl Tryd.underlying23 info38 rfl (by decide) (by omega) u3 x3_1 (⟨t180, t181, t182, t183, t184⟩ : S38) [.int .i64 t180, .int .i64 t181, .int .i64 t182, .string t183, .int .i64 t184] (fun k_ => k_ ≠ gb186) (fun _ => False) rfl rfl ?aP (fun _ hk => hk.elim) ?aF ?aO ?aB ?aS ?aL ?_
     (case aP => exact k38_mkM _ _ _ (⟨t180, t181, t182, t183, t184⟩ : S38))
     (case aB => exact (bAt HB.out))
     (case aF => exact (fun k_ hk => Kd.freshB (g := gb186) (o := .cells #[.int .i64 t180, .int .i64 t181, .int .i64 t182, .string t183, .int .i64 t184] 38 (0, 0)) (kAt BK186.out) k_ hk))
     (case aO => exact (RAt HO_3.out))
     (case aS => exact (below_size (bAt HB.out)))
     (case aL => have := LMc4.out; omega)
     intro v188 w10 ho hb hg hat
     rw [← Ny187.out] at ho
     have n0_ := Aside0.mk (blk_grown (g := gb186) (o := .cells #[.int .i64 t180, .int .i64 t181, .int .i64 t182, .string t183, .int .i64 t184] 38 (0, 0)) (kAt BK186.out) hg (Kd.R_away HO_3.out (fun _ hk => hk)))
     have n1_ := Aside0.mk (hb)
     have n2_ := Aside0.mk (ho)
     clear BK186 HB HO_3
     have BK186 := n0_
     have HB := n1_
     have HO189 := n2_
     clear n0_ n1_ n2_ ho hb hg hat
     refine hK.out _ _ ⟨(blk_cell BK186.out 0).trans rfl, (blk_cell BK186.out 1).trans rfl, (blk_cell BK186.out 2).trans rfl, (blk_cell BK186.out 3).trans rfl, (blk_cell BK186.out 4).trans rfl⟩ (fun hHeld => ?_)
     clear hK K
     refine norm_ (a' := ?_) ?_ ?_
     rotate_left
     ·show Act.put _ (some 24) _ = _
      simp only [Act.put, List.setIfInBounds_toArray, List.set_cons_zero, List.set_cons_succ, i64_w, i32_w]
      rfl
     refine pv_ 6 (some 3) (bm 8 127) HT_.out ?_
     refine pv_ 7 (some 4) (bm 8 255) HT_.out ?_
     refine done_ (done_of HT_.out (by kernel_rfl)) ?_
     try go_wp2
     go_roundg k1
     case measure => have := HK1.out; omega
     case rel => exact ⟨(y187), (t182), sR, H', ⟨by have := HK1.out; omega⟩, ⟨RAt (Kd.R_mono HO189.out (fun _ hk => trivial))⟩, ⟨bAt HB.out⟩⟩
    ·exact nB H c4
   ·replace c3 := Bool.eq_false_iff.mpr c3
    subst c3
    replace H := fP H
    obtain rfl := Option.some.inj H
    go_wp2_with (first | ((with_reducible refine gate_callee (f := 28) rfl ?_); refine gL (some 10) Tryd.func28 #[.slice A0 l0.length c0, .int .i64 x4_1] rfl gA ?_; (with_reducible refine (token_Next.calls k1 _ _ l0 x4_1 t180 t181 t182 t183 t184 false _ ?side1 ?side2 ?side3 A2.out).mono ?_); (case side1 => exact Gl.below HG.out (bAt HB.out)); (case side2 => exact CAt (Kd.C_below HR0.out HB.out)); (case side3 => exact HC0.out); rintro e w11 ⟨rfl, hb⟩; refine ⟨_, rfl, ?_⟩; replace HO_3 := Aside0.mk (Kd.R_below (RAt HO_3.out) hb); replace HB := Aside0.mk (below_step (bAt HB.out) hb); (try clear hb); (try clear hb2); (try clear hk); (try clear hi)) | ((with_reducible refine gate_dst (N := 5) rfl ?_); refine box_event ?hg (N := 5) ?hd (cs := #[.int .i64 0, .int .i64 0, .int .i64 0, .string (⟨#[]⟩ : ByteArray), .int .i64 0]) (t := 38) ?hr ?_; (case hd => rfl); (case hg => rfl); (case hr => first | (go_simp; done) | (go_simp; rfl)); intro gb186 hg w12 hbox hb; replace HO_3 := Aside0.mk (Kd.R_below (Kd.R_elderB (RAt HO_3.out) gb186 (Nat.le_of_eq hg.symm)) hb); have BK186 := Aside0.mk (hbox); have GW186 := Aside0.mk (gE (g := gb186) hg HB.out); have GE186 := Aside0.mk (gE (g := gb186) hg HB.out); replace HB := Aside0.mk (below_step (bAt HB.out) hb); clear hb hbox hg; obtain ⟨hcz13_0, hcz13_1, hcz13_2, hcz13_3, hcz13_4, hfz13_0, hfz13_1, hfz13_2, hfz13_3, hfz13_4⟩ := blk5 BK186.out; obtain ⟨Ao14, co14, eo14⟩ := Kd.R_slice HO_3.out; subst eo14; obtain ⟨iq, hiq, _⟩ := info_parts info38; have hcapq := print_cap_of (P := Tryd.prog) 23 38 Tryd.underlying23 hiq Ao14 x3_1.length co14 (Kd.R_reads' HO_3.out).2.1; clear hiq))
    go_ret
    exact ⟨_, eR, Q_cap (RAt (Kd.R_mono (Kd.R_far (p := ⟨gb186, 4, none⟩) (Kd.R_far (p := ⟨gb186, 3, none⟩) (Kd.R_far (p := ⟨gb186, 2, none⟩) (Kd.R_far (p := ⟨gb186, 1, none⟩) (Kd.R_far (p := ⟨gb186, 0, none⟩) (Kd.R_mono HO_3.out (fun k_ hk => (⟨hk, hk.2⟩ : _ ∧ k_ ≠ gb186))) (fun _ hk => hk.2) (.int .i64 t180)) (fun _ hk => hk.2) (.int .i64 t181)) (fun _ hk => hk.2) (.int .i64 t182)) (fun _ hk => hk.2) (.string t183)) (fun _ hk => hk.2) (.int .i64 t184)) (fun _ hk => trivial))), bAt HB.out⟩
def split_Pieces_1.f (a0_0 : Int) (a0_1 : Int) (a0_2 : Int) (a0_3 : ByteArray) (a0_4 : Int) : Option (Bool) := some (a0_0 == 7)
set_option maxHeartbeats 8000000 in
set_option maxRecDepth 100000 in
theorem split_Pieces_1.calls (a0_0 : Int) (a0_1 : Int) (a0_2 : Int) (a0_3 : ByteArray) (a0_4 : Int) (r : Bool) (w : World) (h : split_Pieces_1.f a0_0 a0_1 a0_2 a0_3 a0_4 = some r) :
  Calls Tryd.prog 26 #[.agg #[.int .i64 a0_0, .int .i64 a0_1, .int .i64 a0_2, .string a0_3, .int .i64 a0_4]] w fun e w' => e = .returned (.bool r) ∧ Below w.heap.size w w' := by
 have hu38 := Tryd.underlying38
 have HB := Aside0.mk (Below.refl w.heap.size w)
 have H : (some (a0_0 == 7)) = some r := h
 clear h
 obtain rfl := Option.some.inj H
 go_enter Tryd.func26, Tryd.ntmps26
 go_wp2_with (first | ((with_reducible refine gate_dst (N := 1) rfl ?_); refine box_event ?hg (N := 1) ?hd (cs := #[.int .i64 a0_0, .int .i64 a0_1, .int .i64 a0_2, .string a0_3, .int .i64 a0_4]) (t := 38) ?hr ?_; (case hd => rfl); (case hg => rfl); (case hr => first | (go_simp; done) | (go_simp; rfl)); intro gb190 hg w2 hbox hb; have BK190 := Aside0.mk (hbox); have GW190 := Aside0.mk (gE (g := gb190) hg HB.out); have GE190 := Aside0.mk (gE (g := gb190) hg HB.out); replace HB := Aside0.mk (below_step (bAt HB.out) hb); clear hb hbox hg; obtain ⟨hcz3_0, hcz3_1, hcz3_2, hcz3_3, hcz3_4, hfz3_0, hfz3_1, hfz3_2, hfz3_3, hfz3_4⟩ := blk5 BK190.out))
 go_ret
 exact ⟨eR, bAt HB.out⟩
def api_Token_31.l0 : Nat → List (S38) → Int → Int → Option (Int)
 | 0, _, _, _ => none
 | k + 1, x0, x7, x8 => if x8 < x7 then (if 0 ≤ x8 then (if x8 < (x0.length : Int) then ((split_Pieces_1.f ((rd_T38 x0 x8).f0) ((rd_T38 x0 x8).f1) ((rd_T38 x0 x8).f2) ((rd_T38 x0 x8).f3) ((rd_T38 x0 x8).f4)).bind fun t192 => (if t192 = true then (some x8) else (api_Token_31.l0 k x0 x7 (wrap64 (x8 + 1))))) else (none)) else (none)) else (some (-1))
def api_Token_31.f (k : Nat) (l0 : List (S38)) : Option (Int) := api_Token_31.l0 k l0 (l0.length : Int) 0
theorem api_Token_31.mono_l : ∀ k, (∀ y0 y1 y2, LeO (api_Token_31.l0 k y0 y1 y2) (api_Token_31.l0 (k + 1) y0 y1 y2))
 | 0 => fun _ _ _ r h => by simp [api_Token_31.l0] at h
 | k + 1 => by
  have ih0 := api_Token_31.mono_l k
  ·intro y0 y1 y2
   unfold api_Token_31.l0
   repeat' with_reducible first | exact ih0 _ _ _ | exact LeO.refl _ | exact LeO.none _ | refine LeO.ite ?_ ?_ | refine LeO.bind ?_ (fun _ => ?_)
theorem api_Token_31.mono : ∀ a0 k, LeO (api_Token_31.f k a0) (api_Token_31.f (k + 1) a0) := by
 intro a0 k
 have ih0 := api_Token_31.mono_l k
 unfold api_Token_31.f
 repeat' with_reducible first | exact ih0 _ _ _ | exact LeO.refl _ | exact LeO.none _ | refine LeO.ite ?_ ?_ | refine LeO.bind ?_ (fun _ => ?_)
set_option maxHeartbeats 8000000 in
set_option maxRecDepth 100000 in
theorem api_Token_31.calls (k : Nat) (A0 : Option Addr) (c0 : Nat) (l0 : List (S38)) (r : Int) (w : World) (hr0 : Kd.C k38 w A0 l0.length l0) (hc0 : l0.length ≤ c0) (h : api_Token_31.f k l0 = some r) :
  Calls Tryd.prog 31 #[.slice A0 l0.length c0, .func (.func 26) #[] #[]] w fun e w' => e = .returned (.int .i64 r) ∧ Below w.heap.size w w' := by
 have hu38 := Tryd.underlying38
 have HR0 := Aside0.mk hr0
 have HC0 := Aside0.mk hc0
 clear hr0 hc0
 have HB := Aside0.mk (Below.refl w.heap.size w)
 have H : (api_Token_31.l0 k l0 (l0.length : Int) 0) = some r := h
 clear h
 have H' := Aside0.mk H
 clear H
 go_enter Tryd.func31, Tryd.ntmps31
 go_wp2
 go_loopg [8] k (fun kq v8 w' => ∃ (x8_1 : Int), v8 = .int .i64 x8_1 ∧ Aside0 (api_Token_31.l0 kq l0 (l0.length : Int) x8_1 = some r) ∧ Aside0 (kq ≤ k) ∧ Aside0 (Below w.heap.size w w'))
 case atStart => exact ⟨(0), sR, H', ⟨Nat.le_refl _⟩, ⟨bAt HB.out⟩⟩
 case round =>
  clear H'
  obtain ⟨x8_1, rfl, HA, HK1, HB⟩ := hrel
  cases gk with
  | zero => exact absurd HA.out (by simp [api_Token_31.l0])
  | succ k1 =>
   have H := HA.out
   clear HA
   simp only [api_Token_31.l0] at H
   by_cases c2 : x8_1 < (l0.length : Int)
   ·rw [if_pos c2] at H
    have c2b0 := decide_eq_true c2
    clear c2
    by_cases c3 : 0 ≤ x8_1
    ·rw [if_pos c3] at H
     have c3b0 := decide_eq_true c3
     clear c3
     by_cases c4 : x8_1 < (l0.length : Int)
     ·rw [if_pos c4] at H
      have c4b0 := decide_eq_true c4
      clear c4
      obtain ⟨t192, A5, H⟩ := bE H
      by_cases c6 : t192 = true
      ·subst c6
       replace H := tP H
       obtain rfl := Option.some.inj H
       have p191 : 0 ≤ (x8_1 : Int) := dt
       have q191 : x8_1 < (l0.length : Int) := dt
       obtain ⟨ad191, e191, hx191_0, hx191_1, hx191_2, hx191_3, hx191_4⟩ := at_T38 HR0.out x8_1 p191 q191
       cases e191
       replace hx191_0 := pw_cell_below HB.out hx191_0
       replace hx191_1 := pw_cell_below HB.out hx191_1
       replace hx191_2 := pw_cell_below HB.out hx191_2
       replace hx191_3 := pw_cell_below HB.out hx191_3
       replace hx191_4 := pw_cell_below HB.out hx191_4
       replace p191 := eq_true p191
       replace q191 := eq_true q191
       go_wp2_with (first | ((with_reducible refine gate_dst (N := 16) rfl ?_); refine goesF_ (some 16) rfl rfl 26 Tryd.func26 (by kernel_rfl) rfl #[.agg #[.int .i64 ((rd_T38 l0 x8_1).f0), .int .i64 ((rd_T38 l0 x8_1).f1), .int .i64 ((rd_T38 l0 x8_1).f2), .string ((rd_T38 l0 x8_1).f3), .int .i64 ((rd_T38 l0 x8_1).f4)]] rfl gA ?_; (with_reducible refine (split_Pieces_1.calls ((rd_T38 l0 x8_1).f0) ((rd_T38 l0 x8_1).f1) ((rd_T38 l0 x8_1).f2) ((rd_T38 l0 x8_1).f3) ((rd_T38 l0 x8_1).f4) true _ A5.out).mono ?_); rintro e w7 ⟨rfl, hb⟩; refine ⟨_, rfl, ?_⟩; replace HB := Aside0.mk (below_step (bAt HB.out) hb); (try clear hb); (try clear hb2); (try clear hk); (try clear hi)))
       go_ret
       exact ⟨eR, bAt HB.out⟩
      ·replace c6 := Bool.eq_false_iff.mpr c6
       subst c6
       replace H := fP H
       have H' := Aside0.mk H
       clear H
       have p191 : 0 ≤ (x8_1 : Int) := dt
       have q191 : x8_1 < (l0.length : Int) := dt
       obtain ⟨ad191, e191, hx191_0, hx191_1, hx191_2, hx191_3, hx191_4⟩ := at_T38 HR0.out x8_1 p191 q191
       cases e191
       replace hx191_0 := pw_cell_below HB.out hx191_0
       replace hx191_1 := pw_cell_below HB.out hx191_1
       replace hx191_2 := pw_cell_below HB.out hx191_2
       replace hx191_3 := pw_cell_below HB.out hx191_3
       replace hx191_4 := pw_cell_below HB.out hx191_4
       replace p191 := eq_true p191
       replace q191 := eq_true q191
       go_wp2_with (first | ((with_reducible refine gate_dst (N := 16) rfl ?_); refine goesF_ (some 16) rfl rfl 26 Tryd.func26 (by kernel_rfl) rfl #[.agg #[.int .i64 ((rd_T38 l0 x8_1).f0), .int .i64 ((rd_T38 l0 x8_1).f1), .int .i64 ((rd_T38 l0 x8_1).f2), .string ((rd_T38 l0 x8_1).f3), .int .i64 ((rd_T38 l0 x8_1).f4)]] rfl gA ?_; (with_reducible refine (split_Pieces_1.calls ((rd_T38 l0 x8_1).f0) ((rd_T38 l0 x8_1).f1) ((rd_T38 l0 x8_1).f2) ((rd_T38 l0 x8_1).f3) ((rd_T38 l0 x8_1).f4) false _ A5.out).mono ?_); rintro e w8 ⟨rfl, hb⟩; refine ⟨_, rfl, ?_⟩; replace HB := Aside0.mk (below_step (bAt HB.out) hb); (try clear hb); (try clear hb2); (try clear hk); (try clear hi)))
       go_roundg k1
       case measure => have := HK1.out; omega
       case rel => exact ⟨(wrap64 (x8_1 + 1)), sR, H', ⟨by have := HK1.out; omega⟩, ⟨bAt HB.out⟩⟩
     ·exact nB H c4
    ·exact nB H c3
   ·rw [if_neg c2] at H
    have c2b0 := decide_eq_false c2
    clear c2
    obtain rfl := Option.some.inj H
    go_wp2
    go_ret
    exact ⟨eR, bAt HB.out⟩
def api_Token_25.l0 : Nat → List (S38) → List (List (S38)) → Option ((List (List (S38))))
 | 0, _, _ => none
 | k + 1, x0, x5 => if (x0.length : Int) > 0 then ((api_Token_31.f k x0).bind fun t193 => (if (wrap64 (t193 + 1)) = 0 then (if 0 ≤ (x0.length : Int) then (if (x0.length : Int) ≤ (x0.length : Int) then (if x5.length < 5864062014805 then (api_Token_25.l0 k (x0.drop ((x0.length : Int) : Int).toNat) (x5 ++ [(x0.take ((x0.length : Int) : Int).toNat)])) else (none)) else (none)) else (none)) else (if 0 ≤ (wrap64 (t193 + 1)) then (if (wrap64 (t193 + 1)) ≤ (x0.length : Int) then (if x5.length < 5864062014805 then (api_Token_25.l0 k (x0.drop ((wrap64 (t193 + 1)) : Int).toNat) (x5 ++ [(x0.take ((wrap64 (t193 + 1)) : Int).toNat)])) else (none)) else (none)) else (none)))) else (some x5)
def api_Token_25.f (k : Nat) (l0 : List (S38)) : Option ((List (List (S38)))) := api_Token_25.l0 k l0 ([] : List (List (S38)))
theorem api_Token_25.mono_l : ∀ k, (∀ y0 y1, LeO (api_Token_25.l0 k y0 y1) (api_Token_25.l0 (k + 1) y0 y1))
 | 0 => fun _ _ r h => by simp [api_Token_25.l0] at h
 | k + 1 => by
  have ih0 := api_Token_25.mono_l k
  ·intro y0 y1
   unfold api_Token_25.l0
   repeat' with_reducible first | exact ih0 _ _ | exact api_Token_31.mono _ _ | exact LeO.refl _ | exact LeO.none _ | refine LeO.ite ?_ ?_ | refine LeO.bind ?_ (fun _ => ?_)
theorem api_Token_25.mono : ∀ a0 k, LeO (api_Token_25.f k a0) (api_Token_25.f (k + 1) a0) := by
 intro a0 k
 have ih0 := api_Token_25.mono_l k
 unfold api_Token_25.f
 repeat' with_reducible first | exact ih0 _ _ | exact api_Token_31.mono _ _ | exact LeO.refl _ | exact LeO.none _ | refine LeO.ite ?_ ?_ | refine LeO.bind ?_ (fun _ => ?_)
set_option maxHeartbeats 8000000 in
set_option maxRecDepth 100000 in
theorem api_Token_25.calls (k : Nat) (P0_ : Nat → Prop) (A0 : Option Addr) (c0 : Nat) (l0 : List (S38)) (r : List (List (S38))) (w : World) (hs0 : Kd.V k38 38 w w.heap.size (fun k_ => P0_ k_) (.slice A0 l0.length c0) l0) (h : api_Token_25.f k l0 = some r) :
  Calls Tryd.prog 25 #[.slice A0 l0.length c0, .func (.func 26) #[] #[]] w fun e w' => ∃ v0_ : Value, e = .returned (v0_) ∧ Kd.N (Kd.slice 38 k38) 23 w' w.heap.size (fun k_ => (P0_ k_ ∨ w.heap.size ≤ k_)) v0_ r ∧ Below w.heap.size w w' := by
 have HO0 := Aside0.mk (show Kd.V k38 38 w w.heap.size (fun k_ => (P0_ k_ ∨ w.heap.size ≤ k_)) (.slice A0 l0.length c0) l0 from Kd.V_mono hs0 (fun k_ hk => .inl hk))
 have HB := Aside0.mk (Below.refl w.heap.size w)
 have H : (api_Token_25.l0 k l0 ([] : List (List (S38)))) = some r := h
 clear h
 have H' := Aside0.mk H
 clear H
 go_enter Tryd.func25, Tryd.ntmps25
 go_wp2
 go_loopg [0, 5] k (fun kq v0 v5 w' => ∃ (x0_1 : List (S38)) (x5_1 : List (List (S38))), Aside0 (api_Token_25.l0 kq x0_1 x5_1 = some r) ∧ Aside0 (kq ≤ k) ∧ Aside0 (Kd.V k38 38 w' w.heap.size (fun k_ => (P0_ k_ ∨ w.heap.size ≤ k_) ∧ some k_ ≠ (v5 : Value).ownBlock) v0 x0_1) ∧ Aside0 (Kd.N (Kd.slice 38 k38) 23 w' w.heap.size (fun k_ => (P0_ k_ ∨ w.heap.size ≤ k_)) v5 x5_1) ∧ Aside0 (Below w.heap.size w w'))
 case atStart => exact ⟨(l0), (([] : List (List (S38)))), H', ⟨Nat.le_refl _⟩, ⟨VAt (Kd.V_mono HO0.out (fun _ hk => ⟨hk, (by simp [Value.ownBlock])⟩))⟩, ⟨by first | exact Kd.S_nil _ _ _ _ _ | exact Kd.N_nil _ _ _ _ _ | exact Kd.V_nil _ _ _ _ _ | exact Kd.Q_nil _ _ _ _ _ | exact Kd.R_nil _ _ _ _ _⟩, ⟨bAt HB.out⟩⟩
 case round =>
  clear H'
  obtain ⟨x0_1, x5_1, HA, HK1, HO_0, HO_5, HB⟩ := hrel
  cases gk with
  | zero => exact absurd HA.out (by simp [api_Token_25.l0])
  | succ k1 =>
   have H := HA.out
   clear HA
   simp only [api_Token_25.l0] at H
   by_cases c2 : (x0_1.length : Int) > 0
   ·rw [if_pos c2] at H
    have c2b0 : decide (0 < (x0_1.length : Int)) = true := decide_eq_true c2
    have c2b1 : decide (0 < x0_1.length) = true := decide_eq_true (by omega)
    clear c2
    obtain ⟨t193, A3, H⟩ := bE H
    by_cases c4 : (wrap64 (t193 + 1)) = 0
    ·rw [if_pos c4] at H
     obtain ⟨c4b0, c4b1⟩ := eqB c4
     clear c4
     by_cases c5 : 0 ≤ (x0_1.length : Int)
     ·rw [if_pos c5] at H
      have c5b0 := eq_true c5
      have c5b1 := decide_eq_true c5
      clear c5
      by_cases c6 : (x0_1.length : Int) ≤ (x0_1.length : Int)
      ·rw [if_pos c6] at H
       have c6b0 := eq_true c6
       have c6b1 := decide_eq_true c6
       clear c6
       obtain ⟨y194, hy194⟩ : ∃ y_ : List (S38), y_ = (x0_1.take ((x0_1.length : Int) : Int).toNat) := ⟨_, rfl⟩
       replace H : (if x5_1.length < 5864062014805 then (api_Token_25.l0 k1 (x0_1.drop ((x0_1.length : Int) : Int).toNat) (x5_1 ++ [y194])) else (none)) = some r := by first | (rw [hy194]; with_reducible exact H) | (have H2_ := (Option.bind_some _ _).symm.trans H; rw [hy194]; with_reducible exact H2_) | (have H2_ := (Option.bind_some _ _).symm.trans H; with_reducible exact H2_) | with_reducible exact H | (rw [hy194]; exact H) | exact H
       have Ny194 := Aside0.mk hy194
       clear hy194
       by_cases c7 : x5_1.length < 5864062014805
       ·rw [if_pos c7] at H
        have LMc7 := Aside0.mk c7
        clear c7
        obtain ⟨y199, hy199⟩ : ∃ y_ : List (List (S38)), y_ = (x5_1 ++ [y194]) := ⟨_, rfl⟩
        replace H : (api_Token_25.l0 k1 (x0_1.drop ((x0_1.length : Int) : Int).toNat) y199) = some r := by first | (rw [hy199]; with_reducible exact H) | (have H2_ := (Option.bind_some _ _).symm.trans H; rw [hy199]; with_reducible exact H2_) | (have H2_ := (Option.bind_some _ _).symm.trans H; with_reducible exact H2_) | with_reducible exact H | (rw [hy199]; exact H) | exact H
        have Ny199 := Aside0.mk hy199
        clear hy199
        have c8b0 := eq_true (dt : 0 ≤ (x0_1.length : Int))
        have c9b0 := eq_true (dt : (x0_1.length : Int) ≤ (x0_1.length : Int))
        obtain ⟨y202, hy202⟩ : ∃ y_ : List (S38), y_ = (x0_1.drop ((x0_1.length : Int) : Int).toNat) := ⟨_, rfl⟩
        replace H : (api_Token_25.l0 k1 y202 y199) = some r := by first | (rw [hy202]; with_reducible exact H) | (have H2_ := (Option.bind_some _ _).symm.trans H; rw [hy202]; with_reducible exact H2_) | (have H2_ := (Option.bind_some _ _).symm.trans H; with_reducible exact H2_) | with_reducible exact H | (rw [hy202]; exact H) | exact H
        have Ny202 := Aside0.mk hy202
        clear hy202
        have H' := Aside0.mk H
        clear H
        obtain ⟨Ao10, co10, eo10⟩ := Kd.V_slice HO_0.out
        subst eo10
        go_wp2_with (first | ((with_reducible refine gate_callee (f := 31) rfl ?_); refine gL (some 12) Tryd.func31 #[.slice Ao10 x0_1.length co10, .func (.func 26) #[] #[]] rfl gA ?_; (with_reducible refine (api_Token_31.calls k1 _ _ x0_1 t193 _ ?side1 ?side2 A3.out).mono ?_); (case side1 => exact CAt ((Kd.V_reads' HO_0.out).2.2)); (case side2 => exact (Kd.V_reads' HO_0.out).2.1); rintro e w11 ⟨rfl, hb⟩; refine ⟨_, rfl, ?_⟩; replace HO_0 := Aside0.mk (Kd.V_below (VAt HO_0.out) hb); replace HO_5 := Aside0.mk (Kd.N_below (NAt HO_5.out) hb); replace HB := Aside0.mk (below_step (bAt HB.out) hb); (try clear hb); (try clear hb2); (try clear hk); (try clear hi); have q12 : ((x0_1.length : Int) : Int) ≤ ((x0_1.length : Int) : Int) := dt; obtain ⟨i012, hi012, _, hsz12, _⟩ := info_parts info38; have hroom12 : x0_1.length ≤ co10 := (Kd.V_reads' HO_0.out).2.1; have hC12 : Kd.F k38 _ _ Ao10 x0_1.length x0_1 := (Kd.V_at (base := w.heap.size) HO_0.out).2.2; have hcut12 := cut_to_cap (P := Tryd.prog) 23 38 .i64 .i64 Tryd.underlying23 hi012 Ao10 x0_1.length co10 (x0_1.length : Int) dt q12 hroom12; have hr12 := Kd.F_take (m := ((x0_1.length : Int) : Int).toNat) hC12 (by omega); have hy12 : y194.length = ((x0_1.length : Int) : Int).toNat := (by rw [Ny194.out, List.length_take]; omega); rw [← Ny194.out] at hr12; rw [← hy12] at hcut12; have HO198 := Aside0.mk (show Kd.V k38 38 _ w.heap.size _ (.slice Ao10 y194.length y194.length) y194 from Kd.V_mk (by omega) hr12); have HC198 := Aside0.mk (show y194.length ≤ y194.length from by omega); clear hr12 hC12 hroom12 hi012 hsz12; have KY12 := Aside0.mk hy12; clear hy12; replace q12 := eq_true q12) | ((with_reducible refine gate_builtin (b := .append) (xs := #[.tmp 18, .tmp 23]) rfl ?_); at_builtin; refine Kd.N_append (Kd.slice 38 k38) (w0 := w) w.heap.size rfl (.tmp 18) (.tmp 23) 50 23 (.slice none 0 0) 24 rfl Tryd.underlying50 info23 rfl (by decide) (by omega) u5 x5_1 y194 [.slice Ao10 y194.length y194.length] (fun k_ => (P0_ k_ ∨ w.heap.size ≤ k_)) (fun k_ => ((fun k_ => (P0_ k_ ∨ w.heap.size ≤ k_))) k_ ∧ some k_ ≠ (u5 : Value).ownBlock) rfl rfl ?aP (fun _ hk => hk) ?aF ?aO ?aB ?aS ?aL ?_; (case aP => exact (Kd.FK_slice_mk (Kd.V_reads' (Kd.V_mono (ok' := (fun k_ => ((fun k_ => (P0_ k_ ∨ w.heap.size ≤ k_))) k_ ∧ some k_ ≠ (u5 : Value).ownBlock)) (HO198.out) (fun k_ hk => ⟨hk.1, hk.2⟩))).2.1 (Kd.V_F (Kd.V_mono (ok' := (fun k_ => ((fun k_ => (P0_ k_ ∨ w.heap.size ≤ k_))) k_ ∧ some k_ ≠ (u5 : Value).ownBlock)) (HO198.out) (fun k_ hk => ⟨hk.1, hk.2⟩))))); (case aB => exact (bAt HB.out)); (case aF => exact (fun k_ hk => (.inr (Nat.le_trans (below_size (bAt HB.out)) hk)))); (case aO => exact (NAt HO_5.out)); (case aS => exact (below_size (bAt HB.out))); (case aL => have := LMc7.out; omega); intro v200 w13 ho hb hg hat; rw [← Ny199.out] at ho; replace HO_0 := Aside0.mk (Kd.V_afterv (ok := (fun k_ => (P0_ k_ ∨ w.heap.size ≤ k_))) (VAt HO_0.out) hg hat); replace HO198 := Aside0.mk (Kd.V_afterv (ok := (fun k_ => (P0_ k_ ∨ w.heap.size ≤ k_))) (VAt HO198.out) hg hat); replace HB := Aside0.mk (hb); have HO201 := Aside0.mk (ho); clear HO_5; clear ho hb hg hat; have q14 : ((x0_1.length : Int) : Int) ≤ ((x0_1.length : Int) : Int) := dt; obtain ⟨i014, hi014, _, hsz14, _⟩ := info_parts info38; have hroom14 : x0_1.length ≤ co10 := (Kd.V_reads' HO_0.out).2.1; have hC14 : Kd.F k38 _ _ Ao10 x0_1.length x0_1 := (Kd.V_at (base := w.heap.size) HO_0.out).2.2; have q014 : (0 : Int) ≤ ((x0_1.length : Int) : Int) := dt; have hcut14 := cut_from (P := Tryd.prog) 23 38 .i64 Tryd.underlying23 hi014 5 hsz14 Ao10 x0_1.length co10 (x0_1.length : Int) q014 q14; have hr14 := Kd.F_cut (m := ((x0_1.length : Int) : Int).toNat) (c := co10) hC14 (by omega) hroom14; obtain ⟨A14, hA14⟩ : ∃ A1, A1 = (if co10 = ((x0_1.length : Int) : Int).toNat then Ao10 else (Ao10 : Option Addr).map (·.add (((x0_1.length : Int) : Int).toNat * 5))) := ⟨_, rfl⟩; obtain ⟨c14, hc14⟩ : ∃ c1, c1 = co10 - ((x0_1.length : Int) : Int).toNat := ⟨_, rfl⟩; have hy14 : y202.length = x0_1.length - ((x0_1.length : Int) : Int).toNat := (by rw [Ny202.out, List.length_drop] <;> omega); rw [show (x0_1).drop ((x0_1.length : Int) : Int).toNat = y202 from Ny202.out.symm] at hr14; replace hr14 : Kd.F k38 _ _ A14 y202.length y202 := (by rw [hA14]; exact hr14); rw [← hy14, ← hA14, ← hc14] at hcut14; have HO206 := Aside0.mk (show Kd.V k38 38 _ w.heap.size _ (.slice A14 y202.length c14) y202 from Kd.V_mk (by rw [hy14, hc14]; exact Nat.sub_le_sub_right hroom14 _) hr14); have HC206 := Aside0.mk (show y202.length ≤ c14 from by rw [hy14, hc14]; exact Nat.sub_le_sub_right hroom14 _); clear hr14 hC14 hroom14 hi014 hsz14 hc14; have KY14 := Aside0.mk hy14; have KA14 := Aside0.mk hA14; clear hy14 hA14; replace q14 := eq_true q14))
        go_roundg k1
        case measure => have := HK1.out; omega
        case rel => exact ⟨(y202), (y199), H', ⟨by have := HK1.out; omega⟩, ⟨VAt HO206.out⟩, ⟨NAt HO201.out⟩, ⟨bAt HB.out⟩⟩
       ·exact nB H c7
      ·exact nB H c6
     ·exact nB H c5
    ·rw [if_neg c4] at H
     obtain ⟨c4b0, c4b1⟩ := neB c4
     obtain ⟨ji15, hji15⟩ : ∃ j_ : Int, (wrap64 (t193 + 1)) = j_ := ⟨_, rfl⟩
     replace H : (if 0 ≤ (ji15) then (if (ji15) ≤ (x0_1.length : Int) then (if x5_1.length < 5864062014805 then (api_Token_25.l0 k1 (x0_1.drop ((ji15) : Int).toNat) (x5_1 ++ [(x0_1.take ((ji15) : Int).toNat)])) else (none)) else (none)) else (none)) = some r := by first | (rw [hji15] at H; exact H) | (simp only [hji15] at H ⊢; exact H)
     (try rw [hji15] at c4b0)
     (try rw [hji15] at c4b1)
     (try rw [hji15] at A3)
     have hji15w : (IntKind.i64.wrap (t193 + 1)) = ji15 := (i64_w _).trans hji15
     by_cases c16 : 0 ≤ (ji15)
     ·rw [if_pos c16] at H
      have c16b0 := eq_true c16
      have c16b1 := decide_eq_true c16
      clear c16
      by_cases c17 : (ji15) ≤ (x0_1.length : Int)
      ·rw [if_pos c17] at H
       have c17b0 := eq_true c17
       have c17b1 := decide_eq_true c17
       clear c17
       obtain ⟨y207, hy207⟩ : ∃ y_ : List (S38), y_ = (x0_1.take ((ji15) : Int).toNat) := ⟨_, rfl⟩
       replace H : (if x5_1.length < 5864062014805 then (api_Token_25.l0 k1 (x0_1.drop ((ji15) : Int).toNat) (x5_1 ++ [y207])) else (none)) = some r := by first | (rw [hy207]; with_reducible exact H) | (have H2_ := (Option.bind_some _ _).symm.trans H; rw [hy207]; with_reducible exact H2_) | (have H2_ := (Option.bind_some _ _).symm.trans H; with_reducible exact H2_) | with_reducible exact H | (rw [hy207]; exact H) | exact H
       have Ny207 := Aside0.mk hy207
       clear hy207
       by_cases c18 : x5_1.length < 5864062014805
       ·rw [if_pos c18] at H
        have LMc18 := Aside0.mk c18
        clear c18
        obtain ⟨y212, hy212⟩ : ∃ y_ : List (List (S38)), y_ = (x5_1 ++ [y207]) := ⟨_, rfl⟩
        replace H : (api_Token_25.l0 k1 (x0_1.drop ((ji15) : Int).toNat) y212) = some r := by first | (rw [hy212]; with_reducible exact H) | (have H2_ := (Option.bind_some _ _).symm.trans H; rw [hy212]; with_reducible exact H2_) | (have H2_ := (Option.bind_some _ _).symm.trans H; with_reducible exact H2_) | with_reducible exact H | (rw [hy212]; exact H) | exact H
        have Ny212 := Aside0.mk hy212
        clear hy212
        have c19b0 := eq_true (dt : 0 ≤ (ji15))
        have c20b0 := eq_true (dt : (ji15) ≤ (x0_1.length : Int))
        obtain ⟨y215, hy215⟩ : ∃ y_ : List (S38), y_ = (x0_1.drop ((ji15) : Int).toNat) := ⟨_, rfl⟩
        replace H : (api_Token_25.l0 k1 y215 y212) = some r := by first | (rw [hy215]; with_reducible exact H) | (have H2_ := (Option.bind_some _ _).symm.trans H; rw [hy215]; with_reducible exact H2_) | (have H2_ := (Option.bind_some _ _).symm.trans H; with_reducible exact H2_) | with_reducible exact H | (rw [hy215]; exact H) | exact H
        have Ny215 := Aside0.mk hy215
        clear hy215
        have H' := Aside0.mk H
        clear H
        obtain ⟨Ao21, co21, eo21⟩ := Kd.V_slice HO_0.out
        subst eo21
        go_wp2_with (first | ((with_reducible refine gate_callee (f := 31) rfl ?_); refine gL (some 12) Tryd.func31 #[.slice Ao21 x0_1.length co21, .func (.func 26) #[] #[]] rfl gA ?_; (with_reducible refine (api_Token_31.calls k1 _ _ x0_1 t193 _ ?side1 ?side2 A3.out).mono ?_); (case side1 => exact CAt ((Kd.V_reads' HO_0.out).2.2)); (case side2 => exact (Kd.V_reads' HO_0.out).2.1); rintro e w22 ⟨rfl, hb⟩; refine ⟨_, rfl, ?_⟩; replace HO_0 := Aside0.mk (Kd.V_below (VAt HO_0.out) hb); replace HO_5 := Aside0.mk (Kd.N_below (NAt HO_5.out) hb); replace HB := Aside0.mk (below_step (bAt HB.out) hb); (try clear hb); (try clear hb2); (try clear hk); (try clear hi); have q23 : ((ji15) : Int) ≤ ((x0_1.length : Int) : Int) := dt; obtain ⟨i023, hi023, _, hsz23, _⟩ := info_parts info38; have hroom23 : x0_1.length ≤ co21 := (Kd.V_reads' HO_0.out).2.1; have hC23 : Kd.F k38 _ _ Ao21 x0_1.length x0_1 := (Kd.V_at (base := w.heap.size) HO_0.out).2.2; have hcut23 := cut_to_cap (P := Tryd.prog) 23 38 .i64 .i64 Tryd.underlying23 hi023 Ao21 x0_1.length co21 (ji15) dt q23 hroom23; have hr23 := Kd.F_take (m := ((ji15) : Int).toNat) hC23 (by omega); have hy23 : y207.length = ((ji15) : Int).toNat := (by rw [Ny207.out, List.length_take]; omega); rw [← Ny207.out] at hr23; rw [← hy23] at hcut23; have HO211 := Aside0.mk (show Kd.V k38 38 _ w.heap.size _ (.slice Ao21 y207.length y207.length) y207 from Kd.V_mk (by omega) hr23); have HC211 := Aside0.mk (show y207.length ≤ y207.length from by omega); clear hr23 hC23 hroom23 hi023 hsz23; have KY23 := Aside0.mk hy23; clear hy23; replace q23 := eq_true q23) | ((with_reducible refine gate_builtin (b := .append) (xs := #[.tmp 18, .tmp 23]) rfl ?_); at_builtin; refine Kd.N_append (Kd.slice 38 k38) (w0 := w) w.heap.size rfl (.tmp 18) (.tmp 23) 50 23 (.slice none 0 0) 24 rfl Tryd.underlying50 info23 rfl (by decide) (by omega) u5 x5_1 y207 [.slice Ao21 y207.length y207.length] (fun k_ => (P0_ k_ ∨ w.heap.size ≤ k_)) (fun k_ => ((fun k_ => (P0_ k_ ∨ w.heap.size ≤ k_))) k_ ∧ some k_ ≠ (u5 : Value).ownBlock) rfl rfl ?aP (fun _ hk => hk) ?aF ?aO ?aB ?aS ?aL ?_; (case aP => exact (Kd.FK_slice_mk (Kd.V_reads' (Kd.V_mono (ok' := (fun k_ => ((fun k_ => (P0_ k_ ∨ w.heap.size ≤ k_))) k_ ∧ some k_ ≠ (u5 : Value).ownBlock)) (HO211.out) (fun k_ hk => ⟨hk.1, hk.2⟩))).2.1 (Kd.V_F (Kd.V_mono (ok' := (fun k_ => ((fun k_ => (P0_ k_ ∨ w.heap.size ≤ k_))) k_ ∧ some k_ ≠ (u5 : Value).ownBlock)) (HO211.out) (fun k_ hk => ⟨hk.1, hk.2⟩))))); (case aB => exact (bAt HB.out)); (case aF => exact (fun k_ hk => (.inr (Nat.le_trans (below_size (bAt HB.out)) hk)))); (case aO => exact (NAt HO_5.out)); (case aS => exact (below_size (bAt HB.out))); (case aL => have := LMc18.out; omega); intro v213 w24 ho hb hg hat; rw [← Ny212.out] at ho; replace HO_0 := Aside0.mk (Kd.V_afterv (ok := (fun k_ => (P0_ k_ ∨ w.heap.size ≤ k_))) (VAt HO_0.out) hg hat); replace HO211 := Aside0.mk (Kd.V_afterv (ok := (fun k_ => (P0_ k_ ∨ w.heap.size ≤ k_))) (VAt HO211.out) hg hat); replace HB := Aside0.mk (hb); have HO214 := Aside0.mk (ho); clear HO_5; clear ho hb hg hat; have q25 : ((ji15) : Int) ≤ ((x0_1.length : Int) : Int) := dt; obtain ⟨i025, hi025, _, hsz25, _⟩ := info_parts info38; have hroom25 : x0_1.length ≤ co21 := (Kd.V_reads' HO_0.out).2.1; have hC25 : Kd.F k38 _ _ Ao21 x0_1.length x0_1 := (Kd.V_at (base := w.heap.size) HO_0.out).2.2; have q025 : (0 : Int) ≤ ((ji15) : Int) := dt; have hcut25 := cut_from (P := Tryd.prog) 23 38 .i64 Tryd.underlying23 hi025 5 hsz25 Ao21 x0_1.length co21 (ji15) q025 q25; have hr25 := Kd.F_cut (m := ((ji15) : Int).toNat) (c := co21) hC25 (by omega) hroom25; obtain ⟨A25, hA25⟩ : ∃ A1, A1 = (if co21 = ((ji15) : Int).toNat then Ao21 else (Ao21 : Option Addr).map (·.add (((ji15) : Int).toNat * 5))) := ⟨_, rfl⟩; obtain ⟨c25, hc25⟩ : ∃ c1, c1 = co21 - ((ji15) : Int).toNat := ⟨_, rfl⟩; have hy25 : y215.length = x0_1.length - ((ji15) : Int).toNat := (by rw [Ny215.out, List.length_drop] <;> omega); rw [show (x0_1).drop ((ji15) : Int).toNat = y215 from Ny215.out.symm] at hr25; replace hr25 : Kd.F k38 _ _ A25 y215.length y215 := (by rw [hA25]; exact hr25); rw [← hy25, ← hA25, ← hc25] at hcut25; have HO219 := Aside0.mk (show Kd.V k38 38 _ w.heap.size _ (.slice A25 y215.length c25) y215 from Kd.V_mk (by rw [hy25, hc25]; exact Nat.sub_le_sub_right hroom25 _) hr25); have HC219 := Aside0.mk (show y215.length ≤ c25 from by rw [hy25, hc25]; exact Nat.sub_le_sub_right hroom25 _); clear hr25 hC25 hroom25 hi025 hsz25 hc25; have KY25 := Aside0.mk hy25; have KA25 := Aside0.mk hA25; clear hy25 hA25; replace q25 := eq_true q25))
        go_roundg k1
        case measure => have := HK1.out; omega
        case rel => exact ⟨(y215), (y212), H', ⟨by have := HK1.out; omega⟩, ⟨VAt HO219.out⟩, ⟨NAt HO214.out⟩, ⟨bAt HB.out⟩⟩
       ·exact nB H c18
      ·exact nB H c17
     ·exact nB H c16
   ·rw [if_neg c2] at H
    have c2b0 : decide (0 < (x0_1.length : Int)) = false := decide_eq_false c2
    have c2b1 : decide (0 < x0_1.length) = false := decide_eq_false (by omega)
    clear c2
    obtain rfl := Option.some.inj H
    obtain ⟨Ao26, co26, eo26⟩ := Kd.V_slice HO_0.out
    subst eo26
    go_wp2
    go_ret
    exact ⟨_, eR, NAt HO_5.out, bAt HB.out⟩
def split_Pieces.l0 : Nat → List (S25) → Int → List (List (S38)) → Int → Int → Option ((List (S25)))
 | 0, _, _, _, _, _ => none
 | k + 1, x3, x4, x9, x10, x11 => if x11 < x10 then (if 0 ≤ x11 then (if x11 < (x9.length : Int) then (if 0 < ((rd_L4 x9 x11).length : Int) then (if 0 ≤ (wrap64 (((rd_L4 x9 x11).length : Int) - 1)) then (if (wrap64 (((rd_L4 x9 x11).length : Int) - 1)) < ((rd_L4 x9 x11).length : Int) then (if x3.length < 2932031007402 then (split_Pieces.l0 k (x3 ++ [(⟨(rd_T38 (rd_L4 x9 x11) 0).f1, (rd_T38 (rd_L4 x9 x11) (wrap64 (((rd_L4 x9 x11).length : Int) - 1))).f2, x4, rd_L4 x9 x11⟩ : S25)]) (wrap64 (x4 + ((rd_L4 x9 x11).length : Int))) x9 x10 (wrap64 (x11 + 1))) else (none)) else (none)) else (none)) else (none)) else (none)) else (none)) else (some x3)
def split_Pieces.f (k : Nat) (l0 : List Int) : Option ((List (S25))) := (lex_All.f k l0).bind fun t220 => ((api_Token_25.f k t220).bind fun t223 => (split_Pieces.l0 k ([] : List (S25)) 0 t223 (t223.length : Int) 0))
theorem split_Pieces.mono_l : ∀ k, (∀ y0 y1 y2 y3 y4, LeO (split_Pieces.l0 k y0 y1 y2 y3 y4) (split_Pieces.l0 (k + 1) y0 y1 y2 y3 y4))
 | 0 => fun _ _ _ _ _ r h => by simp [split_Pieces.l0] at h
 | k + 1 => by
  have ih0 := split_Pieces.mono_l k
  ·intro y0 y1 y2 y3 y4
   unfold split_Pieces.l0
   repeat' with_reducible first | exact ih0 _ _ _ _ _ | exact api_Token_25.mono _ _ | exact lex_All.mono _ _ | exact LeO.refl _ | exact LeO.none _ | refine LeO.ite ?_ ?_ | refine LeO.bind ?_ (fun _ => ?_)
theorem split_Pieces.mono : ∀ a0 k, LeO (split_Pieces.f k a0) (split_Pieces.f (k + 1) a0) := by
 intro a0 k
 have ih0 := split_Pieces.mono_l k
 unfold split_Pieces.f
 repeat' with_reducible first | exact ih0 _ _ _ _ _ | exact api_Token_25.mono _ _ | exact lex_All.mono _ _ | exact LeO.refl _ | exact LeO.none _ | refine LeO.ite ?_ ?_ | refine LeO.bind ?_ (fun _ => ?_)
def split_Pieces.T6 : Bool × List (List Nat × List Nat) := (true, [([], []), ([], []), ([1], [1]), ([2], [2]), ([3], [3]), ([], []), ([], []), ([6], [6]), ([7], [7]), ([5, 8], [5, 8]), ([9], [9]), ([10], [10]), ([], []), ([], []), ([4, 11, 12, 13], [4, 11, 12, 13]), ([14], [14]), ([0, 15], [0, 15]), ([16, 16, 0, 1, 2, 3, 4, 5, 6, 7, 8, 9, 10, 11, 12, 13, 14, 15, 16], [0, 16])])
def split_Pieces.B6 : List Nat := [0, 0, 2, 6, 14, 0, 0, 64, 192, 480, 992, 2016, 0, 0, 16382, 32766, 65535, 131071]
theorem split_Pieces.tab6 : rtab .any (opsOf Tryd.f13 6) = split_Pieces.T6 := by kernel_rfl
theorem split_Pieces.bits6 : waitsOk split_Pieces.T6.2 split_Pieces.B6 = true := by kernel_rfl
set_option maxHeartbeats 8000000 in
set_option maxRecDepth 100000 in
theorem split_Pieces.calls (k : Nat) (A0 : Option Addr) (c0 : Nat) (l0 : List Int) (r : List (S25)) (w : World) (hG : Gl w) (hr0 : Kd.C (Kd.int .u8) w A0 l0.length l0) (hc0 : l0.length ≤ c0) (h : split_Pieces.f k l0 = some r) :
  Calls Tryd.prog 13 #[.slice A0 l0.length c0] w fun e w' => ∃ v0_ : Value, e = .returned (v0_) ∧ Kd.N k25 25 w' w.heap.size (fun k_ => (w.heap.size ≤ k_)) v0_ r ∧ Below w.heap.size w w' := by
 have hu25 := Tryd.underlying25
 have HR0 := Aside0.mk hr0
 have HC0 := Aside0.mk hc0
 clear hr0 hc0
 have HB := Aside0.mk (Below.refl w.heap.size w)
 have HG := Aside0.mk hG
 clear hG
 have H : ((lex_All.f k l0).bind fun t220 => ((api_Token_25.f k t220).bind fun t223 => (split_Pieces.l0 k ([] : List (S25)) 0 t223 (t223.length : Int) 0))) = some r := h
 clear h
 obtain ⟨t220, A2, H⟩ := bE H
 obtain ⟨t223, A3, H⟩ := bE H
 have H' := Aside0.mk H
 clear H
 go_enter Tryd.func13, Tryd.ntmps13
 go_wp2_with (first | ((with_reducible refine gate_callee (f := 19) rfl ?_); refine gL (some 8) Tryd.func19 #[.slice A0 l0.length c0] rfl gA ?_; (with_reducible refine (lex_All.calls k _ _ l0 t220 _ ?side1 ?side2 ?side3 A2.out).mono ?_); (case side1 => exact Gl.below HG.out (bAt HB.out)); (case side2 => exact CAt HR0.out); (case side3 => exact HC0.out); rintro e w4 ⟨v221, rfl, ho0, hb⟩; refine ⟨_, rfl, ?_⟩; have HO222 := Aside0.mk (Kd.Q_lower (Kd.Q_newM (M := fun k_ => (w.heap.size ≤ k_)) ho0 (below_size (bAt HB.out)) (fun k_ h_ => h_)) (below_size (bAt HB.out))); replace HB := Aside0.mk (below_step (bAt HB.out) hb); (try clear hb); (try clear hb2); (try clear hk); (try clear hi); (try clear ho0); obtain ⟨Ao5, co5, eo5, _⟩ := Kd.Q_slice HO222.out; subst eo5) | ((with_reducible refine gate_callee (f := 25) rfl ?_); refine gL (some 9) Tryd.func25 #[.slice Ao5 t220.length co5, .func (.func 26) #[] #[]] rfl gA ?_; (with_reducible refine (api_Token_25.calls k (fun k_ => some k_ = (.slice Ao5 t220.length co5 : Value).ownBlock) _ _ t220 t223 _ ?side1 A3.out).mono ?_); (case side1 => exact Kd.Q_V (Kd.Q_tight rfl (HO222.out))); rintro e w6 ⟨v224, rfl, ho0, hb⟩; refine ⟨_, rfl, ?_⟩; have HO225 := Aside0.mk (Kd.N_lower (Kd.N_mono (ok' := fun k_ => (w.heap.size ≤ k_)) ho0 (fun k_ hk_ => Or.elim hk_ (fun hs_ => ((HO222.out).1 k_ hs_.symm).1) (fun hn_ => (Nat.le_trans (below_size (bAt HB.out)) hn_)))) (below_size (bAt HB.out))); replace HO222 := Aside0.mk (Kd.Q_below (QAt HO222.out) hb); replace HB := Aside0.mk (below_step (bAt HB.out) hb); (try clear hb); (try clear hb2); (try clear hk); (try clear hi); (try clear ho0); obtain ⟨Ao7, co7, eo7⟩ := Kd.N_slice HO225.out; subst eo7))
 go_loopg [3, 4, 11] k (fun kq v3 v4 v11 w' => ∃ (x3_1 : List (S25)) (x4_1 : Int) (x11_1 : Int), v4 = .int .i64 x4_1 ∧ v11 = .int .i64 x11_1 ∧ Aside0 (split_Pieces.l0 kq x3_1 x4_1 t223 (t223.length : Int) x11_1 = some r) ∧ Aside0 (kq ≤ k) ∧ Aside0 (Kd.N k25 25 w' w.heap.size (fun k_ => (w.heap.size ≤ k_) ∧ some k_ ≠ ((.slice Ao7 t223.length co7) : Value).ownBlock) v3 x3_1) ∧ Aside0 (Kd.N (Kd.slice 38 k38) 23 w' w.heap.size (fun k_ => (w.heap.size ≤ k_) ∧ some k_ ≠ (v3 : Value).ownBlock) (.slice Ao7 t223.length co7) t223) ∧ Aside0 (Below w.heap.size w w'))
 case atStart => exact ⟨(([] : List (S25))), (0), (0), sR, sR, H', ⟨Nat.le_refl _⟩, ⟨by first | exact Kd.S_nil _ _ _ _ _ | exact Kd.N_nil _ _ _ _ _ | exact Kd.V_nil _ _ _ _ _ | exact Kd.Q_nil _ _ _ _ _ | exact Kd.R_nil _ _ _ _ _⟩, ⟨NAt (Kd.N_mono HO225.out (fun _ hk => ⟨hk, (by simp [Value.ownBlock])⟩))⟩, ⟨bAt HB.out⟩⟩
 case round =>
  clear H'
  try clear c1
  try clear c2
  try clear p2
  obtain ⟨x3_1, x4_1, x11_1, rfl, rfl, HA, HK1, HO_3, HO_9, HB⟩ := hrel
  cases gk with
  | zero => exact absurd HA.out (by simp [split_Pieces.l0])
  | succ k1 =>
   have H := HA.out
   clear HA
   simp only [split_Pieces.l0] at H
   by_cases c8 : x11_1 < (t223.length : Int)
   ·rw [if_pos c8] at H
    have c8b0 := decide_eq_true c8
    clear c8
    by_cases c9 : 0 ≤ x11_1
    ·rw [if_pos c9] at H
     have c9b0 := decide_eq_true c9
     clear c9
     by_cases c10 : x11_1 < (t223.length : Int)
     ·rw [if_pos c10] at H
      have c10b0 := decide_eq_true c10
      clear c10
      by_cases c11 : 0 < ((rd_L4 t223 x11_1).length : Int)
      ·rw [if_pos c11] at H
       have c11b0 := decide_eq_true c11
       have c11b1 : decide (0 < (rd_L4 t223 x11_1).length) = true := decide_eq_true (by omega)
       clear c11
       obtain ⟨ji12, hji12⟩ : ∃ j_ : Int, (wrap64 (((rd_L4 t223 x11_1).length : Int) - 1)) = j_ := ⟨_, rfl⟩
       replace H : (if 0 ≤ (ji12) then (if (ji12) < ((rd_L4 t223 x11_1).length : Int) then (if x3_1.length < 2932031007402 then (split_Pieces.l0 k1 (x3_1 ++ [(⟨(rd_T38 (rd_L4 t223 x11_1) 0).f1, (rd_T38 (rd_L4 t223 x11_1) (ji12)).f2, x4_1, rd_L4 t223 x11_1⟩ : S25)]) (wrap64 (x4_1 + ((rd_L4 t223 x11_1).length : Int))) t223 (t223.length : Int) (wrap64 (x11_1 + 1))) else (none)) else (none)) else (none)) = some r := by first | (rw [hji12] at H; exact H) | (simp only [hji12] at H ⊢; exact H)
       have hji12w : (IntKind.i64.wrap (((rd_L4 t223 x11_1).length : Int) - 1)) = ji12 := (i64_w _).trans hji12
       by_cases c13 : 0 ≤ (ji12)
       ·rw [if_pos c13] at H
        have c13b0 := decide_eq_true c13
        clear c13
        by_cases c14 : (ji12) < ((rd_L4 t223 x11_1).length : Int)
        ·rw [if_pos c14] at H
         have c14b0 := decide_eq_true c14
         clear c14
         by_cases c15 : x3_1.length < 2932031007402
         ·rw [if_pos c15] at H
          have LMc15 := Aside0.mk c15
          clear c15
          obtain ⟨y229, hy229⟩ : ∃ y_ : List (S25), y_ = (x3_1 ++ [(⟨(rd_T38 (rd_L4 t223 x11_1) 0).f1, (rd_T38 (rd_L4 t223 x11_1) (ji12)).f2, x4_1, rd_L4 t223 x11_1⟩ : S25)]) := ⟨_, rfl⟩
          replace H : (split_Pieces.l0 k1 y229 (wrap64 (x4_1 + ((rd_L4 t223 x11_1).length : Int))) t223 (t223.length : Int) (wrap64 (x11_1 + 1))) = some r := by first | (rw [hy229]; with_reducible exact H) | (have H2_ := (Option.bind_some _ _).symm.trans H; rw [hy229]; with_reducible exact H2_) | (have H2_ := (Option.bind_some _ _).symm.trans H; with_reducible exact H2_) | with_reducible exact H | (rw [hy229]; exact H) | exact H
          have Ny229 := Aside0.mk hy229
          clear hy229
          have H' := Aside0.mk H
          clear H
          have p226 : 0 ≤ (x11_1 : Int) := dt
          have q226 : x11_1 < (t223.length : Int) := dt
          obtain ⟨ad226, A226_0, c226_0, e226, hx226_0, hl226_0, hi226_0⟩ := at_L4 (Kd.N_reads' HO_9.out).2.2 x11_1 p226 q226
          cases e226
          obtain ⟨ce226, hce226, hMe226, hcc226⟩ := Kd.N_get HO_9.out [] x11_1 p226 (by first | exact q226 | exact dt | (have e_ := (Kd.N_reads' HO_9.out).1; omega))
          obtain ⟨ua226_0, uc226_0, rfl, ul226_0, ge226_0⟩ := Kd.FK_slice_open hMe226
          have hv226_0 := hcc226 0 _ rfl
          rw [Nat.add_zero, show ((Kd.slice 38 k38)).sz = 1 from rfl, Nat.mul_one] at hv226_0
          replace hv226_0 := Option.some.inj (hv226_0.symm.trans hx226_0)
          injection hv226_0 with hva_ hvn_ hvc_
          rw [hva_] at ge226_0
          rw [hvc_] at ul226_0
          have HL226_0 := Aside0.mk (show Kd.V k38 38 _ w.heap.size _ _ (rd_L4 t223 x11_1) from Kd.V_mk ul226_0 ge226_0)
          clear hva_ hvn_ hvc_ ge226_0 ul226_0 hcc226 hce226
          have HR226_0 := Aside0.mk hi226_0
          have HC226_0 := Aside0.mk hl226_0
          clear hi226_0 hl226_0
          replace p226 := eq_true p226
          replace q226 := eq_true q226
          try go_wp2
          replace HO_3 := Aside0.mk (Kd.N_drew HO_3.out)
          replace HO_9 := Aside0.mk (Kd.N_drew HO_9.out)
          replace HL226_0 := Aside0.mk (Kd.V_drew HL226_0.out)
          replace HR226_0 := Aside0.mk (Kd.C_drew HR226_0.out)
          replace HB := Aside0.mk (below_drew1 HB.out)
          have p227 : 0 ≤ (0 : Int) := (by omega)
          have q227 : 0 < ((rd_L4 t223 x11_1).length : Int) := dt
          obtain ⟨ad227, e227, hx227_0, hx227_1, hx227_2, hx227_3, hx227_4⟩ := at_T38 (Kd.V_reads' HL226_0.out).2.2 0 p227 q227
          cases e227
          have qi227 : (0 < (rd_L4 t223 x11_1).length) = True := eq_true (by omega)
          (try rw [show ((0 : Int)).toNat = 0 from rfl] at hx227_0)
          (try rw [show 0 * 5 = 0 from rfl] at hx227_0)
          (try rw [Addr.add_zero'] at hx227_0)
          (try rw [show ((0 : Int)).toNat = 0 from rfl] at hx227_1)
          (try rw [show 0 * 5 = 0 from rfl] at hx227_1)
          (try rw [Addr.add_zero'] at hx227_1)
          (try rw [show ((0 : Int)).toNat = 0 from rfl] at hx227_2)
          (try rw [show 0 * 5 = 0 from rfl] at hx227_2)
          (try rw [Addr.add_zero'] at hx227_2)
          (try rw [show ((0 : Int)).toNat = 0 from rfl] at hx227_3)
          (try rw [show 0 * 5 = 0 from rfl] at hx227_3)
          (try rw [Addr.add_zero'] at hx227_3)
          (try rw [show ((0 : Int)).toNat = 0 from rfl] at hx227_4)
          (try rw [show 0 * 5 = 0 from rfl] at hx227_4)
          (try rw [Addr.add_zero'] at hx227_4)
          replace p227 := eq_true p227
          replace q227 := eq_true q227
          have p228 : 0 ≤ ((ji12) : Int) := dt
          have q228 : (ji12) < ((rd_L4 t223 x11_1).length : Int) := dt
          obtain ⟨ad228, e228, hx228_0, hx228_1, hx228_2, hx228_3, hx228_4⟩ := at_T38 (Kd.V_reads' HL226_0.out).2.2 (ji12) p228 q228
          obtain rfl : ad227 = ad228 := (by injection e228)
          replace p228 := eq_true p228
          replace q228 := eq_true q228
          refine start_ (n := 18) (S := fun w' => w'.cell? ad227 = some (.int .i64 ((rd_T38 (rd_L4 t223 x11_1) 0).f0)) ∧ w'.cell? ⟨ad227.block, ad227.off + 1, none⟩ = some (.int .i64 ((rd_T38 (rd_L4 t223 x11_1) 0).f1)) ∧ w'.cell? ⟨ad227.block, ad227.off + 2, none⟩ = some (.int .i64 ((rd_T38 (rd_L4 t223 x11_1) 0).f2)) ∧ w'.cell? ⟨ad227.block, ad227.off + 3, none⟩ = some (.string ((rd_T38 (rd_L4 t223 x11_1) 0).f3)) ∧ w'.cell? ⟨ad227.block, ad227.off + 4, none⟩ = some (.int .i64 ((rd_T38 (rd_L4 t223 x11_1) 0).f4)) ∧ w'.cell? (ad227.add (((ji12)).toNat * 5)) = some (.int .i64 ((rd_T38 (rd_L4 t223 x11_1) (ji12)).f0)) ∧ w'.cell? ⟨(ad227.add (((ji12)).toNat * 5)).block, (ad227.add (((ji12)).toNat * 5)).off + 1, none⟩ = some (.int .i64 ((rd_T38 (rd_L4 t223 x11_1) (ji12)).f1)) ∧ w'.cell? ⟨(ad227.add (((ji12)).toNat * 5)).block, (ad227.add (((ji12)).toNat * 5)).off + 2, none⟩ = some (.int .i64 ((rd_T38 (rd_L4 t223 x11_1) (ji12)).f2)) ∧ w'.cell? ⟨(ad227.add (((ji12)).toNat * 5)).block, (ad227.add (((ji12)).toNat * 5)).off + 3, none⟩ = some (.string ((rd_T38 (rd_L4 t223 x11_1) (ji12)).f3)) ∧ w'.cell? ⟨(ad227.add (((ji12)).toNat * 5)).block, (ad227.add (((ji12)).toNat * 5)).off + 4, none⟩ = some (.int .i64 ((rd_T38 (rd_L4 t223 x11_1) (ji12)).f4))) (ds := [15, 16]) (bm 18 0) (by kernel_rfl) rfl rfl ⟨hx227_0, hx227_1, hx227_2, hx227_3, hx227_4, hx228_0, hx228_1, hx228_2, hx228_3, hx228_4⟩ (fun hHeld => ?_); refine with_tabW split_Pieces.tab6 split_Pieces.bits6 (fun HT_ HW_ => ?_)
          generalize wr.drew = w16 at HO_3 HO_9 HL226_0 HR226_0 HB hx227_0 hx227_1 hx227_2 hx227_3 hx227_4 hx228_0 hx228_1 hx228_2 hx228_3 hx228_4 hHeld ⊢
          refine pv_ 0 (some 15) (bm 18 1) HT_.out ?_
          refine pv_ 1 (some 16) (bm 18 3) HT_.out ?_
          refine pv_ 2 (some 17) (bm 18 7) HT_.out ?_
          refine pv_ 3 (some 18) (bm 18 15) HT_.out ?_
          refine pv_ 5 (some 20) (bm 18 47) HT_.out ?_
          refine pv_ 6 (some 21) (bm 18 111) HT_.out ?_
          refine pv_ 7 (some 22) (bm 18 239) HT_.out ?_
          refine pv_ 8 (some 23) (bm 18 495) HT_.out ?_
          refine pv_ 9 (some 24) (bm 18 1007) HT_.out ?_
          refine pv_ 10 (some 25) (bm 18 2031) HT_.out ?_
          refine pv_ 12 (some 27) (bm 18 6127) HT_.out ?_
          refine pv_ 13 (some 28) (bm 18 14319) HT_.out ?_
          refine tk_ 4 (some 19) (bm 18 14335) HT_.out HW_.out hHeld ?_
          refine tk_ 11 (some 26) (bm 18 16383) HT_.out HW_.out hHeld ?_
          refine pv_ 14 (some 29) (bm 18 32767) HT_.out ?_
          refine last_ (i := 15) (N := some 30) (bm 18 65535) rfl rfl (one_of HT_.out (by kernel_rfl)) (by decide) (fun K hK => ?_)
          refine value_ (w1 := ?_) (v := ?_) (by rfl) rfl ?_ ?_
          rotate_left 2
          ·go_simp
           constructor
           ·rfl
           ·rfl
          refine hK.out _ _ ?_
          clear hK K
          refine norm_ (a' := ?_) ?_ ?_
          rotate_left
          ·show Act.put _ (some 30) _ = _
           simp only [Act.put, List.setIfInBounds_toArray, List.set_cons_zero, List.set_cons_succ, i64_w, i32_w]
           rfl
          refine last_ (i := 16) (N := some 31) (bm 18 131071) rfl rfl (one_of HT_.out (by kernel_rfl)) (by decide) (fun K hK => ?_)
          refine Kd.N_append_step k25 (w0 := w) w.heap.size (by rfl) (.tmp 15) (.tmp 30) 31 25 (.agg #[(.int .i64 0), (.int .i64 0), (.int .i64 0), (.slice none 0 0)]) 48 rfl Tryd.underlying31 info25 rfl (by decide) (by omega) u3 x3_1 (⟨(rd_T38 (rd_L4 t223 x11_1) 0).f1, (rd_T38 (rd_L4 t223 x11_1) (ji12)).f2, x4_1, rd_L4 t223 x11_1⟩ : S25) [.int .i64 ((rd_T38 (rd_L4 t223 x11_1) 0).f1), .int .i64 ((rd_T38 (rd_L4 t223 x11_1) (ji12)).f2), .int .i64 x4_1, .slice (some ad227) (rd_L4 t223 x11_1).length c226_0] (fun k_ => (w.heap.size ≤ k_) ∧ some k_ ≠ (.slice (some ad226) t223.length co7 : Value).ownBlock) (fun k_ => ((fun k_ => (w.heap.size ≤ k_) ∧ some k_ ≠ (.slice (some ad226) t223.length co7 : Value).ownBlock)) k_ ∧ some k_ ≠ (u3 : Value).ownBlock) rfl rfl ?aP (fun _ hk => hk) ?aF ?aO ?aB ?aS ?aL ?_
          (case aP => exact (k25_mkF _ _ (⟨(rd_T38 (rd_L4 t223 x11_1) 0).f1, (rd_T38 (rd_L4 t223 x11_1) (ji12)).f2, x4_1, rd_L4 t223 x11_1⟩ : S25) (Kd.V_reads' (Kd.V_mono (ok' := (fun k_ => ((fun k_ => (w.heap.size ≤ k_) ∧ some k_ ≠ (.slice (some ad226) t223.length co7 : Value).ownBlock)) k_ ∧ some k_ ≠ (u3 : Value).ownBlock)) (HL226_0.out) (fun k_ hk => ⟨⟨hk.1.1, hk.2⟩, hk.1.2⟩))).2.1 (Kd.V_F (Kd.V_mono (ok' := (fun k_ => ((fun k_ => (w.heap.size ≤ k_) ∧ some k_ ≠ (.slice (some ad226) t223.length co7 : Value).ownBlock)) k_ ∧ some k_ ≠ (u3 : Value).ownBlock)) (HL226_0.out) (fun k_ hk => ⟨⟨hk.1.1, hk.2⟩, hk.1.2⟩)))))
          (case aB => exact (bAt HB.out))
          (case aF => exact (fun k_ hk => ⟨(Nat.le_trans (below_size (bAt HB.out)) hk), Kd.fresh' (Kd.N_lt (NAt HO_9.out)) k_ hk⟩))
          (case aO => exact (NAt HO_3.out))
          (case aS => exact (below_size (bAt HB.out)))
          (case aL => have := LMc15.out; omega)
          intro v230 w17 ho hb hg hat
          rw [← Ny229.out] at ho
          have n0_ := Aside0.mk (Kd.N_afterv (ok := (fun k_ => (w.heap.size ≤ k_))) (NAt HO_9.out) hg hat)
          have n1_ := Aside0.mk (Kd.V_afterv (ok := (fun k_ => (w.heap.size ≤ k_) ∧ some k_ ≠ (.slice (some ad226) t223.length co7 : Value).ownBlock)) (VAt (Kd.V_mono HL226_0.out (fun _ hk => ⟨⟨hk.1.1, hk.2⟩, hk.1.2⟩))) hg hat)
          have n2_ := Aside0.mk (hb)
          have n3_ := Aside0.mk (ho)
          clear HO_9 HL226_0 HB HO_3
          have HO_9 := n0_
          have HL226_0 := n1_
          have HB := n2_
          have HO231 := n3_
          clear n0_ n1_ n2_ n3_ ho hb hg hat
          refine hK.out _ _ ?_
          clear hK K
          refine norm_ (a' := ?_) ?_ ?_
          rotate_left
          ·show Act.put _ (some 31) _ = _
           simp only [Act.put, List.setIfInBounds_toArray, List.set_cons_zero, List.set_cons_succ, i64_w, i32_w]
           rfl
          refine pv_ 17 (some 3) (bm 18 262143) HT_.out ?_
          refine done_ (done_of HT_.out (by kernel_rfl)) ?_
          try go_wp2
          go_roundg k1
          case measure => have := HK1.out; omega
          case rel => exact ⟨(y229), (wrap64 (x4_1 + ((rd_L4 t223 x11_1).length : Int))), (wrap64 (x11_1 + 1)), sR, sR, H', ⟨by have := HK1.out; omega⟩, ⟨NAt HO231.out⟩, ⟨NAt HO_9.out⟩, ⟨bAt HB.out⟩⟩
         ·exact nB H c15
        ·exact nB H c14
       ·exact nB H c13
      ·exact nB H c11
     ·exact nB H c10
    ·exact nB H c9
   ·rw [if_neg c8] at H
    have c8b0 := decide_eq_false c8
    clear c8
    obtain rfl := Option.some.inj H
    go_wp2
    go_ret
    exact ⟨_, eR, NAt (Kd.N_mono HO_3.out (fun _ hk => hk.1)), bAt HB.out⟩
def split_Nest.l0 : Nat → Int → Int → List (S38) → Int → Int → Option (Int)
 | 0, _, _, _, _, _ => none
 | k + 1, x3, x4, x8, x9, x10 => if x10 < x9 then (if 0 ≤ x10 then (if x10 < (x8.length : Int) then (if ((rd_T38 x8 x10).f0) = 6 then (if ((rd_T38 x8 x10).f3).toList = ([40] : List UInt8) then (split_Nest.l0 k (wrap64 (x3 + 1)) (mx x4 (wrap64 (x3 + 1))) x8 x9 (wrap64 (x10 + 1))) else (if ((rd_T38 x8 x10).f3).toList = ([41] : List UInt8) then (split_Nest.l0 k (mx (wrap64 (x3 - 1)) 0) (mx x4 (mx (wrap64 (x3 - 1)) 0)) x8 x9 (wrap64 (x10 + 1))) else (split_Nest.l0 k x3 (mx x4 x3) x8 x9 (wrap64 (x10 + 1))))) else (split_Nest.l0 k x3 x4 x8 x9 (wrap64 (x10 + 1)))) else (none)) else (none)) else (some x4)
def split_Nest.f (k : Nat) (a0_0 : Int) (a0_1 : Int) (a0_2 : Int) (l0_3 : List (S38)) : Option (Int) := split_Nest.l0 k 0 0 l0_3 (l0_3.length : Int) 0
theorem split_Nest.mono_l : ∀ k, (∀ y0 y1 y2 y3 y4, LeO (split_Nest.l0 k y0 y1 y2 y3 y4) (split_Nest.l0 (k + 1) y0 y1 y2 y3 y4))
 | 0 => fun _ _ _ _ _ r h => by simp [split_Nest.l0] at h
 | k + 1 => by
  have ih0 := split_Nest.mono_l k
  ·intro y0 y1 y2 y3 y4
   unfold split_Nest.l0
   repeat' with_reducible first | exact ih0 _ _ _ _ _ | exact LeO.refl _ | exact LeO.none _ | refine LeO.ite ?_ ?_ | refine LeO.bind ?_ (fun _ => ?_)
theorem split_Nest.mono : ∀ a0 a1 a2 a3 k, LeO (split_Nest.f k a0 a1 a2 a3) (split_Nest.f (k + 1) a0 a1 a2 a3) := by
 intro a0 a1 a2 a3 k
 have ih0 := split_Nest.mono_l k
 unfold split_Nest.f
 repeat' with_reducible first | exact ih0 _ _ _ _ _ | exact LeO.refl _ | exact LeO.none _ | refine LeO.ite ?_ ?_ | refine LeO.bind ?_ (fun _ => ?_)
set_option maxHeartbeats 8000000 in
set_option maxRecDepth 100000 in
theorem split_Nest.calls (k : Nat) (a0_0 : Int) (a0_1 : Int) (a0_2 : Int) (A0_3 : Option Addr) (c0_3 : Nat) (l0_3 : List (S38)) (r : Int) (w : World) (hr0_3 : Kd.C k38 w A0_3 l0_3.length l0_3) (hc0_3 : l0_3.length ≤ c0_3) (h : split_Nest.f k a0_0 a0_1 a0_2 l0_3 = some r) :
  Calls Tryd.prog 16 #[.agg #[.int .i64 a0_0, .int .i64 a0_1, .int .i64 a0_2, .slice A0_3 l0_3.length c0_3]] w fun e w' => e = .returned (.int .i64 r) ∧ Below w.heap.size w w' := by
 have hu25 := Tryd.underlying25
 have hu38 := Tryd.underlying38
 have HR0_3 := Aside0.mk hr0_3
 have HC0_3 := Aside0.mk hc0_3
 clear hr0_3 hc0_3
 have HB := Aside0.mk (Below.refl w.heap.size w)
 have H : (split_Nest.l0 k 0 0 l0_3 (l0_3.length : Int) 0) = some r := h
 clear h
 have H' := Aside0.mk H
 clear H
 go_enter Tryd.func16, Tryd.ntmps16
 go_wp2_with (first | ((with_reducible refine gate_dst (N := 1) rfl ?_); refine box_event ?hg (N := 1) ?hd (cs := #[.int .i64 a0_0, .int .i64 a0_1, .int .i64 a0_2, .slice A0_3 l0_3.length c0_3]) (t := 25) ?hr ?_; (case hd => rfl); (case hg => rfl); (case hr => first | (go_simp; done) | (go_simp; rfl)); intro gb232 hg w2 hbox hb; have BK232 := Aside0.mk (hbox); have GW232 := Aside0.mk (gE (g := gb232) hg HB.out); have GE232 := Aside0.mk (gE (g := gb232) hg HB.out); replace HB := Aside0.mk (below_step (bAt HB.out) hb); clear hb hbox hg; obtain ⟨hcz3_0, hcz3_1, hcz3_2, hcz3_3, hfz3_0, hfz3_1, hfz3_2, hfz3_3⟩ := blk4 BK232.out))
 go_loopg [3, 4, 10] k (fun kq v3 v4 v10 w' => ∃ (x3_1 : Int) (x4_1 : Int) (x10_1 : Int), v3 = .int .i64 x3_1 ∧ v4 = .int .i64 x4_1 ∧ v10 = .int .i64 x10_1 ∧ Aside0 (split_Nest.l0 kq x3_1 x4_1 l0_3 (l0_3.length : Int) x10_1 = some r) ∧ Aside0 (kq ≤ k) ∧ Aside0 (w'.heap[gb232]? = some (.cells #[.int .i64 a0_0, .int .i64 a0_1, .int .i64 a0_2, (.slice A0_3 l0_3.length c0_3)] 25 (0, 0))) ∧ Aside0 (Below w.heap.size w w'))
 case atStart => exact ⟨(0), (0), (0), sR, sR, sR, H', ⟨Nat.le_refl _⟩, ⟨kAt BK232.out⟩, ⟨bAt HB.out⟩⟩
 case round =>
  clear H'
  try clear c1
  try clear p2
  try clear hcz3_0
  try clear hcz3_1
  try clear hcz3_2
  try clear hcz3_3
  try clear hfz3_0
  try clear hfz3_1
  try clear hfz3_2
  try clear hfz3_3
  obtain ⟨x3_1, x4_1, x10_1, rfl, rfl, rfl, HA, HK1, BK232, HB⟩ := hrel
  cases gk with
  | zero => exact absurd HA.out (by simp [split_Nest.l0])
  | succ k1 =>
   have H := HA.out
   clear HA
   simp only [split_Nest.l0] at H
   by_cases c4 : x10_1 < (l0_3.length : Int)
   ·rw [if_pos c4] at H
    have c4b0 := decide_eq_true c4
    clear c4
    by_cases c5 : 0 ≤ x10_1
    ·rw [if_pos c5] at H
     have c5b0 := decide_eq_true c5
     clear c5
     by_cases c6 : x10_1 < (l0_3.length : Int)
     ·rw [if_pos c6] at H
      have c6b0 := decide_eq_true c6
      clear c6
      by_cases c7 : ((rd_T38 l0_3 x10_1).f0) = 6
      ·rw [if_pos c7] at H
       obtain ⟨c7b0, c7b1⟩ := eqB c7
       clear c7
       by_cases c8 : ((rd_T38 l0_3 x10_1).f3).toList = ([40] : List UInt8)
       ·rw [if_pos c8] at H
        obtain ⟨c8b0, c8b1⟩ := eqB c8
        clear c8
        obtain ⟨ji9, hji9⟩ : ∃ j_ : Int, (mx x4_1 (wrap64 (x3_1 + 1))) = j_ := ⟨_, rfl⟩
        replace H : (split_Nest.l0 k1 (wrap64 (x3_1 + 1)) ji9 l0_3 (l0_3.length : Int) (wrap64 (x10_1 + 1))) = some r := by first | (rw [hji9] at H; exact H) | (simp only [hji9] at H ⊢; exact H)
        have hji9_ : (if x4_1 < (wrap64 (x3_1 + 1)) then (wrap64 (x3_1 + 1)) else x4_1) = ji9 := hji9
        have H' := Aside0.mk H
        clear H
        have p233 : 0 ≤ (x10_1 : Int) := dt
        have q233 : x10_1 < (l0_3.length : Int) := dt
        obtain ⟨ad233, e233, hx233_0, hx233_1, hx233_2, hx233_3, hx233_4⟩ := at_T38 HR0_3.out x10_1 p233 q233
        cases e233
        replace hx233_0 := pw_cell_below HB.out hx233_0
        replace hx233_1 := pw_cell_below HB.out hx233_1
        replace hx233_2 := pw_cell_below HB.out hx233_2
        replace hx233_3 := pw_cell_below HB.out hx233_3
        replace hx233_4 := pw_cell_below HB.out hx233_4
        replace p233 := eq_true p233
        replace q233 := eq_true q233
        go_wp2_with (first | ((with_reducible refine gate_dst (N := 6) rfl ?_); refine box_event ?hg (N := 6) ?hd (cs := #[.int .i64 0, .int .i64 0, .int .i64 0, .string (⟨#[]⟩ : ByteArray), .int .i64 0]) (t := 38) ?hr ?_; (case hd => rfl); (case hg => rfl); (case hr => first | (go_simp; done) | (go_simp; rfl)); intro gb234 hg w10 hbox hb; have BK234 := Aside0.mk (hbox); have GW234 := Aside0.mk (gE (g := gb234) hg HB.out); have GE234 := Aside0.mk (gE (g := gb234) hg HB.out); replace HB := Aside0.mk (below_step (bAt HB.out) hb); have NB232_234 := Aside0.mk ((by rw [hg]; exact Nat.ne_of_lt (blk_lt (g := gb232) (o := .cells #[.int .i64 a0_0, .int .i64 a0_1, .int .i64 a0_2, .slice (some ad233) l0_3.length c0_3] 25 (0, 0)) (kAt BK232.out)) : gb232 ≠ gb234)); have NB234_232 := Aside0.mk ((by rw [hg]; exact Nat.ne_of_gt (blk_lt (g := gb232) (o := .cells #[.int .i64 a0_0, .int .i64 a0_1, .int .i64 a0_2, .slice (some ad233) l0_3.length c0_3] 25 (0, 0)) (kAt BK232.out)) : gb234 ≠ gb232)); replace BK232 := Aside0.mk (blk_below (g := gb232) (o := .cells #[.int .i64 a0_0, .int .i64 a0_1, .int .i64 a0_2, .slice (some ad233) l0_3.length c0_3] 25 (0, 0)) (kAt BK232.out) hb); clear hb hbox hg; have hnb11 := NB234_232.out; have hnc11 := NB232_234.out; obtain ⟨hcz12_0, hcz12_1, hcz12_2, hcz12_3, hcz12_4, hfz12_0, hfz12_1, hfz12_2, hfz12_3, hfz12_4⟩ := blk5 BK234.out))
        go_roundg k1
        case measure => have := HK1.out; omega
        case rel => exact ⟨(wrap64 (x3_1 + 1)), (ji9), (wrap64 (x10_1 + 1)), sR, (by first | rfl | (simp; done) | (simp only [← hji9] <;> (first | rfl | simp)) | (simp [*]; done)), sR, H', ⟨by have := HK1.out; omega⟩, ⟨by (with_reducible repeat (first | refine blk_drewN ?_ _ | refine blk_drew ?_ | refine blk_alloc ?_ _)); refine blk_far ?_ NB232_234.out _; (with_reducible repeat (first | refine blk_drewN ?_ _ | refine blk_drew ?_ | refine blk_alloc ?_ _)); refine blk_far ?_ NB232_234.out _; (with_reducible repeat (first | refine blk_drewN ?_ _ | refine blk_drew ?_ | refine blk_alloc ?_ _)); refine blk_far ?_ NB232_234.out _; (with_reducible repeat (first | refine blk_drewN ?_ _ | refine blk_drew ?_ | refine blk_alloc ?_ _)); refine blk_far ?_ NB232_234.out _; (with_reducible repeat (first | refine blk_drewN ?_ _ | refine blk_drew ?_ | refine blk_alloc ?_ _)); refine blk_far ?_ NB232_234.out _; (with_reducible repeat (first | refine blk_drewN ?_ _ | refine blk_drew ?_ | refine blk_alloc ?_ _)); exact BK232.out⟩, ⟨bAt HB.out⟩⟩
       ·rw [if_neg c8] at H
        obtain ⟨c8b0, c8b1⟩ := neB c8
        by_cases c13 : ((rd_T38 l0_3 x10_1).f3).toList = ([41] : List UInt8)
        ·rw [if_pos c13] at H
         obtain ⟨c13b0, c13b1⟩ := eqB c13
         clear c13
         obtain ⟨ji14, hji14⟩ : ∃ j_ : Int, (mx (wrap64 (x3_1 - 1)) 0) = j_ := ⟨_, rfl⟩
         replace H : (split_Nest.l0 k1 ji14 (mx x4_1 (ji14)) l0_3 (l0_3.length : Int) (wrap64 (x10_1 + 1))) = some r := by first | (rw [hji14] at H; exact H) | (simp only [hji14] at H ⊢; exact H)
         have hji14_ : (if (wrap64 (x3_1 - 1)) < 0 then 0 else (wrap64 (x3_1 - 1))) = ji14 := hji14
         obtain ⟨ji15, hji15⟩ : ∃ j_ : Int, (mx x4_1 (ji14)) = j_ := ⟨_, rfl⟩
         replace H : (split_Nest.l0 k1 ji14 ji15 l0_3 (l0_3.length : Int) (wrap64 (x10_1 + 1))) = some r := by first | (rw [hji15] at H; exact H) | (simp only [hji15] at H ⊢; exact H)
         have hji15_ : (if x4_1 < (ji14) then (ji14) else x4_1) = ji15 := hji15
         have H' := Aside0.mk H
         clear H
         have p233 : 0 ≤ (x10_1 : Int) := dt
         have q233 : x10_1 < (l0_3.length : Int) := dt
         obtain ⟨ad233, e233, hx233_0, hx233_1, hx233_2, hx233_3, hx233_4⟩ := at_T38 HR0_3.out x10_1 p233 q233
         cases e233
         replace hx233_0 := pw_cell_below HB.out hx233_0
         replace hx233_1 := pw_cell_below HB.out hx233_1
         replace hx233_2 := pw_cell_below HB.out hx233_2
         replace hx233_3 := pw_cell_below HB.out hx233_3
         replace hx233_4 := pw_cell_below HB.out hx233_4
         replace p233 := eq_true p233
         replace q233 := eq_true q233
         go_wp2_with (first | ((with_reducible refine gate_dst (N := 6) rfl ?_); refine box_event ?hg (N := 6) ?hd (cs := #[.int .i64 0, .int .i64 0, .int .i64 0, .string (⟨#[]⟩ : ByteArray), .int .i64 0]) (t := 38) ?hr ?_; (case hd => rfl); (case hg => rfl); (case hr => first | (go_simp; done) | (go_simp; rfl)); intro gb234 hg w16 hbox hb; have BK234 := Aside0.mk (hbox); have GW234 := Aside0.mk (gE (g := gb234) hg HB.out); have GE234 := Aside0.mk (gE (g := gb234) hg HB.out); replace HB := Aside0.mk (below_step (bAt HB.out) hb); have NB232_234 := Aside0.mk ((by rw [hg]; exact Nat.ne_of_lt (blk_lt (g := gb232) (o := .cells #[.int .i64 a0_0, .int .i64 a0_1, .int .i64 a0_2, .slice (some ad233) l0_3.length c0_3] 25 (0, 0)) (kAt BK232.out)) : gb232 ≠ gb234)); have NB234_232 := Aside0.mk ((by rw [hg]; exact Nat.ne_of_gt (blk_lt (g := gb232) (o := .cells #[.int .i64 a0_0, .int .i64 a0_1, .int .i64 a0_2, .slice (some ad233) l0_3.length c0_3] 25 (0, 0)) (kAt BK232.out)) : gb234 ≠ gb232)); replace BK232 := Aside0.mk (blk_below (g := gb232) (o := .cells #[.int .i64 a0_0, .int .i64 a0_1, .int .i64 a0_2, .slice (some ad233) l0_3.length c0_3] 25 (0, 0)) (kAt BK232.out) hb); clear hb hbox hg; have hnb17 := NB234_232.out; have hnc17 := NB232_234.out; obtain ⟨hcz18_0, hcz18_1, hcz18_2, hcz18_3, hcz18_4, hfz18_0, hfz18_1, hfz18_2, hfz18_3, hfz18_4⟩ := blk5 BK234.out))
         go_roundg k1
         case measure => have := HK1.out; omega
         case rel => exact ⟨(ji14), (ji15), (wrap64 (x10_1 + 1)), (by first | rfl | (simp; done) | (simp only [← hji14] <;> (first | rfl | simp)) | (simp [*]; done)), (by first | rfl | (simp; done) | (simp only [← hji15] <;> (first | rfl | simp)) | (simp [*]; done)), sR, H', ⟨by have := HK1.out; omega⟩, ⟨by (with_reducible repeat (first | refine blk_drewN ?_ _ | refine blk_drew ?_ | refine blk_alloc ?_ _)); refine blk_far ?_ NB232_234.out _; (with_reducible repeat (first | refine blk_drewN ?_ _ | refine blk_drew ?_ | refine blk_alloc ?_ _)); refine blk_far ?_ NB232_234.out _; (with_reducible repeat (first | refine blk_drewN ?_ _ | refine blk_drew ?_ | refine blk_alloc ?_ _)); refine blk_far ?_ NB232_234.out _; (with_reducible repeat (first | refine blk_drewN ?_ _ | refine blk_drew ?_ | refine blk_alloc ?_ _)); refine blk_far ?_ NB232_234.out _; (with_reducible repeat (first | refine blk_drewN ?_ _ | refine blk_drew ?_ | refine blk_alloc ?_ _)); refine blk_far ?_ NB232_234.out _; (with_reducible repeat (first | refine blk_drewN ?_ _ | refine blk_drew ?_ | refine blk_alloc ?_ _)); exact BK232.out⟩, ⟨bAt HB.out⟩⟩
        ·rw [if_neg c13] at H
         obtain ⟨c13b0, c13b1⟩ := neB c13
         obtain ⟨ji19, hji19⟩ : ∃ j_ : Int, (mx x4_1 x3_1) = j_ := ⟨_, rfl⟩
         replace H : (split_Nest.l0 k1 x3_1 ji19 l0_3 (l0_3.length : Int) (wrap64 (x10_1 + 1))) = some r := by first | (rw [hji19] at H; exact H) | (simp only [hji19] at H ⊢; exact H)
         have hji19_ : (if x4_1 < x3_1 then x3_1 else x4_1) = ji19 := hji19
         have H' := Aside0.mk H
         clear H
         have p233 : 0 ≤ (x10_1 : Int) := dt
         have q233 : x10_1 < (l0_3.length : Int) := dt
         obtain ⟨ad233, e233, hx233_0, hx233_1, hx233_2, hx233_3, hx233_4⟩ := at_T38 HR0_3.out x10_1 p233 q233
         cases e233
         replace hx233_0 := pw_cell_below HB.out hx233_0
         replace hx233_1 := pw_cell_below HB.out hx233_1
         replace hx233_2 := pw_cell_below HB.out hx233_2
         replace hx233_3 := pw_cell_below HB.out hx233_3
         replace hx233_4 := pw_cell_below HB.out hx233_4
         replace p233 := eq_true p233
         replace q233 := eq_true q233
         go_wp2_with (first | ((with_reducible refine gate_dst (N := 6) rfl ?_); refine box_event ?hg (N := 6) ?hd (cs := #[.int .i64 0, .int .i64 0, .int .i64 0, .string (⟨#[]⟩ : ByteArray), .int .i64 0]) (t := 38) ?hr ?_; (case hd => rfl); (case hg => rfl); (case hr => first | (go_simp; done) | (go_simp; rfl)); intro gb234 hg w20 hbox hb; have BK234 := Aside0.mk (hbox); have GW234 := Aside0.mk (gE (g := gb234) hg HB.out); have GE234 := Aside0.mk (gE (g := gb234) hg HB.out); replace HB := Aside0.mk (below_step (bAt HB.out) hb); have NB232_234 := Aside0.mk ((by rw [hg]; exact Nat.ne_of_lt (blk_lt (g := gb232) (o := .cells #[.int .i64 a0_0, .int .i64 a0_1, .int .i64 a0_2, .slice (some ad233) l0_3.length c0_3] 25 (0, 0)) (kAt BK232.out)) : gb232 ≠ gb234)); have NB234_232 := Aside0.mk ((by rw [hg]; exact Nat.ne_of_gt (blk_lt (g := gb232) (o := .cells #[.int .i64 a0_0, .int .i64 a0_1, .int .i64 a0_2, .slice (some ad233) l0_3.length c0_3] 25 (0, 0)) (kAt BK232.out)) : gb234 ≠ gb232)); replace BK232 := Aside0.mk (blk_below (g := gb232) (o := .cells #[.int .i64 a0_0, .int .i64 a0_1, .int .i64 a0_2, .slice (some ad233) l0_3.length c0_3] 25 (0, 0)) (kAt BK232.out) hb); clear hb hbox hg; have hnb21 := NB234_232.out; have hnc21 := NB232_234.out; obtain ⟨hcz22_0, hcz22_1, hcz22_2, hcz22_3, hcz22_4, hfz22_0, hfz22_1, hfz22_2, hfz22_3, hfz22_4⟩ := blk5 BK234.out))
         go_roundg k1
         case measure => have := HK1.out; omega
         case rel => exact ⟨(x3_1), (ji19), (wrap64 (x10_1 + 1)), sR, (by first | rfl | (simp; done) | (simp only [← hji19] <;> (first | rfl | simp)) | (simp [*]; done)), sR, H', ⟨by have := HK1.out; omega⟩, ⟨by (with_reducible repeat (first | refine blk_drewN ?_ _ | refine blk_drew ?_ | refine blk_alloc ?_ _)); refine blk_far ?_ NB232_234.out _; (with_reducible repeat (first | refine blk_drewN ?_ _ | refine blk_drew ?_ | refine blk_alloc ?_ _)); refine blk_far ?_ NB232_234.out _; (with_reducible repeat (first | refine blk_drewN ?_ _ | refine blk_drew ?_ | refine blk_alloc ?_ _)); refine blk_far ?_ NB232_234.out _; (with_reducible repeat (first | refine blk_drewN ?_ _ | refine blk_drew ?_ | refine blk_alloc ?_ _)); refine blk_far ?_ NB232_234.out _; (with_reducible repeat (first | refine blk_drewN ?_ _ | refine blk_drew ?_ | refine blk_alloc ?_ _)); refine blk_far ?_ NB232_234.out _; (with_reducible repeat (first | refine blk_drewN ?_ _ | refine blk_drew ?_ | refine blk_alloc ?_ _)); exact BK232.out⟩, ⟨bAt HB.out⟩⟩
      ·rw [if_neg c7] at H
       obtain ⟨c7b0, c7b1⟩ := neB c7
       have H' := Aside0.mk H
       clear H
       have p233 : 0 ≤ (x10_1 : Int) := dt
       have q233 : x10_1 < (l0_3.length : Int) := dt
       obtain ⟨ad233, e233, hx233_0, hx233_1, hx233_2, hx233_3, hx233_4⟩ := at_T38 HR0_3.out x10_1 p233 q233
       cases e233
       replace hx233_0 := pw_cell_below HB.out hx233_0
       replace hx233_1 := pw_cell_below HB.out hx233_1
       replace hx233_2 := pw_cell_below HB.out hx233_2
       replace hx233_3 := pw_cell_below HB.out hx233_3
       replace hx233_4 := pw_cell_below HB.out hx233_4
       replace p233 := eq_true p233
       replace q233 := eq_true q233
       go_wp2_with (first | ((with_reducible refine gate_dst (N := 6) rfl ?_); refine box_event ?hg (N := 6) ?hd (cs := #[.int .i64 0, .int .i64 0, .int .i64 0, .string (⟨#[]⟩ : ByteArray), .int .i64 0]) (t := 38) ?hr ?_; (case hd => rfl); (case hg => rfl); (case hr => first | (go_simp; done) | (go_simp; rfl)); intro gb234 hg w23 hbox hb; have BK234 := Aside0.mk (hbox); have GW234 := Aside0.mk (gE (g := gb234) hg HB.out); have GE234 := Aside0.mk (gE (g := gb234) hg HB.out); replace HB := Aside0.mk (below_step (bAt HB.out) hb); have NB232_234 := Aside0.mk ((by rw [hg]; exact Nat.ne_of_lt (blk_lt (g := gb232) (o := .cells #[.int .i64 a0_0, .int .i64 a0_1, .int .i64 a0_2, .slice (some ad233) l0_3.length c0_3] 25 (0, 0)) (kAt BK232.out)) : gb232 ≠ gb234)); have NB234_232 := Aside0.mk ((by rw [hg]; exact Nat.ne_of_gt (blk_lt (g := gb232) (o := .cells #[.int .i64 a0_0, .int .i64 a0_1, .int .i64 a0_2, .slice (some ad233) l0_3.length c0_3] 25 (0, 0)) (kAt BK232.out)) : gb234 ≠ gb232)); replace BK232 := Aside0.mk (blk_below (g := gb232) (o := .cells #[.int .i64 a0_0, .int .i64 a0_1, .int .i64 a0_2, .slice (some ad233) l0_3.length c0_3] 25 (0, 0)) (kAt BK232.out) hb); clear hb hbox hg; have hnb24 := NB234_232.out; have hnc24 := NB232_234.out; obtain ⟨hcz25_0, hcz25_1, hcz25_2, hcz25_3, hcz25_4, hfz25_0, hfz25_1, hfz25_2, hfz25_3, hfz25_4⟩ := blk5 BK234.out))
       go_roundg k1
       case measure => have := HK1.out; omega
       case rel => exact ⟨(x3_1), (x4_1), (wrap64 (x10_1 + 1)), sR, sR, sR, H', ⟨by have := HK1.out; omega⟩, ⟨by (with_reducible repeat (first | refine blk_drewN ?_ _ | refine blk_drew ?_ | refine blk_alloc ?_ _)); refine blk_far ?_ NB232_234.out _; (with_reducible repeat (first | refine blk_drewN ?_ _ | refine blk_drew ?_ | refine blk_alloc ?_ _)); refine blk_far ?_ NB232_234.out _; (with_reducible repeat (first | refine blk_drewN ?_ _ | refine blk_drew ?_ | refine blk_alloc ?_ _)); refine blk_far ?_ NB232_234.out _; (with_reducible repeat (first | refine blk_drewN ?_ _ | refine blk_drew ?_ | refine blk_alloc ?_ _)); refine blk_far ?_ NB232_234.out _; (with_reducible repeat (first | refine blk_drewN ?_ _ | refine blk_drew ?_ | refine blk_alloc ?_ _)); refine blk_far ?_ NB232_234.out _; (with_reducible repeat (first | refine blk_drewN ?_ _ | refine blk_drew ?_ | refine blk_alloc ?_ _)); exact BK232.out⟩, ⟨bAt HB.out⟩⟩
     ·exact nB H c6
    ·exact nB H c5
   ·rw [if_neg c4] at H
    have c4b0 := decide_eq_false c4
    clear c4
    obtain rfl := Option.some.inj H
    go_wp2
    go_ret
    exact ⟨eR, bAt HB.out⟩
def tmesislaw10_shown.f (k : Nat)  : Option (Bool) := (split_Pieces.f k (([97, 46, 32, 40, 98] : List Int))).bind fun t238 => (if (t238.length : Int) = 2 then (if 0 < (t238.length : Int) then (if ((rd_T25 t238 0).f1) = 2 then (if 1 < (t238.length : Int) then (if ((rd_T25 t238 1).f0) = 3 then (if ((rd_T25 t238 1).f2) = 2 then ((split_Nest.f k ((rd_T25 t238 1).f0) ((rd_T25 t238 1).f1) ((rd_T25 t238 1).f2) ((rd_T25 t238 1).f3)).bind fun t245 => (if t245 = 1 then ((split_Names.f k ((rd_T25 t238 0).f0) ((rd_T25 t238 0).f1) ((rd_T25 t238 0).f2) ((rd_T25 t238 0).f3)).bind fun t247 => (some ((t247.length : Int) == 1))) else (some false))) else (some false)) else (some false)) else (none)) else (some false)) else (none)) else (some false))
theorem tmesislaw10_shown.mono : ∀ k, LeO (tmesislaw10_shown.f k ) (tmesislaw10_shown.f (k + 1) ) := by
 intro  k
 unfold tmesislaw10_shown.f
 repeat' with_reducible first | exact split_Names.mono _ _ _ _ _ | exact split_Nest.mono _ _ _ _ _ | exact split_Pieces.mono _ _ | exact LeO.refl _ | exact LeO.none _ | refine LeO.ite ?_ ?_ | refine LeO.bind ?_ (fun _ => ?_)
set_option maxHeartbeats 8000000 in
set_option maxRecDepth 100000 in
theorem tmesislaw10_shown.calls (k : Nat)  (r : Bool) (w : World) (hG : Gl w) (h : tmesislaw10_shown.f k  = some r) :
  Calls Tryd.prog 8 #[] w fun e w' => e = .returned (.bool r) ∧ Below w.heap.size w w' := by
 have hu25 := Tryd.underlying25
 have HB := Aside0.mk (Below.refl w.heap.size w)
 have HG := Aside0.mk hG
 clear hG
 have H : ((split_Pieces.f k (([97, 46, 32, 40, 98] : List Int))).bind fun t238 => (if (t238.length : Int) = 2 then (if 0 < (t238.length : Int) then (if ((rd_T25 t238 0).f1) = 2 then (if 1 < (t238.length : Int) then (if ((rd_T25 t238 1).f0) = 3 then (if ((rd_T25 t238 1).f2) = 2 then ((split_Nest.f k ((rd_T25 t238 1).f0) ((rd_T25 t238 1).f1) ((rd_T25 t238 1).f2) ((rd_T25 t238 1).f3)).bind fun t245 => (if t245 = 1 then ((split_Names.f k ((rd_T25 t238 0).f0) ((rd_T25 t238 0).f1) ((rd_T25 t238 0).f2) ((rd_T25 t238 0).f3)).bind fun t247 => (some ((t247.length : Int) == 1))) else (some false))) else (some false)) else (some false)) else (none)) else (some false)) else (none)) else (some false))) = some r := h
 clear h
 obtain ⟨y235, hy235⟩ : ∃ y_ : List Int, y_ = (([97, 46, 32, 40, 98] : List Int)) := ⟨_, rfl⟩
 replace H : ((split_Pieces.f k y235).bind fun t238 => (if (t238.length : Int) = 2 then (if 0 < (t238.length : Int) then (if ((rd_T25 t238 0).f1) = 2 then (if 1 < (t238.length : Int) then (if ((rd_T25 t238 1).f0) = 3 then (if ((rd_T25 t238 1).f2) = 2 then ((split_Nest.f k ((rd_T25 t238 1).f0) ((rd_T25 t238 1).f1) ((rd_T25 t238 1).f2) ((rd_T25 t238 1).f3)).bind fun t245 => (if t245 = 1 then ((split_Names.f k ((rd_T25 t238 0).f0) ((rd_T25 t238 0).f1) ((rd_T25 t238 0).f2) ((rd_T25 t238 0).f3)).bind fun t247 => (some ((t247.length : Int) == 1))) else (some false))) else (some false)) else (some false)) else (none)) else (some false)) else (none)) else (some false))) = some r := by first | (rw [hy235]; with_reducible exact H) | (have H2_ := (Option.bind_some _ _).symm.trans H; rw [hy235]; with_reducible exact H2_) | (have H2_ := (Option.bind_some _ _).symm.trans H; with_reducible exact H2_) | with_reducible exact H | (rw [hy235]; exact H) | exact H
 have Ny235 := Aside0.mk hy235
 clear hy235
 obtain ⟨t238, A1, H⟩ := bE H
 by_cases c2 : (t238.length : Int) = 2
 ·rw [if_pos c2] at H
  obtain ⟨c2b0, c2b1⟩ := eqB c2
  clear c2
  by_cases c3 : 0 < (t238.length : Int)
  ·rw [if_pos c3] at H
   have c3b0 := decide_eq_true c3
   have c3b1 : decide (0 < t238.length) = true := decide_eq_true (by omega)
   clear c3
   by_cases c4 : ((rd_T25 t238 0).f1) = 2
   ·rw [if_pos c4] at H
    obtain ⟨c4b0, c4b1⟩ := eqB c4
    clear c4
    by_cases c5 : 1 < (t238.length : Int)
    ·rw [if_pos c5] at H
     have c5b0 := decide_eq_true c5
     have c5b1 : decide (1 < t238.length) = true := decide_eq_true (by omega)
     clear c5
     by_cases c6 : ((rd_T25 t238 1).f0) = 3
     ·rw [if_pos c6] at H
      obtain ⟨c6b0, c6b1⟩ := eqB c6
      clear c6
      by_cases c7 : ((rd_T25 t238 1).f2) = 2
      ·rw [if_pos c7] at H
       obtain ⟨c7b0, c7b1⟩ := eqB c7
       clear c7
       obtain ⟨t245, A8, H⟩ := bE H
       by_cases c9 : t245 = 1
       ·rw [if_pos c9] at H
        obtain ⟨c9b0, c9b1⟩ := eqB c9
        clear c9
        obtain ⟨t247, A10, H⟩ := bE H
        obtain rfl := Option.some.inj H
        go_enter Tryd.func8, Tryd.ntmps8
        go_wp2_with (first | ((with_reducible refine gate_dst (N := 2) rfl ?_); (try (refine gate_guard (by rfl) ?_; dsimp only)); refine V_litsG _ 5 ?hg (N := 2) ?hd (xs := ([97, 46, 32, 40, 98] : List Int)) ?hr ?hw2 ?hr2 (Below.refl _ _) (Nat.le_refl _) (by simp) ?_; (case hd => rfl); (case hg => rfl); (case hr => intro W_; first | (go_simp; done) | (go_simp; rfl)); (case hw2 => rfl); (case hr2 => intro W_; go_simp; rw [run_convert_lit _ 22 5 _ _ _ Tryd.underlying22 Tryd.underlying5]; rfl); intro v236 w11 ho12 hb hg_ hnew_; clear hg_ hnew_; (first | rw [← Ny235.out] at ho12 | (simp only [Int.reduceToNat] at ho12; rw [← Ny235.out] at ho12)); have HO237 := Aside0.mk (Kd.V_lower (Kd.V_mono (ok' := fun k_ => True) ho12 (fun k_ hk_ => trivial)) (below_size (bAt HB.out))); replace HB := Aside0.mk (below_step (bAt HB.out) hb); clear hb ho12; obtain ⟨Ao13, co13, eo13⟩ := Kd.V_slice HO237.out; subst eo13) | ((with_reducible refine gate_callee (f := 13) rfl ?_); refine gL (some 4) Tryd.func13 #[.slice Ao13 y235.length co13] rfl gA ?_; (with_reducible refine (split_Pieces.calls k _ _ y235 t238 _ ?side1 ?side2 ?side3 A1.out).mono ?_); (case side1 => exact Gl.below HG.out (bAt HB.out)); (case side2 => exact CAt ((Kd.V_reads' HO237.out).2.2)); (case side3 => exact (Kd.V_reads' HO237.out).2.1); rintro e w14 ⟨v239, rfl, ho0, hb⟩; refine ⟨_, rfl, ?_⟩; replace HO237 := Aside0.mk (Kd.V_elder' (VAt HO237.out) (Kd.N_base ho0) hb); have HO240 := Aside0.mk (Kd.N_lower (Kd.N_mono (ok' := fun k_ => True) ho0 (fun k_ hk_ => trivial)) (below_size (bAt HB.out))); replace HB := Aside0.mk (below_step (bAt HB.out) hb); (try clear hb); (try clear hb2); (try clear hk); (try clear hi); (try clear ho0); obtain ⟨Ao15, co15, eo15⟩ := Kd.N_slice HO240.out; subst eo15; have p241 : 0 ≤ (0 : Int) := (by omega); have q241 : 0 < (t238.length : Int) := dt; obtain ⟨ad241, A241_3, c241_3, e241, hx241_0, hx241_1, hx241_2, hx241_3, hl241_3, hi241_3⟩ := at_T25 (Kd.N_reads' HO240.out).2.2 0 p241 q241; cases e241; obtain ⟨ce241, hce241, hMe241, hcc241⟩ := Kd.N_get HO240.out z25 0 p241 (by first | exact q241 | exact dt | (have e_ := (Kd.N_reads' HO240.out).1; omega)); obtain ⟨ua241_3, uc241_3, rfl, ul241_3, ge241_3⟩ := k25_openF hMe241; have hv241_3 := hcc241 3 _ rfl; rw [add_field _ _ 3 (by omega)] at hv241_3; replace hv241_3 := Option.some.inj (hv241_3.symm.trans hx241_3); injection hv241_3 with hva_ hvn_ hvc_; rw [hva_] at ge241_3; rw [hvc_] at ul241_3; have HL241_3 := Aside0.mk (show Kd.V k38 38 _ w.heap.size _ _ ((rd_T25 t238 0).f3) from Kd.V_mk ul241_3 ge241_3); clear hva_ hvn_ hvc_ ge241_3 ul241_3; clear hcc241 hce241; have qi241 : (0 < t238.length) = True := eq_true (by omega); (try rw [show ((0 : Int)).toNat = 0 from rfl] at hx241_0); (try rw [show 0 * 4 = 0 from rfl] at hx241_0); (try rw [Addr.add_zero'] at hx241_0); (try rw [show ((0 : Int)).toNat = 0 from rfl] at hx241_1); (try rw [show 0 * 4 = 0 from rfl] at hx241_1); (try rw [Addr.add_zero'] at hx241_1); (try rw [show ((0 : Int)).toNat = 0 from rfl] at hx241_2); (try rw [show 0 * 4 = 0 from rfl] at hx241_2); (try rw [Addr.add_zero'] at hx241_2); (try rw [show ((0 : Int)).toNat = 0 from rfl] at hx241_3); (try rw [show 0 * 4 = 0 from rfl] at hx241_3); (try rw [Addr.add_zero'] at hx241_3); have HR241_3 := Aside0.mk hi241_3; have HC241_3 := Aside0.mk hl241_3; clear hi241_3 hl241_3; replace p241 := eq_true p241; replace q241 := eq_true q241; have p242 : 0 ≤ (1 : Int) := (by omega); have q242 : 1 < (t238.length : Int) := dt; obtain ⟨ad242, A242_3, c242_3, e242, hx242_0, hx242_1, hx242_2, hx242_3, hl242_3, hi242_3⟩ := at_T25 (Kd.N_reads' HO240.out).2.2 1 p242 q242; obtain rfl : ad241 = ad242 := (by injection e242); obtain ⟨ce242, hce242, hMe242, hcc242⟩ := Kd.N_get HO240.out z25 1 p242 (by first | exact q242 | exact dt | (have e_ := (Kd.N_reads' HO240.out).1; omega)); obtain ⟨ua242_3, uc242_3, rfl, ul242_3, ge242_3⟩ := k25_openF hMe242; have hv242_3 := hcc242 3 _ rfl; rw [add_field _ _ 3 (by omega)] at hv242_3; replace hv242_3 := Option.some.inj (hv242_3.symm.trans hx242_3); injection hv242_3 with hva_ hvn_ hvc_; rw [hva_] at ge242_3; rw [hvc_] at ul242_3; have HL242_3 := Aside0.mk (show Kd.V k38 38 _ w.heap.size _ _ ((rd_T25 t238 1).f3) from Kd.V_mk ul242_3 ge242_3); clear hva_ hvn_ hvc_ ge242_3 ul242_3; clear hcc242 hce242; (try simp only [show (1 : Int).toNat = 1 from rfl, Nat.reduceMul, Nat.reduceEqDiff, Go.Addr.add, ↓reduceIte] at hx242_0); (try simp only [show (1 : Int).toNat = 1 from rfl, Nat.reduceMul, Nat.reduceEqDiff, Go.Addr.add, ↓reduceIte] at hx242_1); (try simp only [show (1 : Int).toNat = 1 from rfl, Nat.reduceMul, Nat.reduceEqDiff, Go.Addr.add, ↓reduceIte] at hx242_2); (try simp only [show (1 : Int).toNat = 1 from rfl, Nat.reduceMul, Nat.reduceEqDiff, Go.Addr.add, ↓reduceIte] at hx242_3); have qi242 : (1 < t238.length) = True := eq_true (by omega); (try rw [show ((1 : Int)).toNat = 1 from rfl] at hx242_0); (try rw [show 1 * 4 = 4 from rfl] at hx242_0); (try rw [show ((1 : Int)).toNat = 1 from rfl] at hx242_1); (try rw [show 1 * 4 = 4 from rfl] at hx242_1); (try rw [show ((1 : Int)).toNat = 1 from rfl] at hx242_2); (try rw [show 1 * 4 = 4 from rfl] at hx242_2); (try rw [show ((1 : Int)).toNat = 1 from rfl] at hx242_3); (try rw [show 1 * 4 = 4 from rfl] at hx242_3); have HR242_3 := Aside0.mk hi242_3; have HC242_3 := Aside0.mk hl242_3; clear hi242_3 hl242_3; replace p242 := eq_true p242; replace q242 := eq_true q242; have p243 : 0 ≤ (1 : Int) := (by omega); have q243 : 1 < (t238.length : Int) := dt; obtain ⟨ad243, A243_3, c243_3, e243, hx243_0, hx243_1, hx243_2, hx243_3, hl243_3, hi243_3⟩ := at_T25 (Kd.N_reads' HO240.out).2.2 1 p243 q243; obtain rfl : ad241 = ad243 := (by injection e243); obtain ⟨ce243, hce243, hMe243, hcc243⟩ := Kd.N_get HO240.out z25 1 p243 (by first | exact q243 | exact dt | (have e_ := (Kd.N_reads' HO240.out).1; omega)); obtain ⟨ua243_3, uc243_3, rfl, ul243_3, ge243_3⟩ := k25_openF hMe243; have hv243_3 := hcc243 3 _ rfl; rw [add_field _ _ 3 (by omega)] at hv243_3; replace hv243_3 := Option.some.inj (hv243_3.symm.trans hx243_3); injection hv243_3 with hva_ hvn_ hvc_; rw [hva_] at ge243_3; rw [hvc_] at ul243_3; have HL243_3 := Aside0.mk (show Kd.V k38 38 _ w.heap.size _ _ ((rd_T25 t238 1).f3) from Kd.V_mk ul243_3 ge243_3); clear hva_ hvn_ hvc_ ge243_3 ul243_3; clear hcc243 hce243; (try simp only [show (1 : Int).toNat = 1 from rfl, Nat.reduceMul, Nat.reduceEqDiff, Go.Addr.add, ↓reduceIte] at hx243_0); (try simp only [show (1 : Int).toNat = 1 from rfl, Nat.reduceMul, Nat.reduceEqDiff, Go.Addr.add, ↓reduceIte] at hx243_1); (try simp only [show (1 : Int).toNat = 1 from rfl, Nat.reduceMul, Nat.reduceEqDiff, Go.Addr.add, ↓reduceIte] at hx243_2); (try simp only [show (1 : Int).toNat = 1 from rfl, Nat.reduceMul, Nat.reduceEqDiff, Go.Addr.add, ↓reduceIte] at hx243_3); have qi243 : (1 < t238.length) = True := eq_true (by omega); (try rw [show ((1 : Int)).toNat = 1 from rfl] at hx243_0); (try rw [show 1 * 4 = 4 from rfl] at hx243_0); (try rw [show ((1 : Int)).toNat = 1 from rfl] at hx243_1); (try rw [show 1 * 4 = 4 from rfl] at hx243_1); (try rw [show ((1 : Int)).toNat = 1 from rfl] at hx243_2); (try rw [show 1 * 4 = 4 from rfl] at hx243_2); (try rw [show ((1 : Int)).toNat = 1 from rfl] at hx243_3); (try rw [show 1 * 4 = 4 from rfl] at hx243_3); have HR243_3 := Aside0.mk hi243_3; have HC243_3 := Aside0.mk hl243_3; clear hi243_3 hl243_3; replace p243 := eq_true p243; replace q243 := eq_true q243; have ea_ := Option.some.inj (hx242_3.symm.trans hx243_3); injection ea_ with ea_ en_ ec_; subst ea_; subst ec_; clear en_; have p244 : 0 ≤ (1 : Int) := (by omega); have q244 : 1 < (t238.length : Int) := dt; obtain ⟨ad244, A244_3, c244_3, e244, hx244_0, hx244_1, hx244_2, hx244_3, hl244_3, hi244_3⟩ := at_T25 (Kd.N_reads' HO240.out).2.2 1 p244 q244; obtain rfl : ad241 = ad244 := (by injection e244); obtain ⟨ce244, hce244, hMe244, hcc244⟩ := Kd.N_get HO240.out z25 1 p244 (by first | exact q244 | exact dt | (have e_ := (Kd.N_reads' HO240.out).1; omega)); obtain ⟨ua244_3, uc244_3, rfl, ul244_3, ge244_3⟩ := k25_openF hMe244; have hv244_3 := hcc244 3 _ rfl; rw [add_field _ _ 3 (by omega)] at hv244_3; replace hv244_3 := Option.some.inj (hv244_3.symm.trans hx244_3); injection hv244_3 with hva_ hvn_ hvc_; rw [hva_] at ge244_3; rw [hvc_] at ul244_3; have HL244_3 := Aside0.mk (show Kd.V k38 38 _ w.heap.size _ _ ((rd_T25 t238 1).f3) from Kd.V_mk ul244_3 ge244_3); clear hva_ hvn_ hvc_ ge244_3 ul244_3; clear hcc244 hce244; (try simp only [show (1 : Int).toNat = 1 from rfl, Nat.reduceMul, Nat.reduceEqDiff, Go.Addr.add, ↓reduceIte] at hx244_0); (try simp only [show (1 : Int).toNat = 1 from rfl, Nat.reduceMul, Nat.reduceEqDiff, Go.Addr.add, ↓reduceIte] at hx244_1); (try simp only [show (1 : Int).toNat = 1 from rfl, Nat.reduceMul, Nat.reduceEqDiff, Go.Addr.add, ↓reduceIte] at hx244_2); (try simp only [show (1 : Int).toNat = 1 from rfl, Nat.reduceMul, Nat.reduceEqDiff, Go.Addr.add, ↓reduceIte] at hx244_3); have qi244 : (1 < t238.length) = True := eq_true (by omega); (try rw [show ((1 : Int)).toNat = 1 from rfl] at hx244_0); (try rw [show 1 * 4 = 4 from rfl] at hx244_0); (try rw [show ((1 : Int)).toNat = 1 from rfl] at hx244_1); (try rw [show 1 * 4 = 4 from rfl] at hx244_1); (try rw [show ((1 : Int)).toNat = 1 from rfl] at hx244_2); (try rw [show 1 * 4 = 4 from rfl] at hx244_2); (try rw [show ((1 : Int)).toNat = 1 from rfl] at hx244_3); (try rw [show 1 * 4 = 4 from rfl] at hx244_3); have HR244_3 := Aside0.mk hi244_3; have HC244_3 := Aside0.mk hl244_3; clear hi244_3 hl244_3; replace p244 := eq_true p244; replace q244 := eq_true q244; have ea_ := Option.some.inj (hx242_3.symm.trans hx244_3); injection ea_ with ea_ en_ ec_; subst ea_; subst ec_; clear en_) | ((with_reducible refine gate_callee (f := 16) rfl ?_); (try (refine gate_guard (by rfl) ?_; dsimp only)); refine gL (some 33) Tryd.func16 #[.agg #[.int .i64 ((rd_T25 t238 1).f0), .int .i64 ((rd_T25 t238 1).f1), .int .i64 ((rd_T25 t238 1).f2), .slice A242_3 ((rd_T25 t238 1).f3).length c242_3]] rfl gA ?_; (with_reducible refine (split_Nest.calls k ((rd_T25 t238 1).f0) ((rd_T25 t238 1).f1) ((rd_T25 t238 1).f2) _ _ ((rd_T25 t238 1).f3) t245 _ ?side1 ?side2 A8.out).mono ?_); (case side1 => repeat (first | exact (CAt HR244_3.out) | (with_reducible refine Kd.C_alloc ?_ _) | (with_reducible refine Kd.C_drewN ?_ _) | (with_reducible refine Kd.C_drew ?_))); (case side2 => exact HC244_3.out); rintro e w16 ⟨rfl, hb⟩; refine ⟨_, rfl, ?_⟩; replace HO237 := Aside0.mk (Kd.V_below (VAt HO237.out) hb); replace HO240 := Aside0.mk (Kd.N_below (NAt HO240.out) hb); replace HL241_3 := Aside0.mk (Kd.V_below (VAt HL241_3.out) hb); replace HL242_3 := Aside0.mk (Kd.V_below (VAt HL242_3.out) hb); replace HL243_3 := Aside0.mk (Kd.V_below (VAt HL243_3.out) hb); replace HL244_3 := Aside0.mk (Kd.V_below (VAt HL244_3.out) hb); replace HR241_3 := Aside0.mk (Kd.C_below (CAt HR241_3.out) hb); replace HR242_3 := Aside0.mk (Kd.C_below (CAt HR242_3.out) hb); replace HR243_3 := Aside0.mk (Kd.C_below (CAt HR243_3.out) hb); replace HR244_3 := Aside0.mk (Kd.C_below (CAt HR244_3.out) hb); replace HB := Aside0.mk (below_step (bAt HB.out) hb); (try clear hb); (try clear hb2); (try clear hk); (try clear hi); have p246 : 0 ≤ (0 : Int) := (by omega); have q246 : 0 < (t238.length : Int) := dt; obtain ⟨ad246, A246_3, c246_3, e246, hx246_0, hx246_1, hx246_2, hx246_3, hl246_3, hi246_3⟩ := at_T25 (Kd.N_reads' HO240.out).2.2 0 p246 q246; obtain rfl : ad241 = ad246 := (by injection e246); obtain ⟨ce246, hce246, hMe246, hcc246⟩ := Kd.N_get HO240.out z25 0 p246 (by first | exact q246 | exact dt | (have e_ := (Kd.N_reads' HO240.out).1; omega)); obtain ⟨ua246_3, uc246_3, rfl, ul246_3, ge246_3⟩ := k25_openF hMe246; have hv246_3 := hcc246 3 _ rfl; rw [add_field _ _ 3 (by omega)] at hv246_3; replace hv246_3 := Option.some.inj (hv246_3.symm.trans hx246_3); injection hv246_3 with hva_ hvn_ hvc_; rw [hva_] at ge246_3; rw [hvc_] at ul246_3; have HL246_3 := Aside0.mk (show Kd.V k38 38 _ w.heap.size _ _ ((rd_T25 t238 0).f3) from Kd.V_mk ul246_3 ge246_3); clear hva_ hvn_ hvc_ ge246_3 ul246_3; clear hcc246 hce246; have qi246 : (0 < t238.length) = True := eq_true (by omega); (try rw [show ((0 : Int)).toNat = 0 from rfl] at hx246_0); (try rw [show 0 * 4 = 0 from rfl] at hx246_0); (try rw [Addr.add_zero'] at hx246_0); (try rw [show ((0 : Int)).toNat = 0 from rfl] at hx246_1); (try rw [show 0 * 4 = 0 from rfl] at hx246_1); (try rw [Addr.add_zero'] at hx246_1); (try rw [show ((0 : Int)).toNat = 0 from rfl] at hx246_2); (try rw [show 0 * 4 = 0 from rfl] at hx246_2); (try rw [Addr.add_zero'] at hx246_2); (try rw [show ((0 : Int)).toNat = 0 from rfl] at hx246_3); (try rw [show 0 * 4 = 0 from rfl] at hx246_3); (try rw [Addr.add_zero'] at hx246_3); have HR246_3 := Aside0.mk hi246_3; have HC246_3 := Aside0.mk hl246_3; clear hi246_3 hl246_3; replace p246 := eq_true p246; replace q246 := eq_true q246) | ((with_reducible refine gate_callee (f := 9) rfl ?_); (try (refine gate_guard (by rfl) ?_; dsimp only)); refine gL (some 40) Tryd.func9 #[.agg #[.int .i64 ((rd_T25 t238 0).f0), .int .i64 ((rd_T25 t238 0).f1), .int .i64 ((rd_T25 t238 0).f2), .slice A246_3 ((rd_T25 t238 0).f3).length c246_3]] rfl gA ?_; (with_reducible refine (split_Names.calls k ((rd_T25 t238 0).f0) ((rd_T25 t238 0).f1) ((rd_T25 t238 0).f2) _ _ ((rd_T25 t238 0).f3) t247 _ ?side1 ?side2 A10.out).mono ?_); (case side1 => repeat (first | exact (CAt HR246_3.out) | (with_reducible refine Kd.C_alloc ?_ _) | (with_reducible refine Kd.C_drewN ?_ _) | (with_reducible refine Kd.C_drew ?_))); (case side2 => exact HC246_3.out); rintro e w17 ⟨v248, rfl, ho0, hb⟩; refine ⟨_, rfl, ?_⟩; replace HO237 := Aside0.mk (Kd.V_elder' (VAt HO237.out) (Kd.R_base ho0) hb); replace HO240 := Aside0.mk (Kd.N_elder' (NAt HO240.out) (Kd.R_base ho0) hb); replace HL241_3 := Aside0.mk (Kd.V_elder' (VAt HL241_3.out) (Kd.R_base ho0) hb); replace HL242_3 := Aside0.mk (Kd.V_elder' (VAt HL242_3.out) (Kd.R_base ho0) hb); replace HL243_3 := Aside0.mk (Kd.V_elder' (VAt HL243_3.out) (Kd.R_base ho0) hb); replace HL244_3 := Aside0.mk (Kd.V_elder' (VAt HL244_3.out) (Kd.R_base ho0) hb); replace HL246_3 := Aside0.mk (Kd.V_elder' (VAt HL246_3.out) (Kd.R_base ho0) hb); have HO249 := Aside0.mk (Kd.R_lower ho0 (below_size (bAt HB.out))); replace HR241_3 := Aside0.mk (Kd.C_below (CAt HR241_3.out) hb); replace HR242_3 := Aside0.mk (Kd.C_below (CAt HR242_3.out) hb); replace HR243_3 := Aside0.mk (Kd.C_below (CAt HR243_3.out) hb); replace HR244_3 := Aside0.mk (Kd.C_below (CAt HR244_3.out) hb); replace HR246_3 := Aside0.mk (Kd.C_below (CAt HR246_3.out) hb); replace HB := Aside0.mk (below_step (bAt HB.out) hb); (try clear hb); (try clear hb2); (try clear hk); (try clear hi); (try clear ho0); obtain ⟨Ao18, co18, eo18⟩ := Kd.R_slice HO249.out; subst eo18))
        go_ret
        exact ⟨eR, bAt HB.out⟩
       ·rw [if_neg c9] at H
        obtain ⟨c9b0, c9b1⟩ := neB c9
        obtain rfl := Option.some.inj H
        go_enter Tryd.func8, Tryd.ntmps8
        go_wp2_with (first | ((with_reducible refine gate_dst (N := 2) rfl ?_); (try (refine gate_guard (by rfl) ?_; dsimp only)); refine V_litsG _ 5 ?hg (N := 2) ?hd (xs := ([97, 46, 32, 40, 98] : List Int)) ?hr ?hw2 ?hr2 (Below.refl _ _) (Nat.le_refl _) (by simp) ?_; (case hd => rfl); (case hg => rfl); (case hr => intro W_; first | (go_simp; done) | (go_simp; rfl)); (case hw2 => rfl); (case hr2 => intro W_; go_simp; rw [run_convert_lit _ 22 5 _ _ _ Tryd.underlying22 Tryd.underlying5]; rfl); intro v236 w19 ho20 hb hg_ hnew_; clear hg_ hnew_; (first | rw [← Ny235.out] at ho20 | (simp only [Int.reduceToNat] at ho20; rw [← Ny235.out] at ho20)); have HO237 := Aside0.mk (Kd.V_lower (Kd.V_mono (ok' := fun k_ => True) ho20 (fun k_ hk_ => trivial)) (below_size (bAt HB.out))); replace HB := Aside0.mk (below_step (bAt HB.out) hb); clear hb ho20; obtain ⟨Ao21, co21, eo21⟩ := Kd.V_slice HO237.out; subst eo21) | ((with_reducible refine gate_callee (f := 13) rfl ?_); refine gL (some 4) Tryd.func13 #[.slice Ao21 y235.length co21] rfl gA ?_; (with_reducible refine (split_Pieces.calls k _ _ y235 t238 _ ?side1 ?side2 ?side3 A1.out).mono ?_); (case side1 => exact Gl.below HG.out (bAt HB.out)); (case side2 => exact CAt ((Kd.V_reads' HO237.out).2.2)); (case side3 => exact (Kd.V_reads' HO237.out).2.1); rintro e w22 ⟨v239, rfl, ho0, hb⟩; refine ⟨_, rfl, ?_⟩; replace HO237 := Aside0.mk (Kd.V_elder' (VAt HO237.out) (Kd.N_base ho0) hb); have HO240 := Aside0.mk (Kd.N_lower (Kd.N_mono (ok' := fun k_ => True) ho0 (fun k_ hk_ => trivial)) (below_size (bAt HB.out))); replace HB := Aside0.mk (below_step (bAt HB.out) hb); (try clear hb); (try clear hb2); (try clear hk); (try clear hi); (try clear ho0); obtain ⟨Ao23, co23, eo23⟩ := Kd.N_slice HO240.out; subst eo23; have p241 : 0 ≤ (0 : Int) := (by omega); have q241 : 0 < (t238.length : Int) := dt; obtain ⟨ad241, A241_3, c241_3, e241, hx241_0, hx241_1, hx241_2, hx241_3, hl241_3, hi241_3⟩ := at_T25 (Kd.N_reads' HO240.out).2.2 0 p241 q241; cases e241; obtain ⟨ce241, hce241, hMe241, hcc241⟩ := Kd.N_get HO240.out z25 0 p241 (by first | exact q241 | exact dt | (have e_ := (Kd.N_reads' HO240.out).1; omega)); obtain ⟨ua241_3, uc241_3, rfl, ul241_3, ge241_3⟩ := k25_openF hMe241; have hv241_3 := hcc241 3 _ rfl; rw [add_field _ _ 3 (by omega)] at hv241_3; replace hv241_3 := Option.some.inj (hv241_3.symm.trans hx241_3); injection hv241_3 with hva_ hvn_ hvc_; rw [hva_] at ge241_3; rw [hvc_] at ul241_3; have HL241_3 := Aside0.mk (show Kd.V k38 38 _ w.heap.size _ _ ((rd_T25 t238 0).f3) from Kd.V_mk ul241_3 ge241_3); clear hva_ hvn_ hvc_ ge241_3 ul241_3; clear hcc241 hce241; have qi241 : (0 < t238.length) = True := eq_true (by omega); (try rw [show ((0 : Int)).toNat = 0 from rfl] at hx241_0); (try rw [show 0 * 4 = 0 from rfl] at hx241_0); (try rw [Addr.add_zero'] at hx241_0); (try rw [show ((0 : Int)).toNat = 0 from rfl] at hx241_1); (try rw [show 0 * 4 = 0 from rfl] at hx241_1); (try rw [Addr.add_zero'] at hx241_1); (try rw [show ((0 : Int)).toNat = 0 from rfl] at hx241_2); (try rw [show 0 * 4 = 0 from rfl] at hx241_2); (try rw [Addr.add_zero'] at hx241_2); (try rw [show ((0 : Int)).toNat = 0 from rfl] at hx241_3); (try rw [show 0 * 4 = 0 from rfl] at hx241_3); (try rw [Addr.add_zero'] at hx241_3); have HR241_3 := Aside0.mk hi241_3; have HC241_3 := Aside0.mk hl241_3; clear hi241_3 hl241_3; replace p241 := eq_true p241; replace q241 := eq_true q241; have p242 : 0 ≤ (1 : Int) := (by omega); have q242 : 1 < (t238.length : Int) := dt; obtain ⟨ad242, A242_3, c242_3, e242, hx242_0, hx242_1, hx242_2, hx242_3, hl242_3, hi242_3⟩ := at_T25 (Kd.N_reads' HO240.out).2.2 1 p242 q242; obtain rfl : ad241 = ad242 := (by injection e242); obtain ⟨ce242, hce242, hMe242, hcc242⟩ := Kd.N_get HO240.out z25 1 p242 (by first | exact q242 | exact dt | (have e_ := (Kd.N_reads' HO240.out).1; omega)); obtain ⟨ua242_3, uc242_3, rfl, ul242_3, ge242_3⟩ := k25_openF hMe242; have hv242_3 := hcc242 3 _ rfl; rw [add_field _ _ 3 (by omega)] at hv242_3; replace hv242_3 := Option.some.inj (hv242_3.symm.trans hx242_3); injection hv242_3 with hva_ hvn_ hvc_; rw [hva_] at ge242_3; rw [hvc_] at ul242_3; have HL242_3 := Aside0.mk (show Kd.V k38 38 _ w.heap.size _ _ ((rd_T25 t238 1).f3) from Kd.V_mk ul242_3 ge242_3); clear hva_ hvn_ hvc_ ge242_3 ul242_3; clear hcc242 hce242; (try simp only [show (1 : Int).toNat = 1 from rfl, Nat.reduceMul, Nat.reduceEqDiff, Go.Addr.add, ↓reduceIte] at hx242_0); (try simp only [show (1 : Int).toNat = 1 from rfl, Nat.reduceMul, Nat.reduceEqDiff, Go.Addr.add, ↓reduceIte] at hx242_1); (try simp only [show (1 : Int).toNat = 1 from rfl, Nat.reduceMul, Nat.reduceEqDiff, Go.Addr.add, ↓reduceIte] at hx242_2); (try simp only [show (1 : Int).toNat = 1 from rfl, Nat.reduceMul, Nat.reduceEqDiff, Go.Addr.add, ↓reduceIte] at hx242_3); have qi242 : (1 < t238.length) = True := eq_true (by omega); (try rw [show ((1 : Int)).toNat = 1 from rfl] at hx242_0); (try rw [show 1 * 4 = 4 from rfl] at hx242_0); (try rw [show ((1 : Int)).toNat = 1 from rfl] at hx242_1); (try rw [show 1 * 4 = 4 from rfl] at hx242_1); (try rw [show ((1 : Int)).toNat = 1 from rfl] at hx242_2); (try rw [show 1 * 4 = 4 from rfl] at hx242_2); (try rw [show ((1 : Int)).toNat = 1 from rfl] at hx242_3); (try rw [show 1 * 4 = 4 from rfl] at hx242_3); have HR242_3 := Aside0.mk hi242_3; have HC242_3 := Aside0.mk hl242_3; clear hi242_3 hl242_3; replace p242 := eq_true p242; replace q242 := eq_true q242; have p243 : 0 ≤ (1 : Int) := (by omega); have q243 : 1 < (t238.length : Int) := dt; obtain ⟨ad243, A243_3, c243_3, e243, hx243_0, hx243_1, hx243_2, hx243_3, hl243_3, hi243_3⟩ := at_T25 (Kd.N_reads' HO240.out).2.2 1 p243 q243; obtain rfl : ad241 = ad243 := (by injection e243); obtain ⟨ce243, hce243, hMe243, hcc243⟩ := Kd.N_get HO240.out z25 1 p243 (by first | exact q243 | exact dt | (have e_ := (Kd.N_reads' HO240.out).1; omega)); obtain ⟨ua243_3, uc243_3, rfl, ul243_3, ge243_3⟩ := k25_openF hMe243; have hv243_3 := hcc243 3 _ rfl; rw [add_field _ _ 3 (by omega)] at hv243_3; replace hv243_3 := Option.some.inj (hv243_3.symm.trans hx243_3); injection hv243_3 with hva_ hvn_ hvc_; rw [hva_] at ge243_3; rw [hvc_] at ul243_3; have HL243_3 := Aside0.mk (show Kd.V k38 38 _ w.heap.size _ _ ((rd_T25 t238 1).f3) from Kd.V_mk ul243_3 ge243_3); clear hva_ hvn_ hvc_ ge243_3 ul243_3; clear hcc243 hce243; (try simp only [show (1 : Int).toNat = 1 from rfl, Nat.reduceMul, Nat.reduceEqDiff, Go.Addr.add, ↓reduceIte] at hx243_0); (try simp only [show (1 : Int).toNat = 1 from rfl, Nat.reduceMul, Nat.reduceEqDiff, Go.Addr.add, ↓reduceIte] at hx243_1); (try simp only [show (1 : Int).toNat = 1 from rfl, Nat.reduceMul, Nat.reduceEqDiff, Go.Addr.add, ↓reduceIte] at hx243_2); (try simp only [show (1 : Int).toNat = 1 from rfl, Nat.reduceMul, Nat.reduceEqDiff, Go.Addr.add, ↓reduceIte] at hx243_3); have qi243 : (1 < t238.length) = True := eq_true (by omega); (try rw [show ((1 : Int)).toNat = 1 from rfl] at hx243_0); (try rw [show 1 * 4 = 4 from rfl] at hx243_0); (try rw [show ((1 : Int)).toNat = 1 from rfl] at hx243_1); (try rw [show 1 * 4 = 4 from rfl] at hx243_1); (try rw [show ((1 : Int)).toNat = 1 from rfl] at hx243_2); (try rw [show 1 * 4 = 4 from rfl] at hx243_2); (try rw [show ((1 : Int)).toNat = 1 from rfl] at hx243_3); (try rw [show 1 * 4 = 4 from rfl] at hx243_3); have HR243_3 := Aside0.mk hi243_3; have HC243_3 := Aside0.mk hl243_3; clear hi243_3 hl243_3; replace p243 := eq_true p243; replace q243 := eq_true q243; have ea_ := Option.some.inj (hx242_3.symm.trans hx243_3); injection ea_ with ea_ en_ ec_; subst ea_; subst ec_; clear en_; have p244 : 0 ≤ (1 : Int) := (by omega); have q244 : 1 < (t238.length : Int) := dt; obtain ⟨ad244, A244_3, c244_3, e244, hx244_0, hx244_1, hx244_2, hx244_3, hl244_3, hi244_3⟩ := at_T25 (Kd.N_reads' HO240.out).2.2 1 p244 q244; obtain rfl : ad241 = ad244 := (by injection e244); obtain ⟨ce244, hce244, hMe244, hcc244⟩ := Kd.N_get HO240.out z25 1 p244 (by first | exact q244 | exact dt | (have e_ := (Kd.N_reads' HO240.out).1; omega)); obtain ⟨ua244_3, uc244_3, rfl, ul244_3, ge244_3⟩ := k25_openF hMe244; have hv244_3 := hcc244 3 _ rfl; rw [add_field _ _ 3 (by omega)] at hv244_3; replace hv244_3 := Option.some.inj (hv244_3.symm.trans hx244_3); injection hv244_3 with hva_ hvn_ hvc_; rw [hva_] at ge244_3; rw [hvc_] at ul244_3; have HL244_3 := Aside0.mk (show Kd.V k38 38 _ w.heap.size _ _ ((rd_T25 t238 1).f3) from Kd.V_mk ul244_3 ge244_3); clear hva_ hvn_ hvc_ ge244_3 ul244_3; clear hcc244 hce244; (try simp only [show (1 : Int).toNat = 1 from rfl, Nat.reduceMul, Nat.reduceEqDiff, Go.Addr.add, ↓reduceIte] at hx244_0); (try simp only [show (1 : Int).toNat = 1 from rfl, Nat.reduceMul, Nat.reduceEqDiff, Go.Addr.add, ↓reduceIte] at hx244_1); (try simp only [show (1 : Int).toNat = 1 from rfl, Nat.reduceMul, Nat.reduceEqDiff, Go.Addr.add, ↓reduceIte] at hx244_2); (try simp only [show (1 : Int).toNat = 1 from rfl, Nat.reduceMul, Nat.reduceEqDiff, Go.Addr.add, ↓reduceIte] at hx244_3); have qi244 : (1 < t238.length) = True := eq_true (by omega); (try rw [show ((1 : Int)).toNat = 1 from rfl] at hx244_0); (try rw [show 1 * 4 = 4 from rfl] at hx244_0); (try rw [show ((1 : Int)).toNat = 1 from rfl] at hx244_1); (try rw [show 1 * 4 = 4 from rfl] at hx244_1); (try rw [show ((1 : Int)).toNat = 1 from rfl] at hx244_2); (try rw [show 1 * 4 = 4 from rfl] at hx244_2); (try rw [show ((1 : Int)).toNat = 1 from rfl] at hx244_3); (try rw [show 1 * 4 = 4 from rfl] at hx244_3); have HR244_3 := Aside0.mk hi244_3; have HC244_3 := Aside0.mk hl244_3; clear hi244_3 hl244_3; replace p244 := eq_true p244; replace q244 := eq_true q244; have ea_ := Option.some.inj (hx242_3.symm.trans hx244_3); injection ea_ with ea_ en_ ec_; subst ea_; subst ec_; clear en_) | ((with_reducible refine gate_callee (f := 16) rfl ?_); (try (refine gate_guard (by rfl) ?_; dsimp only)); refine gL (some 33) Tryd.func16 #[.agg #[.int .i64 ((rd_T25 t238 1).f0), .int .i64 ((rd_T25 t238 1).f1), .int .i64 ((rd_T25 t238 1).f2), .slice A242_3 ((rd_T25 t238 1).f3).length c242_3]] rfl gA ?_; (with_reducible refine (split_Nest.calls k ((rd_T25 t238 1).f0) ((rd_T25 t238 1).f1) ((rd_T25 t238 1).f2) _ _ ((rd_T25 t238 1).f3) t245 _ ?side1 ?side2 A8.out).mono ?_); (case side1 => repeat (first | exact (CAt HR244_3.out) | (with_reducible refine Kd.C_alloc ?_ _) | (with_reducible refine Kd.C_drewN ?_ _) | (with_reducible refine Kd.C_drew ?_))); (case side2 => exact HC244_3.out); rintro e w24 ⟨rfl, hb⟩; refine ⟨_, rfl, ?_⟩; replace HO237 := Aside0.mk (Kd.V_below (VAt HO237.out) hb); replace HO240 := Aside0.mk (Kd.N_below (NAt HO240.out) hb); replace HL241_3 := Aside0.mk (Kd.V_below (VAt HL241_3.out) hb); replace HL242_3 := Aside0.mk (Kd.V_below (VAt HL242_3.out) hb); replace HL243_3 := Aside0.mk (Kd.V_below (VAt HL243_3.out) hb); replace HL244_3 := Aside0.mk (Kd.V_below (VAt HL244_3.out) hb); replace HR241_3 := Aside0.mk (Kd.C_below (CAt HR241_3.out) hb); replace HR242_3 := Aside0.mk (Kd.C_below (CAt HR242_3.out) hb); replace HR243_3 := Aside0.mk (Kd.C_below (CAt HR243_3.out) hb); replace HR244_3 := Aside0.mk (Kd.C_below (CAt HR244_3.out) hb); replace HB := Aside0.mk (below_step (bAt HB.out) hb); (try clear hb); (try clear hb2); (try clear hk); (try clear hi)))
        go_ret
        exact ⟨eR, bAt HB.out⟩
      ·rw [if_neg c7] at H
       obtain ⟨c7b0, c7b1⟩ := neB c7
       obtain rfl := Option.some.inj H
       go_enter Tryd.func8, Tryd.ntmps8
       go_wp2_with (first | ((with_reducible refine gate_dst (N := 2) rfl ?_); (try (refine gate_guard (by rfl) ?_; dsimp only)); refine V_litsG _ 5 ?hg (N := 2) ?hd (xs := ([97, 46, 32, 40, 98] : List Int)) ?hr ?hw2 ?hr2 (Below.refl _ _) (Nat.le_refl _) (by simp) ?_; (case hd => rfl); (case hg => rfl); (case hr => intro W_; first | (go_simp; done) | (go_simp; rfl)); (case hw2 => rfl); (case hr2 => intro W_; go_simp; rw [run_convert_lit _ 22 5 _ _ _ Tryd.underlying22 Tryd.underlying5]; rfl); intro v236 w25 ho26 hb hg_ hnew_; clear hg_ hnew_; (first | rw [← Ny235.out] at ho26 | (simp only [Int.reduceToNat] at ho26; rw [← Ny235.out] at ho26)); have HO237 := Aside0.mk (Kd.V_lower (Kd.V_mono (ok' := fun k_ => True) ho26 (fun k_ hk_ => trivial)) (below_size (bAt HB.out))); replace HB := Aside0.mk (below_step (bAt HB.out) hb); clear hb ho26; obtain ⟨Ao27, co27, eo27⟩ := Kd.V_slice HO237.out; subst eo27) | ((with_reducible refine gate_callee (f := 13) rfl ?_); refine gL (some 4) Tryd.func13 #[.slice Ao27 y235.length co27] rfl gA ?_; (with_reducible refine (split_Pieces.calls k _ _ y235 t238 _ ?side1 ?side2 ?side3 A1.out).mono ?_); (case side1 => exact Gl.below HG.out (bAt HB.out)); (case side2 => exact CAt ((Kd.V_reads' HO237.out).2.2)); (case side3 => exact (Kd.V_reads' HO237.out).2.1); rintro e w28 ⟨v239, rfl, ho0, hb⟩; refine ⟨_, rfl, ?_⟩; replace HO237 := Aside0.mk (Kd.V_elder' (VAt HO237.out) (Kd.N_base ho0) hb); have HO240 := Aside0.mk (Kd.N_lower (Kd.N_mono (ok' := fun k_ => True) ho0 (fun k_ hk_ => trivial)) (below_size (bAt HB.out))); replace HB := Aside0.mk (below_step (bAt HB.out) hb); (try clear hb); (try clear hb2); (try clear hk); (try clear hi); (try clear ho0); obtain ⟨Ao29, co29, eo29⟩ := Kd.N_slice HO240.out; subst eo29; have p241 : 0 ≤ (0 : Int) := (by omega); have q241 : 0 < (t238.length : Int) := dt; obtain ⟨ad241, A241_3, c241_3, e241, hx241_0, hx241_1, hx241_2, hx241_3, hl241_3, hi241_3⟩ := at_T25 (Kd.N_reads' HO240.out).2.2 0 p241 q241; cases e241; obtain ⟨ce241, hce241, hMe241, hcc241⟩ := Kd.N_get HO240.out z25 0 p241 (by first | exact q241 | exact dt | (have e_ := (Kd.N_reads' HO240.out).1; omega)); obtain ⟨ua241_3, uc241_3, rfl, ul241_3, ge241_3⟩ := k25_openF hMe241; have hv241_3 := hcc241 3 _ rfl; rw [add_field _ _ 3 (by omega)] at hv241_3; replace hv241_3 := Option.some.inj (hv241_3.symm.trans hx241_3); injection hv241_3 with hva_ hvn_ hvc_; rw [hva_] at ge241_3; rw [hvc_] at ul241_3; have HL241_3 := Aside0.mk (show Kd.V k38 38 _ w.heap.size _ _ ((rd_T25 t238 0).f3) from Kd.V_mk ul241_3 ge241_3); clear hva_ hvn_ hvc_ ge241_3 ul241_3; clear hcc241 hce241; have qi241 : (0 < t238.length) = True := eq_true (by omega); (try rw [show ((0 : Int)).toNat = 0 from rfl] at hx241_0); (try rw [show 0 * 4 = 0 from rfl] at hx241_0); (try rw [Addr.add_zero'] at hx241_0); (try rw [show ((0 : Int)).toNat = 0 from rfl] at hx241_1); (try rw [show 0 * 4 = 0 from rfl] at hx241_1); (try rw [Addr.add_zero'] at hx241_1); (try rw [show ((0 : Int)).toNat = 0 from rfl] at hx241_2); (try rw [show 0 * 4 = 0 from rfl] at hx241_2); (try rw [Addr.add_zero'] at hx241_2); (try rw [show ((0 : Int)).toNat = 0 from rfl] at hx241_3); (try rw [show 0 * 4 = 0 from rfl] at hx241_3); (try rw [Addr.add_zero'] at hx241_3); have HR241_3 := Aside0.mk hi241_3; have HC241_3 := Aside0.mk hl241_3; clear hi241_3 hl241_3; replace p241 := eq_true p241; replace q241 := eq_true q241; have p242 : 0 ≤ (1 : Int) := (by omega); have q242 : 1 < (t238.length : Int) := dt; obtain ⟨ad242, A242_3, c242_3, e242, hx242_0, hx242_1, hx242_2, hx242_3, hl242_3, hi242_3⟩ := at_T25 (Kd.N_reads' HO240.out).2.2 1 p242 q242; obtain rfl : ad241 = ad242 := (by injection e242); obtain ⟨ce242, hce242, hMe242, hcc242⟩ := Kd.N_get HO240.out z25 1 p242 (by first | exact q242 | exact dt | (have e_ := (Kd.N_reads' HO240.out).1; omega)); obtain ⟨ua242_3, uc242_3, rfl, ul242_3, ge242_3⟩ := k25_openF hMe242; have hv242_3 := hcc242 3 _ rfl; rw [add_field _ _ 3 (by omega)] at hv242_3; replace hv242_3 := Option.some.inj (hv242_3.symm.trans hx242_3); injection hv242_3 with hva_ hvn_ hvc_; rw [hva_] at ge242_3; rw [hvc_] at ul242_3; have HL242_3 := Aside0.mk (show Kd.V k38 38 _ w.heap.size _ _ ((rd_T25 t238 1).f3) from Kd.V_mk ul242_3 ge242_3); clear hva_ hvn_ hvc_ ge242_3 ul242_3; clear hcc242 hce242; (try simp only [show (1 : Int).toNat = 1 from rfl, Nat.reduceMul, Nat.reduceEqDiff, Go.Addr.add, ↓reduceIte] at hx242_0); (try simp only [show (1 : Int).toNat = 1 from rfl, Nat.reduceMul, Nat.reduceEqDiff, Go.Addr.add, ↓reduceIte] at hx242_1); (try simp only [show (1 : Int).toNat = 1 from rfl, Nat.reduceMul, Nat.reduceEqDiff, Go.Addr.add, ↓reduceIte] at hx242_2); (try simp only [show (1 : Int).toNat = 1 from rfl, Nat.reduceMul, Nat.reduceEqDiff, Go.Addr.add, ↓reduceIte] at hx242_3); have qi242 : (1 < t238.length) = True := eq_true (by omega); (try rw [show ((1 : Int)).toNat = 1 from rfl] at hx242_0); (try rw [show 1 * 4 = 4 from rfl] at hx242_0); (try rw [show ((1 : Int)).toNat = 1 from rfl] at hx242_1); (try rw [show 1 * 4 = 4 from rfl] at hx242_1); (try rw [show ((1 : Int)).toNat = 1 from rfl] at hx242_2); (try rw [show 1 * 4 = 4 from rfl] at hx242_2); (try rw [show ((1 : Int)).toNat = 1 from rfl] at hx242_3); (try rw [show 1 * 4 = 4 from rfl] at hx242_3); have HR242_3 := Aside0.mk hi242_3; have HC242_3 := Aside0.mk hl242_3; clear hi242_3 hl242_3; replace p242 := eq_true p242; replace q242 := eq_true q242; have p243 : 0 ≤ (1 : Int) := (by omega); have q243 : 1 < (t238.length : Int) := dt; obtain ⟨ad243, A243_3, c243_3, e243, hx243_0, hx243_1, hx243_2, hx243_3, hl243_3, hi243_3⟩ := at_T25 (Kd.N_reads' HO240.out).2.2 1 p243 q243; obtain rfl : ad241 = ad243 := (by injection e243); obtain ⟨ce243, hce243, hMe243, hcc243⟩ := Kd.N_get HO240.out z25 1 p243 (by first | exact q243 | exact dt | (have e_ := (Kd.N_reads' HO240.out).1; omega)); obtain ⟨ua243_3, uc243_3, rfl, ul243_3, ge243_3⟩ := k25_openF hMe243; have hv243_3 := hcc243 3 _ rfl; rw [add_field _ _ 3 (by omega)] at hv243_3; replace hv243_3 := Option.some.inj (hv243_3.symm.trans hx243_3); injection hv243_3 with hva_ hvn_ hvc_; rw [hva_] at ge243_3; rw [hvc_] at ul243_3; have HL243_3 := Aside0.mk (show Kd.V k38 38 _ w.heap.size _ _ ((rd_T25 t238 1).f3) from Kd.V_mk ul243_3 ge243_3); clear hva_ hvn_ hvc_ ge243_3 ul243_3; clear hcc243 hce243; (try simp only [show (1 : Int).toNat = 1 from rfl, Nat.reduceMul, Nat.reduceEqDiff, Go.Addr.add, ↓reduceIte] at hx243_0); (try simp only [show (1 : Int).toNat = 1 from rfl, Nat.reduceMul, Nat.reduceEqDiff, Go.Addr.add, ↓reduceIte] at hx243_1); (try simp only [show (1 : Int).toNat = 1 from rfl, Nat.reduceMul, Nat.reduceEqDiff, Go.Addr.add, ↓reduceIte] at hx243_2); (try simp only [show (1 : Int).toNat = 1 from rfl, Nat.reduceMul, Nat.reduceEqDiff, Go.Addr.add, ↓reduceIte] at hx243_3); have qi243 : (1 < t238.length) = True := eq_true (by omega); (try rw [show ((1 : Int)).toNat = 1 from rfl] at hx243_0); (try rw [show 1 * 4 = 4 from rfl] at hx243_0); (try rw [show ((1 : Int)).toNat = 1 from rfl] at hx243_1); (try rw [show 1 * 4 = 4 from rfl] at hx243_1); (try rw [show ((1 : Int)).toNat = 1 from rfl] at hx243_2); (try rw [show 1 * 4 = 4 from rfl] at hx243_2); (try rw [show ((1 : Int)).toNat = 1 from rfl] at hx243_3); (try rw [show 1 * 4 = 4 from rfl] at hx243_3); have HR243_3 := Aside0.mk hi243_3; have HC243_3 := Aside0.mk hl243_3; clear hi243_3 hl243_3; replace p243 := eq_true p243; replace q243 := eq_true q243; have ea_ := Option.some.inj (hx242_3.symm.trans hx243_3); injection ea_ with ea_ en_ ec_; subst ea_; subst ec_; clear en_))
       go_ret
       exact ⟨eR, bAt HB.out⟩
     ·rw [if_neg c6] at H
      obtain ⟨c6b0, c6b1⟩ := neB c6
      obtain rfl := Option.some.inj H
      go_enter Tryd.func8, Tryd.ntmps8
      go_wp2_with (first | ((with_reducible refine gate_dst (N := 2) rfl ?_); (try (refine gate_guard (by rfl) ?_; dsimp only)); refine V_litsG _ 5 ?hg (N := 2) ?hd (xs := ([97, 46, 32, 40, 98] : List Int)) ?hr ?hw2 ?hr2 (Below.refl _ _) (Nat.le_refl _) (by simp) ?_; (case hd => rfl); (case hg => rfl); (case hr => intro W_; first | (go_simp; done) | (go_simp; rfl)); (case hw2 => rfl); (case hr2 => intro W_; go_simp; rw [run_convert_lit _ 22 5 _ _ _ Tryd.underlying22 Tryd.underlying5]; rfl); intro v236 w30 ho31 hb hg_ hnew_; clear hg_ hnew_; (first | rw [← Ny235.out] at ho31 | (simp only [Int.reduceToNat] at ho31; rw [← Ny235.out] at ho31)); have HO237 := Aside0.mk (Kd.V_lower (Kd.V_mono (ok' := fun k_ => True) ho31 (fun k_ hk_ => trivial)) (below_size (bAt HB.out))); replace HB := Aside0.mk (below_step (bAt HB.out) hb); clear hb ho31; obtain ⟨Ao32, co32, eo32⟩ := Kd.V_slice HO237.out; subst eo32) | ((with_reducible refine gate_callee (f := 13) rfl ?_); refine gL (some 4) Tryd.func13 #[.slice Ao32 y235.length co32] rfl gA ?_; (with_reducible refine (split_Pieces.calls k _ _ y235 t238 _ ?side1 ?side2 ?side3 A1.out).mono ?_); (case side1 => exact Gl.below HG.out (bAt HB.out)); (case side2 => exact CAt ((Kd.V_reads' HO237.out).2.2)); (case side3 => exact (Kd.V_reads' HO237.out).2.1); rintro e w33 ⟨v239, rfl, ho0, hb⟩; refine ⟨_, rfl, ?_⟩; replace HO237 := Aside0.mk (Kd.V_elder' (VAt HO237.out) (Kd.N_base ho0) hb); have HO240 := Aside0.mk (Kd.N_lower (Kd.N_mono (ok' := fun k_ => True) ho0 (fun k_ hk_ => trivial)) (below_size (bAt HB.out))); replace HB := Aside0.mk (below_step (bAt HB.out) hb); (try clear hb); (try clear hb2); (try clear hk); (try clear hi); (try clear ho0); obtain ⟨Ao34, co34, eo34⟩ := Kd.N_slice HO240.out; subst eo34; have p241 : 0 ≤ (0 : Int) := (by omega); have q241 : 0 < (t238.length : Int) := dt; obtain ⟨ad241, A241_3, c241_3, e241, hx241_0, hx241_1, hx241_2, hx241_3, hl241_3, hi241_3⟩ := at_T25 (Kd.N_reads' HO240.out).2.2 0 p241 q241; cases e241; obtain ⟨ce241, hce241, hMe241, hcc241⟩ := Kd.N_get HO240.out z25 0 p241 (by first | exact q241 | exact dt | (have e_ := (Kd.N_reads' HO240.out).1; omega)); obtain ⟨ua241_3, uc241_3, rfl, ul241_3, ge241_3⟩ := k25_openF hMe241; have hv241_3 := hcc241 3 _ rfl; rw [add_field _ _ 3 (by omega)] at hv241_3; replace hv241_3 := Option.some.inj (hv241_3.symm.trans hx241_3); injection hv241_3 with hva_ hvn_ hvc_; rw [hva_] at ge241_3; rw [hvc_] at ul241_3; have HL241_3 := Aside0.mk (show Kd.V k38 38 _ w.heap.size _ _ ((rd_T25 t238 0).f3) from Kd.V_mk ul241_3 ge241_3); clear hva_ hvn_ hvc_ ge241_3 ul241_3; clear hcc241 hce241; have qi241 : (0 < t238.length) = True := eq_true (by omega); (try rw [show ((0 : Int)).toNat = 0 from rfl] at hx241_0); (try rw [show 0 * 4 = 0 from rfl] at hx241_0); (try rw [Addr.add_zero'] at hx241_0); (try rw [show ((0 : Int)).toNat = 0 from rfl] at hx241_1); (try rw [show 0 * 4 = 0 from rfl] at hx241_1); (try rw [Addr.add_zero'] at hx241_1); (try rw [show ((0 : Int)).toNat = 0 from rfl] at hx241_2); (try rw [show 0 * 4 = 0 from rfl] at hx241_2); (try rw [Addr.add_zero'] at hx241_2); (try rw [show ((0 : Int)).toNat = 0 from rfl] at hx241_3); (try rw [show 0 * 4 = 0 from rfl] at hx241_3); (try rw [Addr.add_zero'] at hx241_3); have HR241_3 := Aside0.mk hi241_3; have HC241_3 := Aside0.mk hl241_3; clear hi241_3 hl241_3; replace p241 := eq_true p241; replace q241 := eq_true q241; have p242 : 0 ≤ (1 : Int) := (by omega); have q242 : 1 < (t238.length : Int) := dt; obtain ⟨ad242, A242_3, c242_3, e242, hx242_0, hx242_1, hx242_2, hx242_3, hl242_3, hi242_3⟩ := at_T25 (Kd.N_reads' HO240.out).2.2 1 p242 q242; obtain rfl : ad241 = ad242 := (by injection e242); obtain ⟨ce242, hce242, hMe242, hcc242⟩ := Kd.N_get HO240.out z25 1 p242 (by first | exact q242 | exact dt | (have e_ := (Kd.N_reads' HO240.out).1; omega)); obtain ⟨ua242_3, uc242_3, rfl, ul242_3, ge242_3⟩ := k25_openF hMe242; have hv242_3 := hcc242 3 _ rfl; rw [add_field _ _ 3 (by omega)] at hv242_3; replace hv242_3 := Option.some.inj (hv242_3.symm.trans hx242_3); injection hv242_3 with hva_ hvn_ hvc_; rw [hva_] at ge242_3; rw [hvc_] at ul242_3; have HL242_3 := Aside0.mk (show Kd.V k38 38 _ w.heap.size _ _ ((rd_T25 t238 1).f3) from Kd.V_mk ul242_3 ge242_3); clear hva_ hvn_ hvc_ ge242_3 ul242_3; clear hcc242 hce242; (try simp only [show (1 : Int).toNat = 1 from rfl, Nat.reduceMul, Nat.reduceEqDiff, Go.Addr.add, ↓reduceIte] at hx242_0); (try simp only [show (1 : Int).toNat = 1 from rfl, Nat.reduceMul, Nat.reduceEqDiff, Go.Addr.add, ↓reduceIte] at hx242_1); (try simp only [show (1 : Int).toNat = 1 from rfl, Nat.reduceMul, Nat.reduceEqDiff, Go.Addr.add, ↓reduceIte] at hx242_2); (try simp only [show (1 : Int).toNat = 1 from rfl, Nat.reduceMul, Nat.reduceEqDiff, Go.Addr.add, ↓reduceIte] at hx242_3); have qi242 : (1 < t238.length) = True := eq_true (by omega); (try rw [show ((1 : Int)).toNat = 1 from rfl] at hx242_0); (try rw [show 1 * 4 = 4 from rfl] at hx242_0); (try rw [show ((1 : Int)).toNat = 1 from rfl] at hx242_1); (try rw [show 1 * 4 = 4 from rfl] at hx242_1); (try rw [show ((1 : Int)).toNat = 1 from rfl] at hx242_2); (try rw [show 1 * 4 = 4 from rfl] at hx242_2); (try rw [show ((1 : Int)).toNat = 1 from rfl] at hx242_3); (try rw [show 1 * 4 = 4 from rfl] at hx242_3); have HR242_3 := Aside0.mk hi242_3; have HC242_3 := Aside0.mk hl242_3; clear hi242_3 hl242_3; replace p242 := eq_true p242; replace q242 := eq_true q242))
      go_ret
      exact ⟨eR, bAt HB.out⟩
    ·exact nB H c5
   ·rw [if_neg c4] at H
    obtain ⟨c4b0, c4b1⟩ := neB c4
    obtain rfl := Option.some.inj H
    go_enter Tryd.func8, Tryd.ntmps8
    go_wp2_with (first | ((with_reducible refine gate_dst (N := 2) rfl ?_); (try (refine gate_guard (by rfl) ?_; dsimp only)); refine V_litsG _ 5 ?hg (N := 2) ?hd (xs := ([97, 46, 32, 40, 98] : List Int)) ?hr ?hw2 ?hr2 (Below.refl _ _) (Nat.le_refl _) (by simp) ?_; (case hd => rfl); (case hg => rfl); (case hr => intro W_; first | (go_simp; done) | (go_simp; rfl)); (case hw2 => rfl); (case hr2 => intro W_; go_simp; rw [run_convert_lit _ 22 5 _ _ _ Tryd.underlying22 Tryd.underlying5]; rfl); intro v236 w35 ho36 hb hg_ hnew_; clear hg_ hnew_; (first | rw [← Ny235.out] at ho36 | (simp only [Int.reduceToNat] at ho36; rw [← Ny235.out] at ho36)); have HO237 := Aside0.mk (Kd.V_lower (Kd.V_mono (ok' := fun k_ => True) ho36 (fun k_ hk_ => trivial)) (below_size (bAt HB.out))); replace HB := Aside0.mk (below_step (bAt HB.out) hb); clear hb ho36; obtain ⟨Ao37, co37, eo37⟩ := Kd.V_slice HO237.out; subst eo37) | ((with_reducible refine gate_callee (f := 13) rfl ?_); refine gL (some 4) Tryd.func13 #[.slice Ao37 y235.length co37] rfl gA ?_; (with_reducible refine (split_Pieces.calls k _ _ y235 t238 _ ?side1 ?side2 ?side3 A1.out).mono ?_); (case side1 => exact Gl.below HG.out (bAt HB.out)); (case side2 => exact CAt ((Kd.V_reads' HO237.out).2.2)); (case side3 => exact (Kd.V_reads' HO237.out).2.1); rintro e w38 ⟨v239, rfl, ho0, hb⟩; refine ⟨_, rfl, ?_⟩; replace HO237 := Aside0.mk (Kd.V_elder' (VAt HO237.out) (Kd.N_base ho0) hb); have HO240 := Aside0.mk (Kd.N_lower (Kd.N_mono (ok' := fun k_ => True) ho0 (fun k_ hk_ => trivial)) (below_size (bAt HB.out))); replace HB := Aside0.mk (below_step (bAt HB.out) hb); (try clear hb); (try clear hb2); (try clear hk); (try clear hi); (try clear ho0); obtain ⟨Ao39, co39, eo39⟩ := Kd.N_slice HO240.out; subst eo39; have p241 : 0 ≤ (0 : Int) := (by omega); have q241 : 0 < (t238.length : Int) := dt; obtain ⟨ad241, A241_3, c241_3, e241, hx241_0, hx241_1, hx241_2, hx241_3, hl241_3, hi241_3⟩ := at_T25 (Kd.N_reads' HO240.out).2.2 0 p241 q241; cases e241; obtain ⟨ce241, hce241, hMe241, hcc241⟩ := Kd.N_get HO240.out z25 0 p241 (by first | exact q241 | exact dt | (have e_ := (Kd.N_reads' HO240.out).1; omega)); obtain ⟨ua241_3, uc241_3, rfl, ul241_3, ge241_3⟩ := k25_openF hMe241; have hv241_3 := hcc241 3 _ rfl; rw [add_field _ _ 3 (by omega)] at hv241_3; replace hv241_3 := Option.some.inj (hv241_3.symm.trans hx241_3); injection hv241_3 with hva_ hvn_ hvc_; rw [hva_] at ge241_3; rw [hvc_] at ul241_3; have HL241_3 := Aside0.mk (show Kd.V k38 38 _ w.heap.size _ _ ((rd_T25 t238 0).f3) from Kd.V_mk ul241_3 ge241_3); clear hva_ hvn_ hvc_ ge241_3 ul241_3; clear hcc241 hce241; have qi241 : (0 < t238.length) = True := eq_true (by omega); (try rw [show ((0 : Int)).toNat = 0 from rfl] at hx241_0); (try rw [show 0 * 4 = 0 from rfl] at hx241_0); (try rw [Addr.add_zero'] at hx241_0); (try rw [show ((0 : Int)).toNat = 0 from rfl] at hx241_1); (try rw [show 0 * 4 = 0 from rfl] at hx241_1); (try rw [Addr.add_zero'] at hx241_1); (try rw [show ((0 : Int)).toNat = 0 from rfl] at hx241_2); (try rw [show 0 * 4 = 0 from rfl] at hx241_2); (try rw [Addr.add_zero'] at hx241_2); (try rw [show ((0 : Int)).toNat = 0 from rfl] at hx241_3); (try rw [show 0 * 4 = 0 from rfl] at hx241_3); (try rw [Addr.add_zero'] at hx241_3); have HR241_3 := Aside0.mk hi241_3; have HC241_3 := Aside0.mk hl241_3; clear hi241_3 hl241_3; replace p241 := eq_true p241; replace q241 := eq_true q241))
    go_ret
    exact ⟨eR, bAt HB.out⟩
  ·exact nB H c3
 ·rw [if_neg c2] at H
  obtain ⟨c2b0, c2b1⟩ := neB c2
  obtain rfl := Option.some.inj H
  go_enter Tryd.func8, Tryd.ntmps8
  go_wp2_with (first | ((with_reducible refine gate_dst (N := 2) rfl ?_); (try (refine gate_guard (by rfl) ?_; dsimp only)); refine V_litsG _ 5 ?hg (N := 2) ?hd (xs := ([97, 46, 32, 40, 98] : List Int)) ?hr ?hw2 ?hr2 (Below.refl _ _) (Nat.le_refl _) (by simp) ?_; (case hd => rfl); (case hg => rfl); (case hr => intro W_; first | (go_simp; done) | (go_simp; rfl)); (case hw2 => rfl); (case hr2 => intro W_; go_simp; rw [run_convert_lit _ 22 5 _ _ _ Tryd.underlying22 Tryd.underlying5]; rfl); intro v236 w40 ho41 hb hg_ hnew_; clear hg_ hnew_; (first | rw [← Ny235.out] at ho41 | (simp only [Int.reduceToNat] at ho41; rw [← Ny235.out] at ho41)); have HO237 := Aside0.mk (Kd.V_lower (Kd.V_mono (ok' := fun k_ => True) ho41 (fun k_ hk_ => trivial)) (below_size (bAt HB.out))); replace HB := Aside0.mk (below_step (bAt HB.out) hb); clear hb ho41; obtain ⟨Ao42, co42, eo42⟩ := Kd.V_slice HO237.out; subst eo42) | ((with_reducible refine gate_callee (f := 13) rfl ?_); refine gL (some 4) Tryd.func13 #[.slice Ao42 y235.length co42] rfl gA ?_; (with_reducible refine (split_Pieces.calls k _ _ y235 t238 _ ?side1 ?side2 ?side3 A1.out).mono ?_); (case side1 => exact Gl.below HG.out (bAt HB.out)); (case side2 => exact CAt ((Kd.V_reads' HO237.out).2.2)); (case side3 => exact (Kd.V_reads' HO237.out).2.1); rintro e w43 ⟨v239, rfl, ho0, hb⟩; refine ⟨_, rfl, ?_⟩; replace HO237 := Aside0.mk (Kd.V_elder' (VAt HO237.out) (Kd.N_base ho0) hb); have HO240 := Aside0.mk (Kd.N_lower (Kd.N_mono (ok' := fun k_ => True) ho0 (fun k_ hk_ => trivial)) (below_size (bAt HB.out))); replace HB := Aside0.mk (below_step (bAt HB.out) hb); (try clear hb); (try clear hb2); (try clear hk); (try clear hi); (try clear ho0); obtain ⟨Ao44, co44, eo44⟩ := Kd.N_slice HO240.out; subst eo44))
  go_ret
  exact ⟨eR, bAt HB.out⟩
end Go.Proofs.YtpkklbdclghcfaaDoor.P
