/- Part of the proof: what the theorem needs of this text. -/
import Derived.Test.YtpkklbdclghcfaaDoorKHG
import Derived.Test.YtpkklbdclghcfaaDoorKHSC
import Derived.Test.YtpkklbdclghcfaaDoorKPx0
namespace Go.Proofs.YtpkklbdclghcfaaDoor.P
open Go.RowKit Go.Proofs.YtpkklbdclghcfaaDoorW.PrintWords Go.Proofs.YtpkklbdclghcfaaDoorW.PrintLast Go.Proofs.YtpkklbdclghcfaaDoorW.PrintMore
attribute [local go_sem] max2_int min2_int max_two min_two max_three min_three max_four min_four   -- for this text's walks alone
set_option linter.unusedVariables false
set_option linter.unusedSimpArgs false
def split_Names.l0 : Nat → List ByteArray → List (S38) → Int → Int → Option (List ByteArray)
 | 0, _, _, _, _ => none
 | k + 1, x3, x7, x8, x9 => if x9 < x8 then (if 0 ≤ x9 then (if x9 < (x7.length : Int) then (if ((rd_T38 x7 x9).f0) = 1 then (if x3.length < 8796093022208 then (split_Names.l0 k (x3 ++ [(rd_T38 x7 x9).f3]) x7 x8 (wrap64 (x9 + 1))) else (none)) else (if ((rd_T38 x7 x9).f0) = 2 then (if x3.length < 8796093022208 then (split_Names.l0 k (x3 ++ [(rd_T38 x7 x9).f3]) x7 x8 (wrap64 (x9 + 1))) else (none)) else (if ((rd_T38 x7 x9).f0) = 6 then (if x3.length < 8796093022208 then (split_Names.l0 k (x3 ++ [(rd_T38 x7 x9).f3]) x7 x8 (wrap64 (x9 + 1))) else (none)) else (split_Names.l0 k x3 x7 x8 (wrap64 (x9 + 1)))))) else (none)) else (none)) else ((slices_Sort_string_string.f x3).bind fun t102 => ((slices_Compact_string_string.f t102).bind fun t103 => (some t103)))
def split_Names.f (k : Nat) (a0_0 : Int) (a0_1 : Int) (a0_2 : Int) (l0_3 : List (S38)) : Option (List ByteArray) := split_Names.l0 k ([] : List ByteArray) l0_3 (l0_3.length : Int) 0
theorem split_Names.mono_l : ∀ k, (∀ y0 y1 y2 y3, LeO (split_Names.l0 k y0 y1 y2 y3) (split_Names.l0 (k + 1) y0 y1 y2 y3))
 | 0 => fun _ _ _ _ r h => by simp [split_Names.l0] at h
 | k + 1 => by
  have ih0 := split_Names.mono_l k
  ·intro y0 y1 y2 y3
   unfold split_Names.l0
   repeat' with_reducible first | exact ih0 _ _ _ _ | exact LeO.refl _ | exact LeO.none _ | refine LeO.ite ?_ ?_ | refine LeO.bind ?_ (fun _ => ?_)
theorem split_Names.mono : ∀ a0 a1 a2 a3 k, LeO (split_Names.f k a0 a1 a2 a3) (split_Names.f (k + 1) a0 a1 a2 a3) := by
 intro a0 a1 a2 a3 k
 have ih0 := split_Names.mono_l k
 unfold split_Names.f
 repeat' with_reducible first | exact ih0 _ _ _ _ | exact LeO.refl _ | exact LeO.none _ | refine LeO.ite ?_ ?_ | refine LeO.bind ?_ (fun _ => ?_)
set_option maxHeartbeats 8000000 in
set_option maxRecDepth 100000 in
theorem split_Names.calls (k : Nat) (a0_0 : Int) (a0_1 : Int) (a0_2 : Int) (A0_3 : Option Addr) (c0_3 : Nat) (l0_3 : List (S38)) (r : List ByteArray) (w : World) (hr0_3 : Kd.C k38 w A0_3 l0_3.length l0_3) (hc0_3 : l0_3.length ≤ c0_3) (h : split_Names.f k a0_0 a0_1 a0_2 l0_3 = some r) :
  Calls Tryd.prog 9 #[.agg #[.int .i64 a0_0, .int .i64 a0_1, .int .i64 a0_2, .slice A0_3 l0_3.length c0_3]] w fun e w' => ∃ v0_ : Value, e = .returned (v0_) ∧ Kd.R Kd.string 9 w' w.heap.size (fun _ => True) v0_ r ∧ Below w.heap.size w w' := by
 have hu25 := Tryd.underlying25
 have hu38 := Tryd.underlying38
 have HR0_3 := Aside0.mk hr0_3
 have HC0_3 := Aside0.mk hc0_3
 clear hr0_3 hc0_3
 have HB := Aside0.mk (Below.refl w.heap.size w)
 have H : (split_Names.l0 k ([] : List ByteArray) l0_3 (l0_3.length : Int) 0) = some r := h
 clear h
 have H' := Aside0.mk H
 clear H
 go_enter Tryd.func9, Tryd.ntmps9
 go_wp2_with (first | ((with_reducible refine gate_dst (N := 1) rfl ?_); refine box_event ?hg (N := 1) ?hd (cs := #[.int .i64 a0_0, .int .i64 a0_1, .int .i64 a0_2, .slice A0_3 l0_3.length c0_3]) (t := 25) ?hr ?_; (case hd => rfl); (case hg => rfl); (case hr => first | (go_simp; done) | (go_simp; rfl)); intro gb101 hg w2 hbox hb; have BK101 := Aside0.mk (hbox); have GW101 := Aside0.mk (gE (g := gb101) hg HB.out); have GE101 := Aside0.mk (gE (g := gb101) hg HB.out); replace HB := Aside0.mk (below_step (bAt HB.out) hb); clear hb hbox hg; obtain ⟨hcz3_0, hcz3_1, hcz3_2, hcz3_3, hfz3_0, hfz3_1, hfz3_2, hfz3_3⟩ := blk4 BK101.out))
 go_loopg [3, 9] k (fun kq v3 v9 w' => ∃ (x3_1 : List ByteArray) (x9_1 : Int), v9 = .int .i64 x9_1 ∧ Aside0 (split_Names.l0 kq x3_1 l0_3 (l0_3.length : Int) x9_1 = some r) ∧ Aside0 (kq ≤ k) ∧ Aside0 (Kd.R Kd.string 9 w' w.heap.size (fun _ => True) v3 x3_1) ∧ Aside0 (w'.heap[gb101]? = some (.cells #[.int .i64 a0_0, .int .i64 a0_1, .int .i64 a0_2, (.slice A0_3 l0_3.length c0_3)] 25 (0, 0))) ∧ Aside0 (Below w.heap.size w w'))
 case atStart => exact ⟨(([] : List ByteArray)), (0), sR, H', ⟨Nat.le_refl _⟩, ⟨by first | exact Kd.R_nil _ _ _ _ _ | exact Kd.N_nil _ _ _ _ _ | exact Kd.V_nil _ _ _ _ _ | exact Kd.Q_nil _ _ _ _ _ | exact Kd.S_nil _ _ _ _ _⟩, ⟨kAt BK101.out⟩, ⟨bAt HB.out⟩⟩
 case round =>
  clear H'
  try clear p2
  try clear hcz3_0
  try clear hcz3_1
  try clear hcz3_2
  try clear hcz3_3
  try clear hfz3_0
  try clear hfz3_1
  try clear hfz3_2
  try clear hfz3_3
  obtain ⟨x3_1, x9_1, rfl, HA, HK1, HO_3, BK101, HB⟩ := hrel
  cases gk with
  | zero => exact absurd HA.out (by simp [split_Names.l0])
  | succ k1 =>
   have H := HA.out
   clear HA
   simp only [split_Names.l0] at H
   by_cases c4 : x9_1 < (l0_3.length : Int)
   ·rw [if_pos c4] at H
    have c4b0 := decide_eq_true c4
    clear c4
    by_cases c5 : 0 ≤ x9_1
    ·rw [if_pos c5] at H
     have c5b0 := decide_eq_true c5
     clear c5
     by_cases c6 : x9_1 < (l0_3.length : Int)
     ·rw [if_pos c6] at H
      have c6b0 := decide_eq_true c6
      clear c6
      by_cases c7 : ((rd_T38 l0_3 x9_1).f0) = 1
      ·rw [if_pos c7] at H
       obtain ⟨c7b0, c7b1⟩ := eqB c7
       clear c7
       by_cases c8 : x3_1.length < 8796093022208
       ·rw [if_pos c8] at H
        have LMc8 := Aside0.mk c8
        clear c8
        obtain ⟨y108, hy108⟩ : ∃ y_ : List ByteArray, y_ = (x3_1 ++ [(rd_T38 l0_3 x9_1).f3]) := ⟨_, rfl⟩
        replace H : (split_Names.l0 k1 y108 l0_3 (l0_3.length : Int) (wrap64 (x9_1 + 1))) = some r := by first | (rw [hy108]; with_reducible exact H) | (have H2_ := (Option.bind_some _ _).symm.trans H; rw [hy108]; with_reducible exact H2_) | (have H2_ := (Option.bind_some _ _).symm.trans H; with_reducible exact H2_) | with_reducible exact H | (rw [hy108]; exact H) | exact H
        have Ny108 := Aside0.mk hy108
        clear hy108
        have H' := Aside0.mk H
        clear H
        have p106 : 0 ≤ (x9_1 : Int) := dt
        have q106 : x9_1 < (l0_3.length : Int) := dt
        obtain ⟨ad106, e106, hx106_0, hx106_1, hx106_2, hx106_3, hx106_4⟩ := at_T38 HR0_3.out x9_1 p106 q106
        cases e106
        replace hx106_0 := pw_cell_below HB.out hx106_0
        replace hx106_1 := pw_cell_below HB.out hx106_1
        replace hx106_2 := pw_cell_below HB.out hx106_2
        replace hx106_3 := pw_cell_below HB.out hx106_3
        replace hx106_4 := pw_cell_below HB.out hx106_4
        replace p106 := eq_true p106
        replace q106 := eq_true q106
        go_wp2_with (first | ((with_reducible refine gate_dst (N := 5) rfl ?_); refine box_event ?hg (N := 5) ?hd (cs := #[.int .i64 0, .int .i64 0, .int .i64 0, .string (⟨#[]⟩ : ByteArray), .int .i64 0]) (t := 38) ?hr ?_; (case hd => rfl); (case hg => rfl); (case hr => first | (go_simp; done) | (go_simp; rfl)); intro gb107 hg w9 hbox hb; replace HO_3 := Aside0.mk (Kd.R_below (RAt HO_3.out) hb); have BK107 := Aside0.mk (hbox); have GW107 := Aside0.mk (gE (g := gb107) hg HB.out); have GE107 := Aside0.mk (gE (g := gb107) hg HB.out); replace HB := Aside0.mk (below_step (bAt HB.out) hb); have NB101_107 := Aside0.mk ((by rw [hg]; exact Nat.ne_of_lt (blk_lt (g := gb101) (o := .cells #[.int .i64 a0_0, .int .i64 a0_1, .int .i64 a0_2, .slice (some ad106) l0_3.length c0_3] 25 (0, 0)) (kAt BK101.out)) : gb101 ≠ gb107)); have NB107_101 := Aside0.mk ((by rw [hg]; exact Nat.ne_of_gt (blk_lt (g := gb101) (o := .cells #[.int .i64 a0_0, .int .i64 a0_1, .int .i64 a0_2, .slice (some ad106) l0_3.length c0_3] 25 (0, 0)) (kAt BK101.out)) : gb107 ≠ gb101)); replace BK101 := Aside0.mk (blk_below (g := gb101) (o := .cells #[.int .i64 a0_0, .int .i64 a0_1, .int .i64 a0_2, .slice (some ad106) l0_3.length c0_3] 25 (0, 0)) (kAt BK101.out) hb); clear hb hbox hg; have hnb10 := NB107_101.out; have hnc10 := NB101_107.out; obtain ⟨hcz11_0, hcz11_1, hcz11_2, hcz11_3, hcz11_4, hfz11_0, hfz11_1, hfz11_2, hfz11_3, hfz11_4⟩ := blk5 BK107.out) | ((with_reducible refine gate_builtin (b := .append) (xs := #[.tmp 19, .tmp 22]) rfl ?_); at_builtin; refine Kd.R_append Kd.string (w0 := w) w.heap.size rfl (.tmp 19) (.tmp 22) 27 9 (.string ⟨#[]⟩) 16 rfl Tryd.underlying27 info9 rfl (by decide) (by omega) u3 x3_1 ((rd_T38 l0_3 x9_1).f3) [.string ((rd_T38 l0_3 x9_1).f3)] (fun _ => True) (fun _ => False) rfl (by first | (go_simp; done) | (go_simp; rfl)) ?aP (fun _ hk => hk.elim) ?aF ?aO ?aB ?aS ?aL ?_; (case aP => exact rfl); (case aB => exact (bAt HB.out)); (case aF => exact (fun _ _ => trivial)); (case aO => exact (RAt (Kd.R_mono (Kd.R_far (p := ⟨gb107, 4, none⟩) (Kd.R_far (p := ⟨gb107, 3, none⟩) (Kd.R_far (p := ⟨gb107, 2, none⟩) (Kd.R_far (p := ⟨gb107, 1, none⟩) (Kd.R_far (p := ⟨gb107, 0, none⟩) (Kd.R_types HO_3.out BK107.out (by decide)) (fun _ hk => hk.2) (.int .i64 ((rd_T38 l0_3 x9_1).f0))) (fun _ hk => hk.2) (.int .i64 ((rd_T38 l0_3 x9_1).f1))) (fun _ hk => hk.2) (.int .i64 ((rd_T38 l0_3 x9_1).f2))) (fun _ hk => hk.2) (.string ((rd_T38 l0_3 x9_1).f3))) (fun _ hk => hk.2) (.int .i64 ((rd_T38 l0_3 x9_1).f4))) (fun _ hk => trivial)))); (case aS => exact (below_size (bAt HB.out))); (case aL => have := LMc8.out; omega); intro v109 w12 ho hb hg hat; rw [← Ny108.out] at ho; replace BK101 := Aside0.mk (blk_grown (g := gb101) (o := .cells #[.int .i64 a0_0, .int .i64 a0_1, .int .i64 a0_2, .slice (some ad106) l0_3.length c0_3] 25 (0, 0)) (by (with_reducible repeat (first | refine blk_drewN ?_ _ | refine blk_drew ?_ | refine blk_alloc ?_ _)); refine blk_far ?_ NB101_107.out _; (with_reducible repeat (first | refine blk_drewN ?_ _ | refine blk_drew ?_ | refine blk_alloc ?_ _)); refine blk_far ?_ NB101_107.out _; (with_reducible repeat (first | refine blk_drewN ?_ _ | refine blk_drew ?_ | refine blk_alloc ?_ _)); refine blk_far ?_ NB101_107.out _; (with_reducible repeat (first | refine blk_drewN ?_ _ | refine blk_drew ?_ | refine blk_alloc ?_ _)); refine blk_far ?_ NB101_107.out _; (with_reducible repeat (first | refine blk_drewN ?_ _ | refine blk_drew ?_ | refine blk_alloc ?_ _)); refine blk_far ?_ NB101_107.out _; (with_reducible repeat (first | refine blk_drewN ?_ _ | refine blk_drew ?_ | refine blk_alloc ?_ _)); exact BK101.out) hg (Kd.R_ne HO_3.out BK101.out (by decide))); replace BK107 := Aside0.mk (blk_grown (g := gb107) (o := .cells #[.int .i64 ((rd_T38 l0_3 x9_1).f0), .int .i64 ((rd_T38 l0_3 x9_1).f1), .int .i64 ((rd_T38 l0_3 x9_1).f2), .string ((rd_T38 l0_3 x9_1).f3), .int .i64 ((rd_T38 l0_3 x9_1).f4)] 38 (0, 0)) (by refine bP #[.int .i64 ((rd_T38 l0_3 x9_1).f0), .int .i64 ((rd_T38 l0_3 x9_1).f1), .int .i64 ((rd_T38 l0_3 x9_1).f2), .string ((rd_T38 l0_3 x9_1).f3), .int .i64 0] 4 ?_; refine bP #[.int .i64 ((rd_T38 l0_3 x9_1).f0), .int .i64 ((rd_T38 l0_3 x9_1).f1), .int .i64 ((rd_T38 l0_3 x9_1).f2), .string (⟨#[]⟩ : ByteArray), .int .i64 0] 3 ?_; refine bP #[.int .i64 ((rd_T38 l0_3 x9_1).f0), .int .i64 ((rd_T38 l0_3 x9_1).f1), .int .i64 0, .string (⟨#[]⟩ : ByteArray), .int .i64 0] 2 ?_; refine bP #[.int .i64 ((rd_T38 l0_3 x9_1).f0), .int .i64 0, .int .i64 0, .string (⟨#[]⟩ : ByteArray), .int .i64 0] 1 ?_; refine bP #[.int .i64 0, .int .i64 0, .int .i64 0, .string (⟨#[]⟩ : ByteArray), .int .i64 0] 0 ?_; (with_reducible repeat (first | refine blk_drewN ?_ _ | refine blk_drew ?_ | refine blk_alloc ?_ _)); exact BK107.out) hg (Kd.R_ne HO_3.out BK107.out (by decide))); replace HB := Aside0.mk (hb); have HO110 := Aside0.mk (ho); clear HO_3; clear ho hb hg hat))
        go_roundg k1
        case measure => have := HK1.out; omega
        case rel => exact ⟨(y108), (wrap64 (x9_1 + 1)), sR, H', ⟨by have := HK1.out; omega⟩, ⟨RAt HO110.out⟩, ⟨kAt BK101.out⟩, ⟨bAt HB.out⟩⟩
       ·exact nB H c8
      ·rw [if_neg c7] at H
       obtain ⟨c7b0, c7b1⟩ := neB c7
       by_cases c13 : ((rd_T38 l0_3 x9_1).f0) = 2
       ·rw [if_pos c13] at H
        obtain ⟨c13b0, c13b1⟩ := eqB c13
        clear c13
        by_cases c14 : x3_1.length < 8796093022208
        ·rw [if_pos c14] at H
         have LMc14 := Aside0.mk c14
         clear c14
         obtain ⟨y111, hy111⟩ : ∃ y_ : List ByteArray, y_ = (x3_1 ++ [(rd_T38 l0_3 x9_1).f3]) := ⟨_, rfl⟩
         replace H : (split_Names.l0 k1 y111 l0_3 (l0_3.length : Int) (wrap64 (x9_1 + 1))) = some r := by first | (rw [hy111]; with_reducible exact H) | (have H2_ := (Option.bind_some _ _).symm.trans H; rw [hy111]; with_reducible exact H2_) | (have H2_ := (Option.bind_some _ _).symm.trans H; with_reducible exact H2_) | with_reducible exact H | (rw [hy111]; exact H) | exact H
         have Ny111 := Aside0.mk hy111
         clear hy111
         have H' := Aside0.mk H
         clear H
         have p106 : 0 ≤ (x9_1 : Int) := dt
         have q106 : x9_1 < (l0_3.length : Int) := dt
         obtain ⟨ad106, e106, hx106_0, hx106_1, hx106_2, hx106_3, hx106_4⟩ := at_T38 HR0_3.out x9_1 p106 q106
         cases e106
         replace hx106_0 := pw_cell_below HB.out hx106_0
         replace hx106_1 := pw_cell_below HB.out hx106_1
         replace hx106_2 := pw_cell_below HB.out hx106_2
         replace hx106_3 := pw_cell_below HB.out hx106_3
         replace hx106_4 := pw_cell_below HB.out hx106_4
         replace p106 := eq_true p106
         replace q106 := eq_true q106
         go_wp2_with (first | ((with_reducible refine gate_dst (N := 5) rfl ?_); refine box_event ?hg (N := 5) ?hd (cs := #[.int .i64 0, .int .i64 0, .int .i64 0, .string (⟨#[]⟩ : ByteArray), .int .i64 0]) (t := 38) ?hr ?_; (case hd => rfl); (case hg => rfl); (case hr => first | (go_simp; done) | (go_simp; rfl)); intro gb107 hg w15 hbox hb; replace HO_3 := Aside0.mk (Kd.R_below (RAt HO_3.out) hb); have BK107 := Aside0.mk (hbox); have GW107 := Aside0.mk (gE (g := gb107) hg HB.out); have GE107 := Aside0.mk (gE (g := gb107) hg HB.out); replace HB := Aside0.mk (below_step (bAt HB.out) hb); have NB101_107 := Aside0.mk ((by rw [hg]; exact Nat.ne_of_lt (blk_lt (g := gb101) (o := .cells #[.int .i64 a0_0, .int .i64 a0_1, .int .i64 a0_2, .slice (some ad106) l0_3.length c0_3] 25 (0, 0)) (kAt BK101.out)) : gb101 ≠ gb107)); have NB107_101 := Aside0.mk ((by rw [hg]; exact Nat.ne_of_gt (blk_lt (g := gb101) (o := .cells #[.int .i64 a0_0, .int .i64 a0_1, .int .i64 a0_2, .slice (some ad106) l0_3.length c0_3] 25 (0, 0)) (kAt BK101.out)) : gb107 ≠ gb101)); replace BK101 := Aside0.mk (blk_below (g := gb101) (o := .cells #[.int .i64 a0_0, .int .i64 a0_1, .int .i64 a0_2, .slice (some ad106) l0_3.length c0_3] 25 (0, 0)) (kAt BK101.out) hb); clear hb hbox hg; have hnb16 := NB107_101.out; have hnc16 := NB101_107.out; obtain ⟨hcz17_0, hcz17_1, hcz17_2, hcz17_3, hcz17_4, hfz17_0, hfz17_1, hfz17_2, hfz17_3, hfz17_4⟩ := blk5 BK107.out) | ((with_reducible refine gate_builtin (b := .append) (xs := #[.tmp 19, .tmp 22]) rfl ?_); at_builtin; refine Kd.R_append Kd.string (w0 := w) w.heap.size rfl (.tmp 19) (.tmp 22) 27 9 (.string ⟨#[]⟩) 16 rfl Tryd.underlying27 info9 rfl (by decide) (by omega) u3 x3_1 ((rd_T38 l0_3 x9_1).f3) [.string ((rd_T38 l0_3 x9_1).f3)] (fun _ => True) (fun _ => False) rfl (by first | (go_simp; done) | (go_simp; rfl)) ?aP (fun _ hk => hk.elim) ?aF ?aO ?aB ?aS ?aL ?_; (case aP => exact rfl); (case aB => exact (bAt HB.out)); (case aF => exact (fun _ _ => trivial)); (case aO => exact (RAt (Kd.R_mono (Kd.R_far (p := ⟨gb107, 4, none⟩) (Kd.R_far (p := ⟨gb107, 3, none⟩) (Kd.R_far (p := ⟨gb107, 2, none⟩) (Kd.R_far (p := ⟨gb107, 1, none⟩) (Kd.R_far (p := ⟨gb107, 0, none⟩) (Kd.R_types HO_3.out BK107.out (by decide)) (fun _ hk => hk.2) (.int .i64 ((rd_T38 l0_3 x9_1).f0))) (fun _ hk => hk.2) (.int .i64 ((rd_T38 l0_3 x9_1).f1))) (fun _ hk => hk.2) (.int .i64 ((rd_T38 l0_3 x9_1).f2))) (fun _ hk => hk.2) (.string ((rd_T38 l0_3 x9_1).f3))) (fun _ hk => hk.2) (.int .i64 ((rd_T38 l0_3 x9_1).f4))) (fun _ hk => trivial)))); (case aS => exact (below_size (bAt HB.out))); (case aL => have := LMc14.out; omega); intro v112 w18 ho hb hg hat; rw [← Ny111.out] at ho; replace BK101 := Aside0.mk (blk_grown (g := gb101) (o := .cells #[.int .i64 a0_0, .int .i64 a0_1, .int .i64 a0_2, .slice (some ad106) l0_3.length c0_3] 25 (0, 0)) (by (with_reducible repeat (first | refine blk_drewN ?_ _ | refine blk_drew ?_ | refine blk_alloc ?_ _)); refine blk_far ?_ NB101_107.out _; (with_reducible repeat (first | refine blk_drewN ?_ _ | refine blk_drew ?_ | refine blk_alloc ?_ _)); refine blk_far ?_ NB101_107.out _; (with_reducible repeat (first | refine blk_drewN ?_ _ | refine blk_drew ?_ | refine blk_alloc ?_ _)); refine blk_far ?_ NB101_107.out _; (with_reducible repeat (first | refine blk_drewN ?_ _ | refine blk_drew ?_ | refine blk_alloc ?_ _)); refine blk_far ?_ NB101_107.out _; (with_reducible repeat (first | refine blk_drewN ?_ _ | refine blk_drew ?_ | refine blk_alloc ?_ _)); refine blk_far ?_ NB101_107.out _; (with_reducible repeat (first | refine blk_drewN ?_ _ | refine blk_drew ?_ | refine blk_alloc ?_ _)); exact BK101.out) hg (Kd.R_ne HO_3.out BK101.out (by decide))); replace BK107 := Aside0.mk (blk_grown (g := gb107) (o := .cells #[.int .i64 ((rd_T38 l0_3 x9_1).f0), .int .i64 ((rd_T38 l0_3 x9_1).f1), .int .i64 ((rd_T38 l0_3 x9_1).f2), .string ((rd_T38 l0_3 x9_1).f3), .int .i64 ((rd_T38 l0_3 x9_1).f4)] 38 (0, 0)) (by refine bP #[.int .i64 ((rd_T38 l0_3 x9_1).f0), .int .i64 ((rd_T38 l0_3 x9_1).f1), .int .i64 ((rd_T38 l0_3 x9_1).f2), .string ((rd_T38 l0_3 x9_1).f3), .int .i64 0] 4 ?_; refine bP #[.int .i64 ((rd_T38 l0_3 x9_1).f0), .int .i64 ((rd_T38 l0_3 x9_1).f1), .int .i64 ((rd_T38 l0_3 x9_1).f2), .string (⟨#[]⟩ : ByteArray), .int .i64 0] 3 ?_; refine bP #[.int .i64 ((rd_T38 l0_3 x9_1).f0), .int .i64 ((rd_T38 l0_3 x9_1).f1), .int .i64 0, .string (⟨#[]⟩ : ByteArray), .int .i64 0] 2 ?_; refine bP #[.int .i64 ((rd_T38 l0_3 x9_1).f0), .int .i64 0, .int .i64 0, .string (⟨#[]⟩ : ByteArray), .int .i64 0] 1 ?_; refine bP #[.int .i64 0, .int .i64 0, .int .i64 0, .string (⟨#[]⟩ : ByteArray), .int .i64 0] 0 ?_; (with_reducible repeat (first | refine blk_drewN ?_ _ | refine blk_drew ?_ | refine blk_alloc ?_ _)); exact BK107.out) hg (Kd.R_ne HO_3.out BK107.out (by decide))); replace HB := Aside0.mk (hb); have HO113 := Aside0.mk (ho); clear HO_3; clear ho hb hg hat))
         go_roundg k1
         case measure => have := HK1.out; omega
         case rel => exact ⟨(y111), (wrap64 (x9_1 + 1)), sR, H', ⟨by have := HK1.out; omega⟩, ⟨RAt HO113.out⟩, ⟨kAt BK101.out⟩, ⟨bAt HB.out⟩⟩
        ·exact nB H c14
       ·rw [if_neg c13] at H
        obtain ⟨c13b0, c13b1⟩ := neB c13
        by_cases c19 : ((rd_T38 l0_3 x9_1).f0) = 6
        ·rw [if_pos c19] at H
         obtain ⟨c19b0, c19b1⟩ := eqB c19
         clear c19
         by_cases c20 : x3_1.length < 8796093022208
         ·rw [if_pos c20] at H
          have LMc20 := Aside0.mk c20
          clear c20
          obtain ⟨y114, hy114⟩ : ∃ y_ : List ByteArray, y_ = (x3_1 ++ [(rd_T38 l0_3 x9_1).f3]) := ⟨_, rfl⟩
          replace H : (split_Names.l0 k1 y114 l0_3 (l0_3.length : Int) (wrap64 (x9_1 + 1))) = some r := by first | (rw [hy114]; with_reducible exact H) | (have H2_ := (Option.bind_some _ _).symm.trans H; rw [hy114]; with_reducible exact H2_) | (have H2_ := (Option.bind_some _ _).symm.trans H; with_reducible exact H2_) | with_reducible exact H | (rw [hy114]; exact H) | exact H
          have Ny114 := Aside0.mk hy114
          clear hy114
          have H' := Aside0.mk H
          clear H
          have p106 : 0 ≤ (x9_1 : Int) := dt
          have q106 : x9_1 < (l0_3.length : Int) := dt
          obtain ⟨ad106, e106, hx106_0, hx106_1, hx106_2, hx106_3, hx106_4⟩ := at_T38 HR0_3.out x9_1 p106 q106
          cases e106
          replace hx106_0 := pw_cell_below HB.out hx106_0
          replace hx106_1 := pw_cell_below HB.out hx106_1
          replace hx106_2 := pw_cell_below HB.out hx106_2
          replace hx106_3 := pw_cell_below HB.out hx106_3
          replace hx106_4 := pw_cell_below HB.out hx106_4
          replace p106 := eq_true p106
          replace q106 := eq_true q106
          go_wp2_with (first | ((with_reducible refine gate_dst (N := 5) rfl ?_); refine box_event ?hg (N := 5) ?hd (cs := #[.int .i64 0, .int .i64 0, .int .i64 0, .string (⟨#[]⟩ : ByteArray), .int .i64 0]) (t := 38) ?hr ?_; (case hd => rfl); (case hg => rfl); (case hr => first | (go_simp; done) | (go_simp; rfl)); intro gb107 hg w21 hbox hb; replace HO_3 := Aside0.mk (Kd.R_below (RAt HO_3.out) hb); have BK107 := Aside0.mk (hbox); have GW107 := Aside0.mk (gE (g := gb107) hg HB.out); have GE107 := Aside0.mk (gE (g := gb107) hg HB.out); replace HB := Aside0.mk (below_step (bAt HB.out) hb); have NB101_107 := Aside0.mk ((by rw [hg]; exact Nat.ne_of_lt (blk_lt (g := gb101) (o := .cells #[.int .i64 a0_0, .int .i64 a0_1, .int .i64 a0_2, .slice (some ad106) l0_3.length c0_3] 25 (0, 0)) (kAt BK101.out)) : gb101 ≠ gb107)); have NB107_101 := Aside0.mk ((by rw [hg]; exact Nat.ne_of_gt (blk_lt (g := gb101) (o := .cells #[.int .i64 a0_0, .int .i64 a0_1, .int .i64 a0_2, .slice (some ad106) l0_3.length c0_3] 25 (0, 0)) (kAt BK101.out)) : gb107 ≠ gb101)); replace BK101 := Aside0.mk (blk_below (g := gb101) (o := .cells #[.int .i64 a0_0, .int .i64 a0_1, .int .i64 a0_2, .slice (some ad106) l0_3.length c0_3] 25 (0, 0)) (kAt BK101.out) hb); clear hb hbox hg; have hnb22 := NB107_101.out; have hnc22 := NB101_107.out; obtain ⟨hcz23_0, hcz23_1, hcz23_2, hcz23_3, hcz23_4, hfz23_0, hfz23_1, hfz23_2, hfz23_3, hfz23_4⟩ := blk5 BK107.out) | ((with_reducible refine gate_builtin (b := .append) (xs := #[.tmp 19, .tmp 22]) rfl ?_); at_builtin; refine Kd.R_append Kd.string (w0 := w) w.heap.size rfl (.tmp 19) (.tmp 22) 27 9 (.string ⟨#[]⟩) 16 rfl Tryd.underlying27 info9 rfl (by decide) (by omega) u3 x3_1 ((rd_T38 l0_3 x9_1).f3) [.string ((rd_T38 l0_3 x9_1).f3)] (fun _ => True) (fun _ => False) rfl (by first | (go_simp; done) | (go_simp; rfl)) ?aP (fun _ hk => hk.elim) ?aF ?aO ?aB ?aS ?aL ?_; (case aP => exact rfl); (case aB => exact (bAt HB.out)); (case aF => exact (fun _ _ => trivial)); (case aO => exact (RAt (Kd.R_mono (Kd.R_far (p := ⟨gb107, 4, none⟩) (Kd.R_far (p := ⟨gb107, 3, none⟩) (Kd.R_far (p := ⟨gb107, 2, none⟩) (Kd.R_far (p := ⟨gb107, 1, none⟩) (Kd.R_far (p := ⟨gb107, 0, none⟩) (Kd.R_types HO_3.out BK107.out (by decide)) (fun _ hk => hk.2) (.int .i64 ((rd_T38 l0_3 x9_1).f0))) (fun _ hk => hk.2) (.int .i64 ((rd_T38 l0_3 x9_1).f1))) (fun _ hk => hk.2) (.int .i64 ((rd_T38 l0_3 x9_1).f2))) (fun _ hk => hk.2) (.string ((rd_T38 l0_3 x9_1).f3))) (fun _ hk => hk.2) (.int .i64 ((rd_T38 l0_3 x9_1).f4))) (fun _ hk => trivial)))); (case aS => exact (below_size (bAt HB.out))); (case aL => have := LMc20.out; omega); intro v115 w24 ho hb hg hat; rw [← Ny114.out] at ho; replace BK101 := Aside0.mk (blk_grown (g := gb101) (o := .cells #[.int .i64 a0_0, .int .i64 a0_1, .int .i64 a0_2, .slice (some ad106) l0_3.length c0_3] 25 (0, 0)) (by (with_reducible repeat (first | refine blk_drewN ?_ _ | refine blk_drew ?_ | refine blk_alloc ?_ _)); refine blk_far ?_ NB101_107.out _; (with_reducible repeat (first | refine blk_drewN ?_ _ | refine blk_drew ?_ | refine blk_alloc ?_ _)); refine blk_far ?_ NB101_107.out _; (with_reducible repeat (first | refine blk_drewN ?_ _ | refine blk_drew ?_ | refine blk_alloc ?_ _)); refine blk_far ?_ NB101_107.out _; (with_reducible repeat (first | refine blk_drewN ?_ _ | refine blk_drew ?_ | refine blk_alloc ?_ _)); refine blk_far ?_ NB101_107.out _; (with_reducible repeat (first | refine blk_drewN ?_ _ | refine blk_drew ?_ | refine blk_alloc ?_ _)); refine blk_far ?_ NB101_107.out _; (with_reducible repeat (first | refine blk_drewN ?_ _ | refine blk_drew ?_ | refine blk_alloc ?_ _)); exact BK101.out) hg (Kd.R_ne HO_3.out BK101.out (by decide))); replace BK107 := Aside0.mk (blk_grown (g := gb107) (o := .cells #[.int .i64 ((rd_T38 l0_3 x9_1).f0), .int .i64 ((rd_T38 l0_3 x9_1).f1), .int .i64 ((rd_T38 l0_3 x9_1).f2), .string ((rd_T38 l0_3 x9_1).f3), .int .i64 ((rd_T38 l0_3 x9_1).f4)] 38 (0, 0)) (by refine bP #[.int .i64 ((rd_T38 l0_3 x9_1).f0), .int .i64 ((rd_T38 l0_3 x9_1).f1), .int .i64 ((rd_T38 l0_3 x9_1).f2), .string ((rd_T38 l0_3 x9_1).f3), .int .i64 0] 4 ?_; refine bP #[.int .i64 ((rd_T38 l0_3 x9_1).f0), .int .i64 ((rd_T38 l0_3 x9_1).f1), .int .i64 ((rd_T38 l0_3 x9_1).f2), .string (⟨#[]⟩ : ByteArray), .int .i64 0] 3 ?_; refine bP #[.int .i64 ((rd_T38 l0_3 x9_1).f0), .int .i64 ((rd_T38 l0_3 x9_1).f1), .int .i64 0, .string (⟨#[]⟩ : ByteArray), .int .i64 0] 2 ?_; refine bP #[.int .i64 ((rd_T38 l0_3 x9_1).f0), .int .i64 0, .int .i64 0, .string (⟨#[]⟩ : ByteArray), .int .i64 0] 1 ?_; refine bP #[.int .i64 0, .int .i64 0, .int .i64 0, .string (⟨#[]⟩ : ByteArray), .int .i64 0] 0 ?_; (with_reducible repeat (first | refine blk_drewN ?_ _ | refine blk_drew ?_ | refine blk_alloc ?_ _)); exact BK107.out) hg (Kd.R_ne HO_3.out BK107.out (by decide))); replace HB := Aside0.mk (hb); have HO116 := Aside0.mk (ho); clear HO_3; clear ho hb hg hat))
          go_roundg k1
          case measure => have := HK1.out; omega
          case rel => exact ⟨(y114), (wrap64 (x9_1 + 1)), sR, H', ⟨by have := HK1.out; omega⟩, ⟨RAt HO116.out⟩, ⟨kAt BK101.out⟩, ⟨bAt HB.out⟩⟩
         ·exact nB H c20
        ·rw [if_neg c19] at H
         obtain ⟨c19b0, c19b1⟩ := neB c19
         have H' := Aside0.mk H
         clear H
         have p106 : 0 ≤ (x9_1 : Int) := dt
         have q106 : x9_1 < (l0_3.length : Int) := dt
         obtain ⟨ad106, e106, hx106_0, hx106_1, hx106_2, hx106_3, hx106_4⟩ := at_T38 HR0_3.out x9_1 p106 q106
         cases e106
         replace hx106_0 := pw_cell_below HB.out hx106_0
         replace hx106_1 := pw_cell_below HB.out hx106_1
         replace hx106_2 := pw_cell_below HB.out hx106_2
         replace hx106_3 := pw_cell_below HB.out hx106_3
         replace hx106_4 := pw_cell_below HB.out hx106_4
         replace p106 := eq_true p106
         replace q106 := eq_true q106
         go_wp2_with (first | ((with_reducible refine gate_dst (N := 5) rfl ?_); refine box_event ?hg (N := 5) ?hd (cs := #[.int .i64 0, .int .i64 0, .int .i64 0, .string (⟨#[]⟩ : ByteArray), .int .i64 0]) (t := 38) ?hr ?_; (case hd => rfl); (case hg => rfl); (case hr => first | (go_simp; done) | (go_simp; rfl)); intro gb107 hg w25 hbox hb; replace HO_3 := Aside0.mk (Kd.R_below (RAt HO_3.out) hb); have BK107 := Aside0.mk (hbox); have GW107 := Aside0.mk (gE (g := gb107) hg HB.out); have GE107 := Aside0.mk (gE (g := gb107) hg HB.out); replace HB := Aside0.mk (below_step (bAt HB.out) hb); have NB101_107 := Aside0.mk ((by rw [hg]; exact Nat.ne_of_lt (blk_lt (g := gb101) (o := .cells #[.int .i64 a0_0, .int .i64 a0_1, .int .i64 a0_2, .slice (some ad106) l0_3.length c0_3] 25 (0, 0)) (kAt BK101.out)) : gb101 ≠ gb107)); have NB107_101 := Aside0.mk ((by rw [hg]; exact Nat.ne_of_gt (blk_lt (g := gb101) (o := .cells #[.int .i64 a0_0, .int .i64 a0_1, .int .i64 a0_2, .slice (some ad106) l0_3.length c0_3] 25 (0, 0)) (kAt BK101.out)) : gb107 ≠ gb101)); replace BK101 := Aside0.mk (blk_below (g := gb101) (o := .cells #[.int .i64 a0_0, .int .i64 a0_1, .int .i64 a0_2, .slice (some ad106) l0_3.length c0_3] 25 (0, 0)) (kAt BK101.out) hb); clear hb hbox hg; have hnb26 := NB107_101.out; have hnc26 := NB101_107.out; obtain ⟨hcz27_0, hcz27_1, hcz27_2, hcz27_3, hcz27_4, hfz27_0, hfz27_1, hfz27_2, hfz27_3, hfz27_4⟩ := blk5 BK107.out))
         go_roundg k1
         case measure => have := HK1.out; omega
         case rel => exact ⟨(x3_1), (wrap64 (x9_1 + 1)), sR, H', ⟨by have := HK1.out; omega⟩, ⟨RAt (Kd.R_mono (Kd.R_far (p := ⟨gb107, 4, none⟩) (Kd.R_far (p := ⟨gb107, 3, none⟩) (Kd.R_far (p := ⟨gb107, 2, none⟩) (Kd.R_far (p := ⟨gb107, 1, none⟩) (Kd.R_far (p := ⟨gb107, 0, none⟩) (Kd.R_types HO_3.out BK107.out (by decide)) (fun _ hk => hk.2) (.int .i64 ((rd_T38 l0_3 x9_1).f0))) (fun _ hk => hk.2) (.int .i64 ((rd_T38 l0_3 x9_1).f1))) (fun _ hk => hk.2) (.int .i64 ((rd_T38 l0_3 x9_1).f2))) (fun _ hk => hk.2) (.string ((rd_T38 l0_3 x9_1).f3))) (fun _ hk => hk.2) (.int .i64 ((rd_T38 l0_3 x9_1).f4))) (fun _ hk => trivial))⟩, ⟨by (with_reducible repeat (first | refine blk_drewN ?_ _ | refine blk_drew ?_ | refine blk_alloc ?_ _)); refine blk_far ?_ NB101_107.out _; (with_reducible repeat (first | refine blk_drewN ?_ _ | refine blk_drew ?_ | refine blk_alloc ?_ _)); refine blk_far ?_ NB101_107.out _; (with_reducible repeat (first | refine blk_drewN ?_ _ | refine blk_drew ?_ | refine blk_alloc ?_ _)); refine blk_far ?_ NB101_107.out _; (with_reducible repeat (first | refine blk_drewN ?_ _ | refine blk_drew ?_ | refine blk_alloc ?_ _)); refine blk_far ?_ NB101_107.out _; (with_reducible repeat (first | refine blk_drewN ?_ _ | refine blk_drew ?_ | refine blk_alloc ?_ _)); refine blk_far ?_ NB101_107.out _; (with_reducible repeat (first | refine blk_drewN ?_ _ | refine blk_drew ?_ | refine blk_alloc ?_ _)); exact BK101.out⟩, ⟨bAt HB.out⟩⟩
     ·exact nB H c6
    ·exact nB H c5
   ·rw [if_neg c4] at H
    have c4b0 := decide_eq_false c4
    clear c4
    obtain ⟨t102, A28, H⟩ := bE H
    obtain ⟨t103, A29, H⟩ := bE H
    obtain rfl := Option.some.inj H
    obtain ⟨Ao30, co30, eo30⟩ := Kd.R_slice HO_3.out
    subst eo30
    go_wp2_with (first | ((with_reducible refine gate_callee (f := 23) rfl ?_); refine gL (some 26) Tryd.func23 #[.slice Ao30 x3_1.length co30] rfl gA ?_; (with_reducible refine (slices_Sort_string_string.calls (fun k_ => some k_ = (.slice Ao30 x3_1.length co30 : Value).ownBlock) (.slice Ao30 x3_1.length co30) x3_1 t102 w _ ?side1 ?side2 A28.out).mono ?_); (case side1 => repeat (first | (with_reducible first | exact HB.out | apply below_alloc | apply pw_below_drewN | apply below_drew1 | refine below_set ?_ GE101.out) | exact HB.out)); (case side2 => exact Kd.R_tight rfl HO_3.out); rintro e w31 ⟨rfl, hy0, hb, hkp⟩; refine ⟨_, rfl, ?_⟩; replace BK101 := Aside0.mk (blk_kept (kAt BK101.out) hkp (fun hs_ => (fun e_ => (Kd.R_ne HO_3.out BK101.out (by decide)) e_) hs_)); replace HO_3 := Aside0.mk (Kd.R_reok rfl hy0 (fun k_ e_ => HO_3.out.1 k_ e_)); replace HB := Aside0.mk (hb); (try clear hb); (try clear hkp); (try clear hy0)) | ((with_reducible refine gate_callee (f := 24) rfl ?_); refine gL (some 28) Tryd.func24 #[.slice Ao30 x3_1.length co30] rfl gA ?_; (with_reducible refine (slices_Compact_string_string.calls (fun k_ => some k_ = (.slice Ao30 x3_1.length co30 : Value).ownBlock) (.slice Ao30 x3_1.length co30) t102 t103 w _ ?side1 ?side2 A29.out).mono ?_); (case side1 => repeat (first | (with_reducible first | exact HB.out | apply below_alloc | apply pw_below_drewN | apply below_drew1 | refine below_set ?_ GE101.out) | exact HB.out)); (case side2 => exact Kd.R_tight rfl HO_3.out); rintro e w32 ⟨v104, rfl, ho0, hb, hkp⟩; refine ⟨_, rfl, ?_⟩; replace BK101 := Aside0.mk (blk_kept (kAt BK101.out) hkp (fun hs_ => (fun e_ => (Kd.R_ne HO_3.out BK101.out (by decide)) e_) hs_)); have HO105 := Aside0.mk (Kd.R_mono (ok' := fun k_ => True) ho0 (fun k_ hk_ => trivial)); replace HB := Aside0.mk (hb); clear HO_3; (try clear hb); (try clear hkp); (try clear ho0)))
    go_ret
    exact ⟨_, eR, RAt HO105.out, bAt HB.out⟩
def utf_behind.j0 : Nat → Int → Bool → Option (Int × Int × Int)
 | 0, _, _ => none
 | k + 1, x0, x7 => if x7 = true then (some (0, 0, (-1))) else (if x0 < 224 then (some (128, 191, 1)) else (if x0 = 224 then (some (160, 191, 2)) else (if x0 = 237 then (some (128, 159, 2)) else (if x0 < 240 then (some (128, 191, 2)) else (if x0 = 240 then (some (144, 191, 3)) else (if x0 = 244 then (some (128, 143, 3)) else (some (128, 191, 3))))))))
def utf_behind.f (k : Nat) (a0 : Int) : Option (Int × Int × Int) := if a0 < 128 then (some (0, 0, 0)) else (if a0 < 194 then (utf_behind.j0 k a0 true) else (utf_behind.j0 k a0 (decide (a0 > 244))))
theorem utf_behind.mono_l : ∀ k, (∀ y0 y1, LeO (utf_behind.j0 k y0 y1) (utf_behind.j0 (k + 1) y0 y1))
 | 0 => fun _ _ r h => by simp [utf_behind.j0] at h
 | k + 1 => by
  have ih0 := utf_behind.mono_l k
  ·intro y0 y1
   unfold utf_behind.j0
   repeat' with_reducible first | exact ih0 _ _ | exact LeO.refl _ | exact LeO.none _ | refine LeO.ite ?_ ?_ | refine LeO.bind ?_ (fun _ => ?_)
theorem utf_behind.mono : ∀ a0 k, LeO (utf_behind.f k a0) (utf_behind.f (k + 1) a0) := by
 intro a0 k
 have ih0 := utf_behind.mono_l k
 unfold utf_behind.f
 repeat' with_reducible first | exact ih0 _ _ | exact LeO.refl _ | exact LeO.none _ | refine LeO.ite ?_ ?_ | refine LeO.bind ?_ (fun _ => ?_)
set_option maxHeartbeats 8000000 in
set_option maxRecDepth 100000 in
theorem utf_behind.calls (k : Nat) (a0 : Int) (r1 : Int) (r2 : Int) (r3 : Int) (w : World) (h : utf_behind.f k a0 = some (r1, r2, r3)) :
  Calls Tryd.prog 90 #[.int .u8 a0] w fun e w' => e = .returned (.agg #[.int .u8 r1, .int .u8 r2, .int .i64 r3]) ∧ Below w.heap.size w w' := by
 have hu108 := Tryd.underlying108
 have HB := Aside0.mk (Below.refl w.heap.size w)
 have H : (if a0 < 128 then (some (0, 0, 0)) else (if a0 < 194 then (utf_behind.j0 k a0 true) else (utf_behind.j0 k a0 (decide (a0 > 244))))) = some (r1, r2, r3) := h
 clear h
 by_cases c2 : a0 < 128
 ·rw [if_pos c2] at H
  have c2b0 := decide_eq_true c2
  clear c2
  simp only [Option.some.injEq, Prod.mk.injEq] at H
  obtain ⟨rfl, rfl, rfl⟩ := H
  go_enter Tryd.func90, Tryd.ntmps90
  go_wp2_with (first | ((with_reducible refine gate_dst (N := 2) rfl ?_); refine box_event ?hg (N := 2) ?hd (cs := #[.int .u8 0, .int .u8 0, .int .i64 0]) (t := 108) ?hr ?_; (case hd => rfl); (case hg => rfl); (case hr => first | (go_simp; done) | (go_simp; rfl)); intro gb117 hg w3 hbox hb; have BK117 := Aside0.mk (hbox); have GW117 := Aside0.mk (gE (g := gb117) hg HB.out); have GE117 := Aside0.mk (gE (g := gb117) hg HB.out); replace HB := Aside0.mk (below_step (bAt HB.out) hb); clear hb hbox hg; obtain ⟨hcz4_0, hcz4_1, hcz4_2, hfz4_0, hfz4_1, hfz4_2⟩ := blk3 BK117.out))
  refine bodyPost_ret (results_cell_row rfl _ _ gb117 108 #[.int .u8 0, .int .u8 0, .int .i64 0] (0, 0) _ rfl (by refine bP #[.int .u8 0, .int .u8 0, .int .i64 0] 2 ?_; refine bP #[.int .u8 0, .int .u8 0, .int .i64 0] 1 ?_; refine bP #[.int .u8 0, .int .u8 0, .int .i64 0] 0 ?_; (with_reducible repeat (first | refine blk_drewN ?_ _ | refine blk_drew ?_ | refine blk_alloc ?_ _)); exact BK117.out) Tryd.underlying108 rfl (by kernel_rfl)) rfl ?_
  exact ⟨eR, bAt HB.out⟩
 ·rw [if_neg c2] at H
  have c2b0 := decide_eq_false c2
  clear c2
  have HC5 := Aside0.mk H
  clear H
  go_enter Tryd.func90, Tryd.ntmps90
  go_upto_region 3 with (first | ((with_reducible refine gate_dst (N := 2) rfl ?_); refine box_event ?hg (N := 2) ?hd (cs := #[.int .u8 0, .int .u8 0, .int .i64 0]) (t := 108) ?hr ?_; (case hd => rfl); (case hg => rfl); (case hr => first | (go_simp; done) | (go_simp; rfl)); intro gb117 hg w6 hbox hb; have BK117 := Aside0.mk (hbox); have GW117 := Aside0.mk (gE (g := gb117) hg HB.out); have GE117 := Aside0.mk (gE (g := gb117) hg HB.out); replace HB := Aside0.mk (below_step (bAt HB.out) hb); clear hb hbox hg))
  (try simp only [Act.put, List.setIfInBounds_toArray, List.set_cons_zero, List.set_cons_succ])
  go_cut [7] (fun v7 wc => ∃ (kq : Nat) (x7_4 : Bool), v7 = .bool x7_4 ∧ Aside0 (utf_behind.j0 kq a0 x7_4 = some (r1, r2, r3)) ∧ Aside0 (kq ≤ k) ∧ Aside0 (wc.heap[gb117]? = some (.cells #[.int .u8 0, .int .u8 0, .int .i64 0] 108 (0, 0))) ∧ Aside0 (Below w.heap.size w wc))
  case first =>
   have H := HC5.out
   clear HC5
   by_cases c7 : a0 < 194
   ·rw [if_pos c7] at H
    have c7b0 := decide_eq_true c7
    clear c7
    (first | rw [c7b0] | (simp only [i64_w, i32_w]; rw [c7b0]) | skip)
    have H' := Aside0.mk H
    clear H
    go_wp2
    go_meet
    case rel => exact ⟨_, (true), sR, H', ⟨by first | omega | exact Nat.le_refl _⟩, ⟨kAt BK117.out⟩, ⟨bAt HB.out⟩⟩
   ·rw [if_neg c7] at H
    have c7b0 := decide_eq_false c7
    clear c7
    (first | rw [c7b0] | (simp only [i64_w, i32_w]; rw [c7b0]) | skip)
    have H' := Aside0.mk H
    clear H
    go_wp2
    go_meet
    case rel => exact ⟨_, (decide (a0 > 244)), sR, H', ⟨by first | omega | exact Nat.le_refl _⟩, ⟨kAt BK117.out⟩, ⟨bAt HB.out⟩⟩
  case rest =>
   clear HC5
   try clear c2
   try clear c2b0
   try clear p2
   try clear c7
   try clear c7b0
   try clear hcz4_0
   try clear hcz4_1
   try clear hcz4_2
   try clear hfz4_0
   try clear hfz4_1
   try clear hfz4_2
   obtain ⟨kq, x7_4, rfl, HA, HJ4, BK117, HB⟩ := hcut
   cases kq with
   | zero => exact absurd HA.out (by simp [utf_behind.j0])
   | succ kj4 =>
    have H := HA.out
    clear HA
    simp only [utf_behind.j0] at H
    by_cases c8 : x7_4 = true
    ·subst c8
     replace H := tP H
     simp only [Option.some.injEq, Prod.mk.injEq] at H
     obtain ⟨rfl, rfl, rfl⟩ := H
     obtain ⟨hcz9_0, hcz9_1, hcz9_2, hfz9_0, hfz9_1, hfz9_2⟩ := blk3 BK117.out
     go_wp2
     refine bodyPost_ret (results_cell_row rfl _ _ gb117 108 #[.int .u8 0, .int .u8 0, .int .i64 (-1)] (0, 0) _ rfl (by refine bP #[.int .u8 0, .int .u8 0, .int .i64 0] 2 ?_; refine bP #[.int .u8 0, .int .u8 0, .int .i64 0] 1 ?_; refine bP #[.int .u8 0, .int .u8 0, .int .i64 0] 0 ?_; (with_reducible repeat (first | refine blk_drewN ?_ _ | refine blk_drew ?_ | refine blk_alloc ?_ _)); exact BK117.out) Tryd.underlying108 rfl (by kernel_rfl)) rfl ?_
     exact ⟨eR, bAt HB.out⟩
    ·replace c8 := Bool.eq_false_iff.mpr c8
     subst c8
     replace H := fP H
     by_cases c10 : a0 < 224
     ·rw [if_pos c10] at H
      have c10b0 := decide_eq_true c10
      clear c10
      simp only [Option.some.injEq, Prod.mk.injEq] at H
      obtain ⟨rfl, rfl, rfl⟩ := H
      obtain ⟨hcz11_0, hcz11_1, hcz11_2, hfz11_0, hfz11_1, hfz11_2⟩ := blk3 BK117.out
      go_wp2
      refine bodyPost_ret (results_cell_row rfl _ _ gb117 108 #[.int .u8 128, .int .u8 191, .int .i64 1] (0, 0) _ rfl (by refine bP #[.int .u8 128, .int .u8 191, .int .i64 0] 2 ?_; refine bP #[.int .u8 128, .int .u8 0, .int .i64 0] 1 ?_; refine bP #[.int .u8 0, .int .u8 0, .int .i64 0] 0 ?_; (with_reducible repeat (first | refine blk_drewN ?_ _ | refine blk_drew ?_ | refine blk_alloc ?_ _)); exact BK117.out) Tryd.underlying108 rfl (by kernel_rfl)) rfl ?_
      exact ⟨eR, bAt HB.out⟩
     ·rw [if_neg c10] at H
      have c10b0 := decide_eq_false c10
      clear c10
      by_cases c12 : a0 = 224
      ·rw [if_pos c12] at H
       obtain ⟨c12b0, c12b1⟩ := eqB c12
       clear c12
       simp only [Option.some.injEq, Prod.mk.injEq] at H
       obtain ⟨rfl, rfl, rfl⟩ := H
       obtain ⟨hcz13_0, hcz13_1, hcz13_2, hfz13_0, hfz13_1, hfz13_2⟩ := blk3 BK117.out
       go_wp2
       refine bodyPost_ret (results_cell_row rfl _ _ gb117 108 #[.int .u8 160, .int .u8 191, .int .i64 2] (0, 0) _ rfl (by refine bP #[.int .u8 160, .int .u8 191, .int .i64 0] 2 ?_; refine bP #[.int .u8 160, .int .u8 0, .int .i64 0] 1 ?_; refine bP #[.int .u8 0, .int .u8 0, .int .i64 0] 0 ?_; (with_reducible repeat (first | refine blk_drewN ?_ _ | refine blk_drew ?_ | refine blk_alloc ?_ _)); exact BK117.out) Tryd.underlying108 rfl (by kernel_rfl)) rfl ?_
       exact ⟨eR, bAt HB.out⟩
      ·rw [if_neg c12] at H
       obtain ⟨c12b0, c12b1⟩ := neB c12
       by_cases c14 : a0 = 237
       ·rw [if_pos c14] at H
        obtain ⟨c14b0, c14b1⟩ := eqB c14
        clear c14
        simp only [Option.some.injEq, Prod.mk.injEq] at H
        obtain ⟨rfl, rfl, rfl⟩ := H
        obtain ⟨hcz15_0, hcz15_1, hcz15_2, hfz15_0, hfz15_1, hfz15_2⟩ := blk3 BK117.out
        go_wp2
        refine bodyPost_ret (results_cell_row rfl _ _ gb117 108 #[.int .u8 128, .int .u8 159, .int .i64 2] (0, 0) _ rfl (by refine bP #[.int .u8 128, .int .u8 159, .int .i64 0] 2 ?_; refine bP #[.int .u8 128, .int .u8 0, .int .i64 0] 1 ?_; refine bP #[.int .u8 0, .int .u8 0, .int .i64 0] 0 ?_; (with_reducible repeat (first | refine blk_drewN ?_ _ | refine blk_drew ?_ | refine blk_alloc ?_ _)); exact BK117.out) Tryd.underlying108 rfl (by kernel_rfl)) rfl ?_
        exact ⟨eR, bAt HB.out⟩
       ·rw [if_neg c14] at H
        obtain ⟨c14b0, c14b1⟩ := neB c14
        by_cases c16 : a0 < 240
        ·rw [if_pos c16] at H
         have c16b0 := decide_eq_true c16
         clear c16
         simp only [Option.some.injEq, Prod.mk.injEq] at H
         obtain ⟨rfl, rfl, rfl⟩ := H
         obtain ⟨hcz17_0, hcz17_1, hcz17_2, hfz17_0, hfz17_1, hfz17_2⟩ := blk3 BK117.out
         go_wp2
         refine bodyPost_ret (results_cell_row rfl _ _ gb117 108 #[.int .u8 128, .int .u8 191, .int .i64 2] (0, 0) _ rfl (by refine bP #[.int .u8 128, .int .u8 191, .int .i64 0] 2 ?_; refine bP #[.int .u8 128, .int .u8 0, .int .i64 0] 1 ?_; refine bP #[.int .u8 0, .int .u8 0, .int .i64 0] 0 ?_; (with_reducible repeat (first | refine blk_drewN ?_ _ | refine blk_drew ?_ | refine blk_alloc ?_ _)); exact BK117.out) Tryd.underlying108 rfl (by kernel_rfl)) rfl ?_
         exact ⟨eR, bAt HB.out⟩
        ·rw [if_neg c16] at H
         have c16b0 := decide_eq_false c16
         clear c16
         by_cases c18 : a0 = 240
         ·rw [if_pos c18] at H
          obtain ⟨c18b0, c18b1⟩ := eqB c18
          clear c18
          simp only [Option.some.injEq, Prod.mk.injEq] at H
          obtain ⟨rfl, rfl, rfl⟩ := H
          obtain ⟨hcz19_0, hcz19_1, hcz19_2, hfz19_0, hfz19_1, hfz19_2⟩ := blk3 BK117.out
          go_wp2
          refine bodyPost_ret (results_cell_row rfl _ _ gb117 108 #[.int .u8 144, .int .u8 191, .int .i64 3] (0, 0) _ rfl (by refine bP #[.int .u8 144, .int .u8 191, .int .i64 0] 2 ?_; refine bP #[.int .u8 144, .int .u8 0, .int .i64 0] 1 ?_; refine bP #[.int .u8 0, .int .u8 0, .int .i64 0] 0 ?_; (with_reducible repeat (first | refine blk_drewN ?_ _ | refine blk_drew ?_ | refine blk_alloc ?_ _)); exact BK117.out) Tryd.underlying108 rfl (by kernel_rfl)) rfl ?_
          exact ⟨eR, bAt HB.out⟩
         ·rw [if_neg c18] at H
          obtain ⟨c18b0, c18b1⟩ := neB c18
          by_cases c20 : a0 = 244
          ·rw [if_pos c20] at H
           obtain ⟨c20b0, c20b1⟩ := eqB c20
           clear c20
           simp only [Option.some.injEq, Prod.mk.injEq] at H
           obtain ⟨rfl, rfl, rfl⟩ := H
           obtain ⟨hcz21_0, hcz21_1, hcz21_2, hfz21_0, hfz21_1, hfz21_2⟩ := blk3 BK117.out
           go_wp2
           refine bodyPost_ret (results_cell_row rfl _ _ gb117 108 #[.int .u8 128, .int .u8 143, .int .i64 3] (0, 0) _ rfl (by refine bP #[.int .u8 128, .int .u8 143, .int .i64 0] 2 ?_; refine bP #[.int .u8 128, .int .u8 0, .int .i64 0] 1 ?_; refine bP #[.int .u8 0, .int .u8 0, .int .i64 0] 0 ?_; (with_reducible repeat (first | refine blk_drewN ?_ _ | refine blk_drew ?_ | refine blk_alloc ?_ _)); exact BK117.out) Tryd.underlying108 rfl (by kernel_rfl)) rfl ?_
           exact ⟨eR, bAt HB.out⟩
          ·rw [if_neg c20] at H
           obtain ⟨c20b0, c20b1⟩ := neB c20
           simp only [Option.some.injEq, Prod.mk.injEq] at H
           obtain ⟨rfl, rfl, rfl⟩ := H
           obtain ⟨hcz22_0, hcz22_1, hcz22_2, hfz22_0, hfz22_1, hfz22_2⟩ := blk3 BK117.out
           go_wp2
           refine bodyPost_ret (results_cell_row rfl _ _ gb117 108 #[.int .u8 128, .int .u8 191, .int .i64 3] (0, 0) _ rfl (by refine bP #[.int .u8 128, .int .u8 191, .int .i64 0] 2 ?_; refine bP #[.int .u8 128, .int .u8 0, .int .i64 0] 1 ?_; refine bP #[.int .u8 0, .int .u8 0, .int .i64 0] 0 ?_; (with_reducible repeat (first | refine blk_drewN ?_ _ | refine blk_drew ?_ | refine blk_alloc ?_ _)); exact BK117.out) Tryd.underlying108 rfl (by kernel_rfl)) rfl ?_
           exact ⟨eR, bAt HB.out⟩
mutual
def utf_Take.j0 : Nat → List Int → Bool → Int → Int → Int → Option (Int × Bool)
 | 0, _, _, _, _, _ => none
 | k + 1, x0, x23, x123000, x123001, x123002 => if x23 = true then (some (1, false)) else (utf_Take.l0 k x0 x123002 0 x123000 x123001 x123002)
def utf_Take.l0 : Nat → List Int → Int → Int → Int → Int → Int → Option (Int × Bool)
 | 0, _, _, _, _, _, _ => none
 | k + 1, x0, x25, x26, x123000, x123001, x123002 => if x26 < x25 then (if 0 ≤ (wrap64 (x26 + 1)) then (if (wrap64 (x26 + 1)) < (x0.length : Int) then (if (rd x0 (wrap64 (x26 + 1))) < x123000 then (some (1, false)) else (if (rd x0 (wrap64 (x26 + 1))) > x123001 then (some (1, false)) else (utf_Take.l0 k x0 x25 (wrap64 (x26 + 1)) 128 191 x123002))) else (none)) else (none)) else (some (wrap64 (x123002 + 1), true))
end
def utf_Take.f (k : Nat) (l0 : List Int) : Option (Int × Bool) := if (l0.length : Int) = 0 then (some (0, false)) else (if 0 < (l0.length : Int) then ((utf_behind.f k (rd l0 0)).bind fun bt119 => (if bt119.2.2 < 0 then (utf_Take.j0 k l0 true bt119.1 bt119.2.1 bt119.2.2) else (utf_Take.j0 k l0 (decide ((l0.length : Int) ≤ bt119.2.2)) bt119.1 bt119.2.1 bt119.2.2))) else (none))
theorem utf_Take.mono_l : ∀ k, (∀ y0 y1 y2 y3 y4, LeO (utf_Take.j0 k y0 y1 y2 y3 y4) (utf_Take.j0 (k + 1) y0 y1 y2 y3 y4)) ∧ (∀ y0 y1 y2 y3 y4 y5, LeO (utf_Take.l0 k y0 y1 y2 y3 y4 y5) (utf_Take.l0 (k + 1) y0 y1 y2 y3 y4 y5))
 | 0 => ⟨fun _ _ _ _ _ r h => by simp [utf_Take.j0] at h, fun _ _ _ _ _ _ r h => by simp [utf_Take.l0] at h⟩
 | k + 1 => by
  obtain ⟨ih0, ih1⟩ := utf_Take.mono_l k
  refine ⟨?_, ?_⟩
  ·intro y0 y1 y2 y3 y4
   unfold utf_Take.j0
   repeat' with_reducible first | exact ih0 _ _ _ _ _ | exact ih1 _ _ _ _ _ _ | exact utf_behind.mono _ _ | exact LeO.refl _ | exact LeO.none _ | refine LeO.ite ?_ ?_ | refine LeO.bind ?_ (fun _ => ?_)
  ·intro y0 y1 y2 y3 y4 y5
   unfold utf_Take.l0
   repeat' with_reducible first | exact ih0 _ _ _ _ _ | exact ih1 _ _ _ _ _ _ | exact utf_behind.mono _ _ | exact LeO.refl _ | exact LeO.none _ | refine LeO.ite ?_ ?_ | refine LeO.bind ?_ (fun _ => ?_)
theorem utf_Take.mono : ∀ a0 k, LeO (utf_Take.f k a0) (utf_Take.f (k + 1) a0) := by
 intro a0 k
 obtain ⟨ih0, ih1⟩ := utf_Take.mono_l k
 unfold utf_Take.f
 repeat' with_reducible first | exact ih0 _ _ _ _ _ | exact ih1 _ _ _ _ _ _ | exact utf_behind.mono _ _ | exact LeO.refl _ | exact LeO.none _ | refine LeO.ite ?_ ?_ | refine LeO.bind ?_ (fun _ => ?_)
set_option maxHeartbeats 8000000 in
set_option maxRecDepth 100000 in
theorem utf_Take.calls (k : Nat) (A0 : Option Addr) (c0 : Nat) (l0 : List Int) (r1 : Int) (r2 : Bool) (w : World) (hr0 : Kd.C (Kd.int .u8) w A0 l0.length l0) (hc0 : l0.length ≤ c0) (h : utf_Take.f k l0 = some (r1, r2)) :
  Calls Tryd.prog 79 #[.slice A0 l0.length c0] w fun e w' => e = .returned (.tuple #[.int .i64 r1, .bool r2]) ∧ Below w.heap.size w w' := by
 have hu108 := Tryd.underlying108
 have HR0 := Aside0.mk hr0
 have HC0 := Aside0.mk hc0
 clear hr0 hc0
 have HB := Aside0.mk (Below.refl w.heap.size w)
 have H : (if (l0.length : Int) = 0 then (some (0, false)) else (if 0 < (l0.length : Int) then ((utf_behind.f k (rd l0 0)).bind fun bt119 => (if bt119.2.2 < 0 then (utf_Take.j0 k l0 true bt119.1 bt119.2.1 bt119.2.2) else (utf_Take.j0 k l0 (decide ((l0.length : Int) ≤ bt119.2.2)) bt119.1 bt119.2.1 bt119.2.2))) else (none))) = some (r1, r2) := h
 clear h
 by_cases c2 : (l0.length : Int) = 0
 ·rw [if_pos c2] at H
  obtain ⟨c2b0, c2b1⟩ := eqB c2
  clear c2
  simp only [Option.some.injEq, Prod.mk.injEq] at H
  obtain ⟨rfl, rfl⟩ := H
  go_enter Tryd.func79, Tryd.ntmps79
  go_wp2
  go_ret2
  exact ⟨eR, bAt HB.out⟩
 ·rw [if_neg c2] at H
  obtain ⟨c2b0, c2b1⟩ := neB c2
  have c2b2 : ¬ (l0 = []) := fun h_ => c2 (by rw [h_]; rfl)
  by_cases c3 : 0 < (l0.length : Int)
  ·rw [if_pos c3] at H
   have c3b0 := decide_eq_true c3
   have c3b1 : decide (0 < l0.length) = true := decide_eq_true (by omega)
   clear c3
   obtain ⟨⟨t119, t120, t121⟩, A4, H⟩ := bE H
   replace H : (if t121 < 0 then (utf_Take.j0 k l0 true t119 t120 t121) else (utf_Take.j0 k l0 (decide ((l0.length : Int) ≤ t121)) t119 t120 t121)) = some (r1, r2) := H
   have HC5 := Aside0.mk H
   clear H
   have p118 : 0 ≤ (0 : Int) := (by omega)
   have q118 : 0 < (l0.length : Int) := dt
   obtain ⟨ad118, e118, hx118_0⟩ := Kd.at_int HR0.out 0 p118 q118
   cases e118
   have qi118 : (0 < l0.length) = True := eq_true (by omega)
   (try rw [show ((0 : Int)).toNat = 0 from rfl] at hx118_0)
   (try rw [Addr.add_zero'] at hx118_0)
   replace p118 := eq_true p118
   replace q118 := eq_true q118
   go_enter Tryd.func79, Tryd.ntmps79
   go_upto_region 4 with (first | ((with_reducible refine gate_callee (f := 90) rfl ?_); refine gL (some 13) Tryd.func90 #[.int .u8 (rd l0 0)] rfl gA ?_; (with_reducible refine (utf_behind.calls k (rd l0 0) t119 t120 t121 _ A4.out).mono ?_); rintro e w6 ⟨rfl, hb⟩; refine ⟨_, rfl, ?_⟩; replace HB := Aside0.mk (below_step (bAt HB.out) hb); (try clear hb); (try clear hb2); (try clear hk); (try clear hi)) | ((with_reducible refine gate_dst (N := 4) rfl ?_); (try (refine gate_guard (by rfl) ?_; dsimp only)); refine box_event ?hg (N := 4) ?hd (cs := #[.int .u8 0, .int .u8 0, .int .i64 0]) (t := 108) ?hr ?_; (case hd => rfl); (case hg => rfl); (case hr => first | (go_simp; done) | (go_simp; rfl)); intro gb122 hg w7 hbox hb; have BK122 := Aside0.mk (hbox); have GW122 := Aside0.mk (gE (g := gb122) hg HB.out); have GE122 := Aside0.mk (gE (g := gb122) hg HB.out); replace HB := Aside0.mk (below_step (bAt HB.out) hb); clear hb hbox hg; obtain ⟨hcz8_0, hcz8_1, hcz8_2, hfz8_0, hfz8_1, hfz8_2⟩ := blk3 BK122.out))
   (try simp only [Act.put, List.setIfInBounds_toArray, List.set_cons_zero, List.set_cons_succ])
   go_cut [23] (fun v23 wc => ∃ (kq : Nat) (x23_4 : Bool), v23 = .bool x23_4 ∧ Aside0 (utf_Take.j0 kq l0 x23_4 t119 t120 t121 = some (r1, r2)) ∧ Aside0 (kq ≤ k) ∧ Aside0 (wc.heap[gb122]? = some (.cells #[.int .u8 t119, .int .u8 t120, .int .i64 t121] 108 (0, 0))) ∧ Aside0 (Below w.heap.size w wc))
   case first =>
    have H := HC5.out
    clear HC5
    by_cases c9 : t121 < 0
    ·rw [if_pos c9] at H
     have c9b0 := decide_eq_true c9
     clear c9
     (first | rw [c9b0] | (simp only [i64_w, i32_w]; rw [c9b0]) | skip)
     have H' := Aside0.mk H
     clear H
     obtain ⟨hcz10_0, hcz10_1, hcz10_2, hfz10_0, hfz10_1, hfz10_2⟩ := blk3 BK122.out
     go_wp2
     go_meet
     case rel => exact ⟨_, (true), sR, H', ⟨by first | omega | exact Nat.le_refl _⟩, ⟨by refine bP #[.int .u8 t119, .int .u8 t120, .int .i64 0] 2 ?_; refine bP #[.int .u8 t119, .int .u8 0, .int .i64 0] 1 ?_; refine bP #[.int .u8 0, .int .u8 0, .int .i64 0] 0 ?_; (with_reducible repeat (first | refine blk_drewN ?_ _ | refine blk_drew ?_ | refine blk_alloc ?_ _)); exact BK122.out⟩, ⟨bAt HB.out⟩⟩
    ·rw [if_neg c9] at H
     have c9b0 := decide_eq_false c9
     clear c9
     (first | rw [c9b0] | (simp only [i64_w, i32_w]; rw [c9b0]) | skip)
     have H' := Aside0.mk H
     clear H
     obtain ⟨hcz11_0, hcz11_1, hcz11_2, hfz11_0, hfz11_1, hfz11_2⟩ := blk3 BK122.out
     go_wp2
     go_meet
     case rel => exact ⟨_, (decide ((l0.length : Int) ≤ t121)), sR, H', ⟨by first | omega | exact Nat.le_refl _⟩, ⟨by refine bP #[.int .u8 t119, .int .u8 t120, .int .i64 0] 2 ?_; refine bP #[.int .u8 t119, .int .u8 0, .int .i64 0] 1 ?_; refine bP #[.int .u8 0, .int .u8 0, .int .i64 0] 0 ?_; (with_reducible repeat (first | refine blk_drewN ?_ _ | refine blk_drew ?_ | refine blk_alloc ?_ _)); exact BK122.out⟩, ⟨bAt HB.out⟩⟩
   case rest =>
    clear HC5
    try clear p1
    try clear q1
    try clear hx1
    try clear qi1
    try clear c2
    try clear c2b0 c2b1
    try clear c2b2
    try clear p2
    try clear c3
    try clear c3b0 c3b1
    try clear c7
    try clear c9
    try clear c9b0
    try clear p11
    try clear q11
    try clear hx11
    try clear qi11
    try clear hcz10_0
    try clear hcz10_1
    try clear hcz10_2
    try clear hcz11_0
    try clear hcz11_1
    try clear hcz11_2
    try clear hcz8_0
    try clear hcz8_1
    try clear hcz8_2
    try clear hfz10_0
    try clear hfz10_1
    try clear hfz10_2
    try clear hfz11_0
    try clear hfz11_1
    try clear hfz11_2
    try clear hfz8_0
    try clear hfz8_1
    try clear hfz8_2
    try clear hx118_0
    try clear p118
    try clear q118
    obtain ⟨kq, x23_4, rfl, HA, HJ4, BK122, HB⟩ := hcut
    cases kq with
    | zero => exact absurd HA.out (by simp [utf_Take.j0])
    | succ kj4 =>
     have H := HA.out
     clear HA
     simp only [utf_Take.j0] at H
     by_cases c12 : x23_4 = true
     ·subst c12
      replace H := tP H
      simp only [Option.some.injEq, Prod.mk.injEq] at H
      obtain ⟨rfl, rfl⟩ := H
      go_wp2
      go_ret2
      exact ⟨eR, bAt HB.out⟩
     ·replace c12 := Bool.eq_false_iff.mpr c12
      subst c12
      replace H := fP H
      have H' := Aside0.mk H
      clear H
      obtain ⟨hcz13_0, hcz13_1, hcz13_2, hfz13_0, hfz13_1, hfz13_2⟩ := blk3 BK122.out
      go_wp2
      go_loopg [26] kj4 (fun kq v26 w' => ∃ (x26_2 : Int) (x123000_2 : Int) (x123001_2 : Int), v26 = .int .i64 x26_2 ∧ Aside0 (utf_Take.l0 kq l0 t121 x26_2 x123000_2 x123001_2 t121 = some (r1, r2)) ∧ Aside0 (kq ≤ kj4) ∧ Aside0 (w'.heap[gb122]? = some (.cells #[.int .u8 x123000_2, .int .u8 x123001_2, .int .i64 t121] 108 (0, 0))) ∧ Aside0 (Below w.heap.size w w'))
      case atStart => exact ⟨(0), (t119), (t120), sR, H', ⟨Nat.le_refl _⟩, ⟨kAt BK122.out⟩, ⟨bAt HB.out⟩⟩
      case round =>
       clear H'
       try clear c1
       try clear p1
       try clear q1
       try clear hx1
       try clear qi1
       try clear c2
       try clear c2b0 c2b1
       try clear c2b2
       try clear p2
       try clear c3
       try clear c3b0 c3b1
       try clear c7
       try clear c9
       try clear c9b0
       try clear p11
       try clear q11
       try clear hx11
       try clear qi11
       try clear c12
       try clear hcz10_0
       try clear hcz10_1
       try clear hcz10_2
       try clear hcz11_0
       try clear hcz11_1
       try clear hcz11_2
       try clear hcz13_0
       try clear hcz13_1
       try clear hcz13_2
       try clear hcz8_0
       try clear hcz8_1
       try clear hcz8_2
       try clear hfz10_0
       try clear hfz10_1
       try clear hfz10_2
       try clear hfz11_0
       try clear hfz11_1
       try clear hfz11_2
       try clear hfz13_0
       try clear hfz13_1
       try clear hfz13_2
       try clear hfz8_0
       try clear hfz8_1
       try clear hfz8_2
       try clear hx118_0
       try clear p1
       try clear p11
       try clear p118
       try clear p2
       try clear q1
       try clear q11
       try clear q118
       obtain ⟨x26_2, x123000_2, x123001_2, rfl, HA, HK2, BK122, HB⟩ := hrel
       cases gk with
       | zero => exact absurd HA.out (by simp [utf_Take.l0])
       | succ k2 =>
        have H := HA.out
        clear HA
        simp only [utf_Take.l0] at H
        by_cases c14 : x26_2 < t121
        ·rw [if_pos c14] at H
         have c14b0 := decide_eq_true c14
         clear c14
         obtain ⟨ji15, hji15⟩ : ∃ j_ : Int, (wrap64 (x26_2 + 1)) = j_ := ⟨_, rfl⟩
         replace H : (if 0 ≤ (ji15) then (if (ji15) < (l0.length : Int) then (if (rd l0 (ji15)) < x123000_2 then (some (1, false)) else (if (rd l0 (ji15)) > x123001_2 then (some (1, false)) else (utf_Take.l0 k2 l0 t121 ji15 128 191 t121))) else (none)) else (none)) = some (r1, r2) := by first | (rw [hji15] at H; exact H) | (simp only [hji15] at H ⊢; exact H)
         have hji15w : (IntKind.i64.wrap (x26_2 + 1)) = ji15 := (i64_w _).trans hji15
         by_cases c16 : 0 ≤ (ji15)
         ·rw [if_pos c16] at H
          have c16b0 := decide_eq_true c16
          clear c16
          by_cases c17 : (ji15) < (l0.length : Int)
          ·rw [if_pos c17] at H
           have c17b0 := decide_eq_true c17
           clear c17
           by_cases c18 : (rd l0 (ji15)) < x123000_2
           ·rw [if_pos c18] at H
            have c18b0 := decide_eq_true c18
            clear c18
            simp only [Option.some.injEq, Prod.mk.injEq] at H
            obtain ⟨rfl, rfl⟩ := H
            have p123 : 0 ≤ ((ji15) : Int) := dt
            have q123 : (ji15) < (l0.length : Int) := dt
            obtain ⟨ad123, e123, hx123_0⟩ := Kd.at_int HR0.out (ji15) p123 q123
            obtain rfl : ad118 = ad123 := (by injection e123)
            replace hx123_0 := pw_cell_below HB.out hx123_0
            replace p123 := eq_true p123
            replace q123 := eq_true q123
            obtain ⟨hcz19_0, hcz19_1, hcz19_2, hfz19_0, hfz19_1, hfz19_2⟩ := blk3 BK122.out
            go_wp2
            go_ret2
            exact ⟨by first | rfl | (simp [errW_none, errW_some] <;> rfl) | (simp only [← hji15]; first | rfl | (simp [errW_none, errW_some] <;> rfl)) | (simp [*, errW_none, errW_some] <;> rfl), bAt HB.out⟩
           ·rw [if_neg c18] at H
            have c18b0 := decide_eq_false c18
            clear c18
            by_cases c20 : (rd l0 (ji15)) > x123001_2
            ·rw [if_pos c20] at H
             have c20b0 : decide (x123001_2 < (rd l0 (ji15))) = true := decide_eq_true c20
             clear c20
             simp only [Option.some.injEq, Prod.mk.injEq] at H
             obtain ⟨rfl, rfl⟩ := H
             have p123 : 0 ≤ ((ji15) : Int) := dt
             have q123 : (ji15) < (l0.length : Int) := dt
             obtain ⟨ad123, e123, hx123_0⟩ := Kd.at_int HR0.out (ji15) p123 q123
             obtain rfl : ad118 = ad123 := (by injection e123)
             replace hx123_0 := pw_cell_below HB.out hx123_0
             replace p123 := eq_true p123
             replace q123 := eq_true q123
             obtain ⟨hcz21_0, hcz21_1, hcz21_2, hfz21_0, hfz21_1, hfz21_2⟩ := blk3 BK122.out
             go_wp2
             go_ret2
             exact ⟨by first | rfl | (simp [errW_none, errW_some] <;> rfl) | (simp only [← hji15]; first | rfl | (simp [errW_none, errW_some] <;> rfl)) | (simp [*, errW_none, errW_some] <;> rfl), bAt HB.out⟩
            ·rw [if_neg c20] at H
             have c20b0 : decide (x123001_2 < (rd l0 (ji15))) = false := decide_eq_false c20
             clear c20
             have H' := Aside0.mk H
             clear H
             have p123 : 0 ≤ ((ji15) : Int) := dt
             have q123 : (ji15) < (l0.length : Int) := dt
             obtain ⟨ad123, e123, hx123_0⟩ := Kd.at_int HR0.out (ji15) p123 q123
             obtain rfl : ad118 = ad123 := (by injection e123)
             replace hx123_0 := pw_cell_below HB.out hx123_0
             replace p123 := eq_true p123
             replace q123 := eq_true q123
             obtain ⟨hcz22_0, hcz22_1, hcz22_2, hfz22_0, hfz22_1, hfz22_2⟩ := blk3 BK122.out
             go_wp2
             go_roundg k2
             case measure => have := HJ4.out; have := HK2.out; omega
             case rel => exact ⟨(ji15), (128), (191), (by first | rfl | (simp; done) | (simp only [← hji15] <;> (first | rfl | simp)) | (simp [*]; done)), H', ⟨by have := HJ4.out; have := HK2.out; omega⟩, ⟨by refine bP #[.int .u8 128, .int .u8 x123001_2, .int .i64 t121] 1 ?_; refine bP #[.int .u8 x123000_2, .int .u8 x123001_2, .int .i64 t121] 0 ?_; (with_reducible repeat (first | refine blk_drewN ?_ _ | refine blk_drew ?_ | refine blk_alloc ?_ _)); exact BK122.out⟩, ⟨bAt HB.out⟩⟩
          ·exact nB H c17
         ·exact nB H c16
        ·rw [if_neg c14] at H
         have c14b0 := decide_eq_false c14
         clear c14
         simp only [Option.some.injEq, Prod.mk.injEq] at H
         obtain ⟨rfl, rfl⟩ := H
         obtain ⟨hcz23_0, hcz23_1, hcz23_2, hfz23_0, hfz23_1, hfz23_2⟩ := blk3 BK122.out
         go_wp2
         go_ret2
         exact ⟨eR, bAt HB.out⟩
  ·exact nB H c3
def class_Name.f (a0 : Int) : Option (Bool) := (class_Of.f a0).bind fun t124 => (if t124 = 2 then (some true) else (if t124 = 3 then (some true) else (if t124 = 4 then (some true) else (some false))))
set_option maxHeartbeats 8000000 in
set_option maxRecDepth 100000 in
theorem class_Name.calls (a0 : Int) (r : Bool) (w : World) (hG : Gl w) (h : class_Name.f a0 = some r) :
  Calls Tryd.prog 89 #[.int .u8 a0] w fun e w' => e = .returned (.bool r) ∧ Below w.heap.size w w' := by
 have HB := Aside0.mk (Below.refl w.heap.size w)
 have HG := Aside0.mk hG
 clear hG
 have H : ((class_Of.f a0).bind fun t124 => (if t124 = 2 then (some true) else (if t124 = 3 then (some true) else (if t124 = 4 then (some true) else (some false))))) = some r := h
 clear h
 obtain ⟨t124, A2, H⟩ := bE H
 by_cases c3 : t124 = 2
 ·rw [if_pos c3] at H
  obtain ⟨c3b0, c3b1⟩ := eqB c3
  clear c3
  obtain rfl := Option.some.inj H
  go_enter Tryd.func89, Tryd.ntmps89
  go_wp2_with (first | ((with_reducible refine gate_callee (f := 35) rfl ?_); refine gL (some 4) Tryd.func35 #[.int .u8 a0] rfl gA ?_; (with_reducible refine (class_Of.calls a0 t124 _ ?side1 A2.out).mono ?_); (case side1 => exact Gl.below HG.out (bAt HB.out)); rintro e w4 ⟨rfl, hb⟩; refine ⟨_, rfl, ?_⟩; replace HB := Aside0.mk (below_step (bAt HB.out) hb); (try clear hb); (try clear hb2); (try clear hk); (try clear hi)))
  go_ret
  exact ⟨eR, bAt HB.out⟩
 ·rw [if_neg c3] at H
  obtain ⟨c3b0, c3b1⟩ := neB c3
  by_cases c5 : t124 = 3
  ·rw [if_pos c5] at H
   obtain ⟨c5b0, c5b1⟩ := eqB c5
   clear c5
   obtain rfl := Option.some.inj H
   go_enter Tryd.func89, Tryd.ntmps89
   go_wp2_with (first | ((with_reducible refine gate_callee (f := 35) rfl ?_); refine gL (some 4) Tryd.func35 #[.int .u8 a0] rfl gA ?_; (with_reducible refine (class_Of.calls a0 t124 _ ?side1 A2.out).mono ?_); (case side1 => exact Gl.below HG.out (bAt HB.out)); rintro e w6 ⟨rfl, hb⟩; refine ⟨_, rfl, ?_⟩; replace HB := Aside0.mk (below_step (bAt HB.out) hb); (try clear hb); (try clear hb2); (try clear hk); (try clear hi)))
   go_ret
   exact ⟨eR, bAt HB.out⟩
  ·rw [if_neg c5] at H
   obtain ⟨c5b0, c5b1⟩ := neB c5
   by_cases c7 : t124 = 4
   ·rw [if_pos c7] at H
    obtain ⟨c7b0, c7b1⟩ := eqB c7
    clear c7
    obtain rfl := Option.some.inj H
    go_enter Tryd.func89, Tryd.ntmps89
    go_wp2_with (first | ((with_reducible refine gate_callee (f := 35) rfl ?_); refine gL (some 4) Tryd.func35 #[.int .u8 a0] rfl gA ?_; (with_reducible refine (class_Of.calls a0 t124 _ ?side1 A2.out).mono ?_); (case side1 => exact Gl.below HG.out (bAt HB.out)); rintro e w8 ⟨rfl, hb⟩; refine ⟨_, rfl, ?_⟩; replace HB := Aside0.mk (below_step (bAt HB.out) hb); (try clear hb); (try clear hb2); (try clear hk); (try clear hi)))
    go_ret
    exact ⟨eR, bAt HB.out⟩
   ·rw [if_neg c7] at H
    obtain ⟨c7b0, c7b1⟩ := neB c7
    obtain rfl := Option.some.inj H
    go_enter Tryd.func89, Tryd.ntmps89
    go_wp2_with (first | ((with_reducible refine gate_callee (f := 35) rfl ?_); refine gL (some 4) Tryd.func35 #[.int .u8 a0] rfl gA ?_; (with_reducible refine (class_Of.calls a0 t124 _ ?side1 A2.out).mono ?_); (case side1 => exact Gl.below HG.out (bAt HB.out)); rintro e w9 ⟨rfl, hb⟩; refine ⟨_, rfl, ?_⟩; replace HB := Aside0.mk (below_step (bAt HB.out) hb); (try clear hb); (try clear hb2); (try clear hk); (try clear hi)))
    go_ret
    exact ⟨eR, bAt HB.out⟩
def token_name.l0 : Nat → List Int → Int → Option (Int)
 | 0, _, _ => none
 | k + 1, x0, x3 => if x3 < (x0.length : Int) then (if 0 ≤ x3 then (if x3 ≤ (x0.length : Int) then ((utf_Take.f k (x0.drop (x3 : Int).toNat)).bind fun bt126 => (if bt126.2 = true then (if bt126.1 = 1 then ((class_Name.f (rd x0 x3)).bind fun t129 => (if t129 = true then (token_name.l0 k x0 (wrap64 (x3 + bt126.1))) else (some x3))) else (token_name.l0 k x0 (wrap64 (x3 + bt126.1)))) else (some x3))) else (none)) else (none)) else (some (x0.length : Int))
def token_name.f (k : Nat) (l0 : List Int) : Option (Int) := token_name.l0 k l0 0
theorem token_name.mono_l : ∀ k, (∀ y0 y1, LeO (token_name.l0 k y0 y1) (token_name.l0 (k + 1) y0 y1))
 | 0 => fun _ _ r h => by simp [token_name.l0] at h
 | k + 1 => by
  have ih0 := token_name.mono_l k
  ·intro y0 y1
   unfold token_name.l0
   repeat' with_reducible first | exact ih0 _ _ | exact utf_Take.mono _ _ | exact LeO.refl _ | exact LeO.none _ | refine LeO.ite ?_ ?_ | refine LeO.bind ?_ (fun _ => ?_)
theorem token_name.mono : ∀ a0 k, LeO (token_name.f k a0) (token_name.f (k + 1) a0) := by
 intro a0 k
 have ih0 := token_name.mono_l k
 unfold token_name.f
 repeat' with_reducible first | exact ih0 _ _ | exact utf_Take.mono _ _ | exact LeO.refl _ | exact LeO.none _ | refine LeO.ite ?_ ?_ | refine LeO.bind ?_ (fun _ => ?_)
set_option maxHeartbeats 8000000 in
set_option maxRecDepth 100000 in
theorem token_name.calls (k : Nat) (A0 : Option Addr) (c0 : Nat) (l0 : List Int) (r : Int) (w : World) (hG : Gl w) (hr0 : Kd.C (Kd.int .u8) w A0 l0.length l0) (hc0 : l0.length ≤ c0) (h : token_name.f k l0 = some r) :
  Calls Tryd.prog 78 #[.slice A0 l0.length c0] w fun e w' => e = .returned (.int .i64 r) ∧ Below w.heap.size w w' := by
 have HR0 := Aside0.mk hr0
 have HC0 := Aside0.mk hc0
 clear hr0 hc0
 have HB := Aside0.mk (Below.refl w.heap.size w)
 have HG := Aside0.mk hG
 clear hG
 have H : (token_name.l0 k l0 0) = some r := h
 clear h
 have H' := Aside0.mk H
 clear H
 go_enter Tryd.func78, Tryd.ntmps78
 go_wp2
 go_loopg [3] k (fun kq v3 w' => ∃ (x3_1 : Int), v3 = .int .i64 x3_1 ∧ Aside0 (token_name.l0 kq l0 x3_1 = some r) ∧ Aside0 (kq ≤ k) ∧ Aside0 (Below w.heap.size w w'))
 case atStart => exact ⟨(0), sR, H', ⟨Nat.le_refl _⟩, ⟨bAt HB.out⟩⟩
 case round =>
  clear H'
  obtain ⟨x3_1, rfl, HA, HK1, HB⟩ := hrel
  cases gk with
  | zero => exact absurd HA.out (by simp [token_name.l0])
  | succ k1 =>
   have H := HA.out
   clear HA
   simp only [token_name.l0] at H
   by_cases c2 : x3_1 < (l0.length : Int)
   ·rw [if_pos c2] at H
    have c2b0 := decide_eq_true c2
    clear c2
    by_cases c3 : 0 ≤ x3_1
    ·rw [if_pos c3] at H
     have c3b0 := eq_true c3
     have c3b1 := decide_eq_true c3
     clear c3
     by_cases c4 : x3_1 ≤ (l0.length : Int)
     ·rw [if_pos c4] at H
      have c4b0 := eq_true c4
      have c4b1 := decide_eq_true c4
      clear c4
      obtain ⟨⟨t126, t127⟩, A5, H⟩ := bE H
      replace H : (if t127 = true then (if t126 = 1 then ((class_Name.f (rd l0 x3_1)).bind fun t129 => (if t129 = true then (token_name.l0 k1 l0 (wrap64 (x3_1 + t126))) else (some x3_1))) else (token_name.l0 k1 l0 (wrap64 (x3_1 + t126)))) else (some x3_1)) = some r := H
      by_cases c6 : t127 = true
      ·subst c6
       replace H := tP H
       by_cases c7 : t126 = 1
       ·rw [if_pos c7] at H
        obtain ⟨c7b0, c7b1⟩ := eqB c7
        clear c7
        obtain ⟨t129, A8, H⟩ := bE H
        by_cases c9 : t129 = true
        ·subst c9
         replace H := tP H
         have H' := Aside0.mk H
         clear H
         obtain ⟨i010, hi010, _, hsz10, _⟩ := info_parts info5
         obtain ⟨A10, hcut10, hA10, hC10⟩ := print_drop_of (P := Tryd.prog) (Value.int .u8) 0 22 5 .i64 Tryd.underlying22 hi010 hsz10 A0 c0 l0 x3_1 dt dt HC0.out
         have HR125 := Aside0.mk (Kd.C_of_reads (h1 := fun _ => rfl) (hA10 _ (Kd.reads_of_C HR0.out)))
         have HC125 := Aside0.mk hC10
         clear hA10 hC10 hi010 hsz10
         go_wp2_with (first | ((with_reducible refine gate_callee (f := 79) rfl ?_); refine gL (some 14) Tryd.func79 #[.slice A10 (l0.drop (x3_1 : Int).toNat).length (c0 - x3_1.toNat)] rfl (gD l0 (x3_1 : Int).toNat) ?_; (with_reducible refine (utf_Take.calls k1 _ _ (l0.drop (x3_1 : Int).toNat) t126 true _ ?side1 ?side2 A5.out).mono ?_); (case side1 => exact CAt (Kd.C_below HR125.out HB.out)); (case side2 => exact HC125.out); rintro e w11 ⟨rfl, hb⟩; refine ⟨_, rfl, ?_⟩; replace HB := Aside0.mk (below_step (bAt HB.out) hb); (try clear hb); (try clear hb2); (try clear hk); (try clear hi); have p128 : 0 ≤ (x3_1 : Int) := dt; have q128 : x3_1 < (l0.length : Int) := dt; obtain ⟨ad128, e128, hx128_0⟩ := Kd.at_int HR0.out x3_1 p128 q128; cases e128; replace hx128_0 := pw_cell_below HB.out hx128_0; replace p128 := eq_true p128; replace q128 := eq_true q128) | ((with_reducible refine gate_callee (f := 89) rfl ?_); (try (refine gate_guard (by rfl) ?_; dsimp only)); refine gL (some 27) Tryd.func89 #[.int .u8 (rd l0 x3_1)] rfl gA ?_; (with_reducible refine (class_Name.calls (rd l0 x3_1) true _ ?side1 A8.out).mono ?_); (case side1 => exact Gl.below HG.out (bAt HB.out)); rintro e w12 ⟨rfl, hb⟩; refine ⟨_, rfl, ?_⟩; replace HB := Aside0.mk (below_step (bAt HB.out) hb); (try clear hb); (try clear hb2); (try clear hk); (try clear hi)))
         go_roundg k1
         case measure => have := HK1.out; omega
         case rel => exact ⟨(wrap64 (x3_1 + t126)), sR, H', ⟨by have := HK1.out; omega⟩, ⟨bAt HB.out⟩⟩
        ·replace c9 := Bool.eq_false_iff.mpr c9
         subst c9
         replace H := fP H
         obtain rfl := Option.some.inj H
         obtain ⟨i013, hi013, _, hsz13, _⟩ := info_parts info5
         obtain ⟨A13, hcut13, hA13, hC13⟩ := print_drop_of (P := Tryd.prog) (Value.int .u8) 0 22 5 .i64 Tryd.underlying22 hi013 hsz13 A0 c0 l0 x3_1 dt dt HC0.out
         have HR125 := Aside0.mk (Kd.C_of_reads (h1 := fun _ => rfl) (hA13 _ (Kd.reads_of_C HR0.out)))
         have HC125 := Aside0.mk hC13
         clear hA13 hC13 hi013 hsz13
         go_wp2_with (first | ((with_reducible refine gate_callee (f := 79) rfl ?_); refine gL (some 14) Tryd.func79 #[.slice A13 (l0.drop (x3_1 : Int).toNat).length (c0 - x3_1.toNat)] rfl (gD l0 (x3_1 : Int).toNat) ?_; (with_reducible refine (utf_Take.calls k1 _ _ (l0.drop (x3_1 : Int).toNat) t126 true _ ?side1 ?side2 A5.out).mono ?_); (case side1 => exact CAt (Kd.C_below HR125.out HB.out)); (case side2 => exact HC125.out); rintro e w14 ⟨rfl, hb⟩; refine ⟨_, rfl, ?_⟩; replace HB := Aside0.mk (below_step (bAt HB.out) hb); (try clear hb); (try clear hb2); (try clear hk); (try clear hi); have p128 : 0 ≤ (x3_1 : Int) := dt; have q128 : x3_1 < (l0.length : Int) := dt; obtain ⟨ad128, e128, hx128_0⟩ := Kd.at_int HR0.out x3_1 p128 q128; cases e128; replace hx128_0 := pw_cell_below HB.out hx128_0; replace p128 := eq_true p128; replace q128 := eq_true q128) | ((with_reducible refine gate_callee (f := 89) rfl ?_); (try (refine gate_guard (by rfl) ?_; dsimp only)); refine gL (some 27) Tryd.func89 #[.int .u8 (rd l0 x3_1)] rfl gA ?_; (with_reducible refine (class_Name.calls (rd l0 x3_1) false _ ?side1 A8.out).mono ?_); (case side1 => exact Gl.below HG.out (bAt HB.out)); rintro e w15 ⟨rfl, hb⟩; refine ⟨_, rfl, ?_⟩; replace HB := Aside0.mk (below_step (bAt HB.out) hb); (try clear hb); (try clear hb2); (try clear hk); (try clear hi)))
         go_ret
         exact ⟨eR, bAt HB.out⟩
       ·rw [if_neg c7] at H
        obtain ⟨c7b0, c7b1⟩ := neB c7
        have H' := Aside0.mk H
        clear H
        obtain ⟨i016, hi016, _, hsz16, _⟩ := info_parts info5
        obtain ⟨A16, hcut16, hA16, hC16⟩ := print_drop_of (P := Tryd.prog) (Value.int .u8) 0 22 5 .i64 Tryd.underlying22 hi016 hsz16 A0 c0 l0 x3_1 dt dt HC0.out
        have HR125 := Aside0.mk (Kd.C_of_reads (h1 := fun _ => rfl) (hA16 _ (Kd.reads_of_C HR0.out)))
        have HC125 := Aside0.mk hC16
        clear hA16 hC16 hi016 hsz16
        go_wp2_with (first | ((with_reducible refine gate_callee (f := 79) rfl ?_); refine gL (some 14) Tryd.func79 #[.slice A16 (l0.drop (x3_1 : Int).toNat).length (c0 - x3_1.toNat)] rfl (gD l0 (x3_1 : Int).toNat) ?_; (with_reducible refine (utf_Take.calls k1 _ _ (l0.drop (x3_1 : Int).toNat) t126 true _ ?side1 ?side2 A5.out).mono ?_); (case side1 => exact CAt (Kd.C_below HR125.out HB.out)); (case side2 => exact HC125.out); rintro e w17 ⟨rfl, hb⟩; refine ⟨_, rfl, ?_⟩; replace HB := Aside0.mk (below_step (bAt HB.out) hb); (try clear hb); (try clear hb2); (try clear hk); (try clear hi)))
        go_roundg k1
        case measure => have := HK1.out; omega
        case rel => exact ⟨(wrap64 (x3_1 + t126)), sR, H', ⟨by have := HK1.out; omega⟩, ⟨bAt HB.out⟩⟩
      ·replace c6 := Bool.eq_false_iff.mpr c6
       subst c6
       replace H := fP H
       obtain rfl := Option.some.inj H
       obtain ⟨i018, hi018, _, hsz18, _⟩ := info_parts info5
       obtain ⟨A18, hcut18, hA18, hC18⟩ := print_drop_of (P := Tryd.prog) (Value.int .u8) 0 22 5 .i64 Tryd.underlying22 hi018 hsz18 A0 c0 l0 x3_1 dt dt HC0.out
       have HR125 := Aside0.mk (Kd.C_of_reads (h1 := fun _ => rfl) (hA18 _ (Kd.reads_of_C HR0.out)))
       have HC125 := Aside0.mk hC18
       clear hA18 hC18 hi018 hsz18
       go_wp2_with (first | ((with_reducible refine gate_callee (f := 79) rfl ?_); refine gL (some 14) Tryd.func79 #[.slice A18 (l0.drop (x3_1 : Int).toNat).length (c0 - x3_1.toNat)] rfl (gD l0 (x3_1 : Int).toNat) ?_; (with_reducible refine (utf_Take.calls k1 _ _ (l0.drop (x3_1 : Int).toNat) t126 false _ ?side1 ?side2 A5.out).mono ?_); (case side1 => exact CAt (Kd.C_below HR125.out HB.out)); (case side2 => exact HC125.out); rintro e w19 ⟨rfl, hb⟩; refine ⟨_, rfl, ?_⟩; replace HB := Aside0.mk (below_step (bAt HB.out) hb); (try clear hb); (try clear hb2); (try clear hk); (try clear hi)))
       go_ret
       exact ⟨eR, bAt HB.out⟩
     ·exact nB H c4
    ·exact nB H c3
   ·rw [if_neg c2] at H
    have c2b0 := decide_eq_false c2
    clear c2
    obtain rfl := Option.some.inj H
    go_wp2
    go_ret
    exact ⟨eR, bAt HB.out⟩
end Go.Proofs.YtpkklbdclghcfaaDoor.P
