/- Part of the proof: what the theorem needs of this text. -/
import Derived.Test.YtflekegjmjjdmaaDoorKPx0
import Derived.Test.YtflekegjmjjdmaaDoorKPx10
import Derived.Test.YtflekegjmjjdmaaDoorKPx11
import Derived.Test.YtflekegjmjjdmaaDoorKPx12
import Derived.Test.YtflekegjmjjdmaaDoorKPx9
namespace Go.Proofs.YtflekegjmjjdmaaDoor.P
open Go.RowKit Go.Proofs.YtflekegjmjjdmaaDoorW.PrintWords Go.Proofs.YtflekegjmjjdmaaDoorW.PrintLast Go.Proofs.YtflekegjmjjdmaaDoorW.PrintMore
attribute [local go_sem] max2_int min2_int max_two min_two max_three min_three max_four min_four   -- for this text's walks alone
set_option linter.unusedVariables false
set_option linter.unusedSimpArgs false
def tmesisref06_first.j0 : Nat → List Int → Int → Int → Bool → Int → Bool → Option (Int × Int × Int × ByteArray × Int)
 | 0, _, _, _, _, _, _ => none
 | k + 1, x0, x3, x4, x5, x25, x26 => if x26 = true then ((tmesisref06_name.f k x0).bind fun t263 => (if x3 = 3 then (if 0 ≤ t263 then (if t263 ≤ (x0.length : Int) then (some (3, 0, t263, strOfNums (x0.take (t263 : Int).toNat), 0)) else (none)) else (none)) else (if 0 ≤ t263 then (if t263 ≤ (x0.length : Int) then (some (1, 0, t263, strOfNums (x0.take (t263 : Int).toNat), 0)) else (none)) else (none)))) else (if x25 = 9 then (if x5 = true then (if x4 > 1 then ((tmesisref06_name.f k x0).bind fun t266 => (if 0 ≤ t266 then (if t266 ≤ (x0.length : Int) then (some (1, 0, t266, strOfNums (x0.take (t266 : Int).toNat), 0)) else (none)) else (none))) else (some (8, 0, 1, (⟨#[]⟩ : ByteArray), 10))) else (some (8, 0, 1, (⟨#[]⟩ : ByteArray), 10))) else (if x25 = 5 then ((tmesisref02_Run.f k x0 5).bind fun t268 => (if t268 = 1 then (if 0 < (x0.length : Int) then (if (rd x0 0) = 46 then ((tmesisref06_ends.f k x0).bind fun t270 => (if t270 = true then (if 0 ≤ t268 then (if t268 ≤ (x0.length : Int) then (some (7, 0, t268, strOfNums (x0.take (t268 : Int).toNat), 0)) else (none)) else (none)) else (if 0 ≤ t268 then (if t268 ≤ (x0.length : Int) then (some (2, 0, t268, strOfNums (x0.take (t268 : Int).toNat), 0)) else (none)) else (none)))) else (if 0 ≤ t268 then (if t268 ≤ (x0.length : Int) then (some (2, 0, t268, strOfNums (x0.take (t268 : Int).toNat), 0)) else (none)) else (none))) else (none)) else (if 0 ≤ t268 then (if t268 ≤ (x0.length : Int) then (some (2, 0, t268, strOfNums (x0.take (t268 : Int).toNat), 0)) else (none)) else (none)))) else (if x25 = 4 then ((tmesisref03_Take.f k x0).bind fun bt275 => (if bt275.2.2 = 0 then (if 0 ≤ bt275.2.1 then (if bt275.2.1 ≤ (x0.length : Int) then (some (4, 0, bt275.2.1, strOfNums (x0.take (bt275.2.1 : Int).toNat), 0)) else (none)) else (none)) else (some (8, 0, bt275.2.1, (⟨#[]⟩ : ByteArray), bt275.2.2)))) else (if x25 = 7 then ((tmesisref04_Take.f k x0).bind fun bt279 => (if bt279.2.2 = 0 then (some (5, 0, bt279.2.1, strOfNums bt279.1, 0)) else (some (8, 0, bt279.2.1, (⟨#[]⟩ : ByteArray), bt279.2.2)))) else (if x25 = 6 then (if 1 ≤ (x0.length : Int) then (some (6, 0, 1, strOfNums (x0.take 1), 0)) else (none)) else (some (8, 0, 1, (⟨#[]⟩ : ByteArray), 11)))))))
def tmesisref06_first.f (k : Nat) (l0 : List Int) : Option (Int × Int × Int × ByteArray × Int) := if 0 < (l0.length : Int) then ((tmesisref02_Of.f k (rd l0 0)).bind fun t260 => ((tmesisref01_Take.f k l0).bind fun bt261 => (if t260 = 2 then (tmesisref06_first.j0 k l0 t260 bt261.1 bt261.2 t260 (t260 == 2)) else (tmesisref06_first.j0 k l0 t260 bt261.1 bt261.2 t260 (t260 == 3))))) else (none)
theorem tmesisref06_first.mono_l : ∀ k, (∀ y0 y1 y2 y3 y4 y5, LeO (tmesisref06_first.j0 k y0 y1 y2 y3 y4 y5) (tmesisref06_first.j0 (k + 1) y0 y1 y2 y3 y4 y5))
 | 0 => fun _ _ _ _ _ _ r h => by simp [tmesisref06_first.j0] at h
 | k + 1 => by
  have ih0 := tmesisref06_first.mono_l k
  ·intro y0 y1 y2 y3 y4 y5
   unfold tmesisref06_first.j0
   repeat' first
   | (with_reducible exact ih0 _ _ _ _ _ _)
   | (with_reducible exact tmesisref01_Take.mono _ _)
   | (with_reducible exact tmesisref02_Of.mono _ _)
   | (with_reducible exact tmesisref02_Run.mono _ _ _)
   | (with_reducible exact tmesisref03_Take.mono _ _)
   | (with_reducible exact tmesisref04_Take.mono _ _)
   | (with_reducible exact tmesisref06_ends.mono _ _)
   | (with_reducible exact tmesisref06_name.mono _ _)
   | (with_reducible exact LeO.refl _)
   | (with_reducible exact LeO.none _)
   | (with_reducible refine LeO.ite ?_ ?_)
   | (with_reducible refine LeO.bind ?_ (fun _ => ?_))
   | exact ih0 _ _ _ _ _ _
   | exact tmesisref01_Take.mono _ _
   | exact tmesisref02_Of.mono _ _
   | exact tmesisref02_Run.mono _ _ _
   | exact tmesisref03_Take.mono _ _
   | exact tmesisref04_Take.mono _ _
   | exact tmesisref06_ends.mono _ _
   | exact tmesisref06_name.mono _ _
   | exact LeO.none _
   | refine LeO.ite ?_ ?_
   | refine LeO.bind ?_ (fun _ => ?_)
theorem tmesisref06_first.mono : ∀ a0 k, LeO (tmesisref06_first.f k a0) (tmesisref06_first.f (k + 1) a0) := by
 intro a0 k
 have ih0 := tmesisref06_first.mono_l k
 unfold tmesisref06_first.f
 repeat' first
   | (with_reducible exact ih0 _ _ _ _ _ _)
   | (with_reducible exact tmesisref01_Take.mono _ _)
   | (with_reducible exact tmesisref02_Of.mono _ _)
   | (with_reducible exact tmesisref02_Run.mono _ _ _)
   | (with_reducible exact tmesisref03_Take.mono _ _)
   | (with_reducible exact tmesisref04_Take.mono _ _)
   | (with_reducible exact tmesisref06_ends.mono _ _)
   | (with_reducible exact tmesisref06_name.mono _ _)
   | (with_reducible exact LeO.refl _)
   | (with_reducible exact LeO.none _)
   | (with_reducible refine LeO.ite ?_ ?_)
   | (with_reducible refine LeO.bind ?_ (fun _ => ?_))
   | exact ih0 _ _ _ _ _ _
   | exact tmesisref01_Take.mono _ _
   | exact tmesisref02_Of.mono _ _
   | exact tmesisref02_Run.mono _ _ _
   | exact tmesisref03_Take.mono _ _
   | exact tmesisref04_Take.mono _ _
   | exact tmesisref06_ends.mono _ _
   | exact tmesisref06_name.mono _ _
   | exact LeO.none _
   | refine LeO.ite ?_ ?_
   | refine LeO.bind ?_ (fun _ => ?_)
set_option maxHeartbeats 8000000 in
set_option maxRecDepth 100000 in
theorem tmesisref06_first.calls (k : Nat) (A0 : Option Addr) (c0 : Nat) (l0 : List Int) (r1 : Int) (r2 : Int) (r3 : Int) (r4 : ByteArray) (r5 : Int) (w : World) (hr0 : Kd.C (Kd.int .u8) w A0 l0.length l0) (hc0 : l0.length ≤ c0) (h : tmesisref06_first.f k l0 = some (r1, r2, r3, r4, r5)) :
  Calls Tryd.prog 18 #[.slice A0 l0.length c0] w fun e w' => e = .returned (.agg #[.int .i64 r1, .int .i64 r2, .int .i64 r3, .string r4, .int .i64 r5]) ∧ Below w.heap.size w w' := by
 have hu27 := Tryd.underlying27
 have HR0 := Aside0.mk hr0
 have HC0 := Aside0.mk hc0
 clear hr0 hc0
 have HB := Aside0.mk (Below.refl w.heap.size w)
 have H : (if 0 < (l0.length : Int) then ((tmesisref02_Of.f k (rd l0 0)).bind fun t260 => ((tmesisref01_Take.f k l0).bind fun bt261 => (if t260 = 2 then (tmesisref06_first.j0 k l0 t260 bt261.1 bt261.2 t260 (t260 == 2)) else (tmesisref06_first.j0 k l0 t260 bt261.1 bt261.2 t260 (t260 == 3))))) else (none)) = some (r1, r2, r3, r4, r5) := h
 clear h
 by_cases c2 : 0 < (l0.length : Int)
 ·rw [if_pos c2] at H
  have c2b0 : decide (0 < (l0.length : Int)) = true := decide_eq_true c2
  have c2b1 : decide (0 < l0.length) = true := decide_eq_true (by omega)
  clear c2
  replace H := Option.bind_eq_some_iff.mp H
  obtain ⟨t260, A30, H⟩ := H
  replace H : ((tmesisref01_Take.f k l0).bind fun bt261 => (if t260 = 2 then (tmesisref06_first.j0 k l0 t260 bt261.1 bt261.2 t260 (t260 == 2)) else (tmesisref06_first.j0 k l0 t260 bt261.1 bt261.2 t260 (t260 == 3)))) = some (r1, r2, r3, r4, r5) := H
  have A3 := Aside0.mk A30
  clear A30
  replace H := Option.bind_eq_some_iff.mp H
  obtain ⟨⟨t261, t262⟩, A40, H⟩ := H
  replace H : (if t260 = 2 then (tmesisref06_first.j0 k l0 t260 t261 t262 t260 (t260 == 2)) else (tmesisref06_first.j0 k l0 t260 t261 t262 t260 (t260 == 3))) = some (r1, r2, r3, r4, r5) := H
  have A4 := Aside0.mk A40
  clear A40
  have HC5 := Aside0.mk H
  clear H
  go_enter Tryd.func18, Tryd.ntmps18
  go_upto_if 26 with (first | ((with_reducible refine gate_dst (N := 2) rfl ?_); refine box_event ?hg (N := 2) ?hd (cs := #[.int .i64 0, .int .i64 0, .int .i64 0, .string (⟨#[]⟩ : ByteArray), .int .i64 0]) (t := 27) ?hr ?_; (case hd => rfl); (case hg => rfl); (case hr => first | (go_simp; done) | (go_simp; rfl)); intro gb258 hg w6 hbox hb; have n0_ := Aside0.mk (below_step (by repeat (first | (with_reducible first | exact HB.out | apply below_alloc | apply pw_below_drewN | apply below_drew1) | exact HB.out)) hb); have n1_ := Aside0.mk (hbox); have n2_ := Aside0.mk ((by rw [hg]; exact (below_size (by repeat (first | (with_reducible first | exact HB.out | apply below_alloc | apply pw_below_drewN | apply below_drew1) | exact HB.out))) : w.heap.size ≤ gb258)); have n3_ := Aside0.mk ((by rw [hg]; exact (below_size (by repeat (first | (with_reducible first | exact HB.out | apply below_alloc | apply pw_below_drewN | apply below_drew1) | exact HB.out))) : w.heap.size ≤ gb258)); clear HB; have HB := n0_; have BK258 := n1_; have GW258 := n2_; have GE258 := n3_; clear n0_ n1_ n2_ n3_; clear hb hbox hg; have p259 : 0 ≤ (0 : Int) := (by omega); have q259 : 0 < (l0.length : Int) := of_decide_eq_true (by first | (with_reducible assumption) | assumption); obtain ⟨ad259, e259, hx259_0⟩ := Kd.at_int HR0.out 0 p259 q259; cases e259; have qi259 : (0 < l0.length) = True := eq_true (by omega); (try rw [show ((0 : Int)).toNat = 0 from rfl] at hx259_0); (try rw [Addr.add_zero'] at hx259_0); replace hx259_0 := (HB.out.cell (World.block_lt_of_cell? w _ hx259_0)).trans hx259_0; replace p259 := eq_true p259; replace q259 := eq_true q259) | ((with_reducible refine gate_callee (f := 29) rfl ?_); refine goesL_ (some 19) rfl rfl Tryd.func29 (by kernel_rfl) rfl #[.int .u8 (rd l0 0)] rfl (by (try simp only [List.map_toArray, List.map_cons, List.map_nil]); first | done | rfl | (simp only [List.length_drop, List.length_take]; rfl)) ?_; (with_reducible refine (tmesisref02_Of.calls k (rd l0 0) t260 _ A3.out).mono ?_); rintro e w' ⟨rfl, ⟨nd, rfl⟩⟩; refine ⟨_, rfl, ?_⟩) | ((with_reducible refine gate_callee (f := 32) rfl ?_); refine goesL_ (some 22) rfl rfl Tryd.func32 (by kernel_rfl) rfl #[.slice (some ad259) l0.length c0] rfl (by (try simp only [List.map_toArray, List.map_cons, List.map_nil]); first | done | rfl | (simp only [List.length_drop, List.length_take]; rfl)) ?_; (with_reducible refine (tmesisref01_Take.calls k _ _ l0 t261 t262 _ ?side1 ?side2 A4.out).mono ?_); (case side1 => repeat (first | exact (Kd.C_below HR0.out (by repeat (first | (with_reducible first | exact HB.out | apply below_alloc | apply pw_below_drewN | apply below_drew1 | refine below_set ?_ GE258.out) | exact HB.out))) | (with_reducible refine Kd.C_alloc ?_ _) | (with_reducible refine Kd.C_drewN ?_ _) | (with_reducible refine Kd.C_drew ?_))); (case side2 => exact HC0.out); rintro e w' ⟨rfl, ⟨nd, rfl⟩⟩; refine ⟨_, rfl, ?_⟩))
  (try simp only [Act.put, List.setIfInBounds_toArray, List.set_cons_zero, List.set_cons_succ])
  go_cut [26] (fun v26 wc => ∃ (kq : Nat) (x26_4 : Bool), v26 = .bool x26_4 ∧ Aside0 (tmesisref06_first.j0 kq l0 t260 t261 t262 t260 x26_4 = some (r1, r2, r3, r4, r5)) ∧ Aside0 (kq ≤ k) ∧ Aside0 (wc.heap[gb258]? = some (.cells #[.int .i64 0, .int .i64 0, .int .i64 0, .string (⟨#[]⟩ : ByteArray), .int .i64 0] 27 (0, 0))) ∧ Aside0 (Below w.heap.size w wc))
  case first =>
   have H := HC5.out
   clear HC5
   by_cases c7 : t260 = 2
   ·rw [if_pos c7] at H
    have c7b0 : (t260 == 2) = true := beq_iff_eq.mpr c7
    have c7b1 : (t260 != 2) = false := bne_eq_false_iff_eq.mpr c7
    clear c7
    (first | rw [c7b0] | (simp only [i64_w, i32_w]; rw [c7b0]) | skip)
    have H' := Aside0.mk H
    clear H
    go_wp2
    go_meet
    case rel => exact ⟨_, ((t260 == 2)), (by first | rfl | (simp; done) | (simp [*]; done)), H', ⟨by first | omega | exact Nat.le_refl _⟩, ⟨by (with_reducible repeat (first | refine blk_drewN ?_ _ | refine blk_drew ?_ | refine blk_alloc ?_ _)); exact BK258.out⟩, ⟨by repeat (first | (with_reducible first | exact HB.out | apply below_alloc | apply pw_below_drewN | apply below_drew1 | refine below_set ?_ GE258.out) | exact HB.out)⟩⟩
   ·rw [if_neg c7] at H
    have c7b0 : (t260 == 2) = false := beq_eq_false_iff_ne.mpr c7
    have c7b1 : (t260 != 2) = true := bne_iff_ne.mpr c7
    (first | rw [c7b0] | (simp only [i64_w, i32_w]; rw [c7b0]) | skip)
    have H' := Aside0.mk H
    clear H
    go_wp2
    go_meet
    case rel => exact ⟨_, ((t260 == 3)), (by first | rfl | (simp; done) | (simp [*]; done)), H', ⟨by first | omega | exact Nat.le_refl _⟩, ⟨by (with_reducible repeat (first | refine blk_drewN ?_ _ | refine blk_drew ?_ | refine blk_alloc ?_ _)); exact BK258.out⟩, ⟨by repeat (first | (with_reducible first | exact HB.out | apply below_alloc | apply pw_below_drewN | apply below_drew1 | refine below_set ?_ GE258.out) | exact HB.out)⟩⟩
  case rest =>
   clear HC5
   try clear c1
   try clear c2
   try clear c2b0
   try clear c2b1
   try clear p2
   try clear q2
   try clear hx2
   try clear qi2
   try clear c3
   try clear c7
   try clear c7b0
   try clear c7b1
   try clear hx259_0
   try clear p259
   try clear q259
   obtain ⟨kq, x26_4, rfl, HA, HJ4, BK258, HB⟩ := hcut
   cases kq with
   | zero => exact absurd HA.out (by simp [tmesisref06_first.j0])
   | succ kj4 =>
    have H := HA.out
    clear HA
    simp only [tmesisref06_first.j0] at H
    by_cases c8 : x26_4 = true
    ·subst c8
     have H1 : ((tmesisref06_name.f kj4 l0).bind fun t263 => (if t260 = 3 then (if 0 ≤ t263 then (if t263 ≤ (l0.length : Int) then (some (3, 0, t263, strOfNums (l0.take (t263 : Int).toNat), 0)) else (none)) else (none)) else (if 0 ≤ t263 then (if t263 ≤ (l0.length : Int) then (some (1, 0, t263, strOfNums (l0.take (t263 : Int).toNat), 0)) else (none)) else (none)))) = some (r1, r2, r3, r4, r5) := by rw [if_pos rfl] at H; exact H
     clear H
     have H := H1
     clear H1
     replace H := Option.bind_eq_some_iff.mp H
     obtain ⟨t263, A90, H⟩ := H
     replace H : (if t260 = 3 then (if 0 ≤ t263 then (if t263 ≤ (l0.length : Int) then (some (3, 0, t263, strOfNums (l0.take (t263 : Int).toNat), 0)) else (none)) else (none)) else (if 0 ≤ t263 then (if t263 ≤ (l0.length : Int) then (some (1, 0, t263, strOfNums (l0.take (t263 : Int).toNat), 0)) else (none)) else (none))) = some (r1, r2, r3, r4, r5) := H
     have A9 := Aside0.mk A90
     clear A90
     by_cases c10 : t260 = 3
     ·rw [if_pos c10] at H
      have c10b0 : (t260 == 3) = true := beq_iff_eq.mpr c10
      have c10b1 : (t260 != 3) = false := bne_eq_false_iff_eq.mpr c10
      clear c10
      by_cases c11 : 0 ≤ t263
      ·rw [if_pos c11] at H
       have c11b0 := eq_true c11
       have c11b1 : decide (0 ≤ t263) = true := decide_eq_true c11
       clear c11
       by_cases c12 : t263 ≤ (l0.length : Int)
       ·rw [if_pos c12] at H
        have c12b0 := eq_true c12
        have c12b1 : decide (t263 ≤ (l0.length : Int)) = true := decide_eq_true c12
        clear c12
        simp only [Option.some.injEq, Prod.mk.injEq] at H
        obtain ⟨rfl, rfl, rfl, rfl, rfl⟩ := H
        go_wp2_with (first | ((with_reducible refine gate_callee (f := 33) rfl ?_); refine goesL_ (some 30) rfl rfl Tryd.func33 (by kernel_rfl) rfl #[.slice (some ad259) l0.length c0] rfl (by (try simp only [List.map_toArray, List.map_cons, List.map_nil]); first | done | rfl | (simp only [List.length_drop, List.length_take]; rfl)) ?_; (with_reducible refine (tmesisref06_name.calls kj4 _ _ l0 t263 _ ?side1 ?side2 A9.out).mono ?_); (case side1 => repeat (first | exact (Kd.C_below HR0.out HB.out) | (with_reducible refine Kd.C_alloc ?_ _) | (with_reducible refine Kd.C_drewN ?_ _) | (with_reducible refine Kd.C_drew ?_))); (case side2 => exact HC0.out); rintro e w' ⟨rfl, ⟨nd, rfl⟩⟩; refine ⟨_, rfl, ?_⟩; (try (rw [drewN_self wc]; generalize hq_ : World.drewN wc _ = wc; have n0_ : Aside0 (wc.heap[gb258]? = some (.cells #[.int .i64 0, .int .i64 0, .int .i64 0, .string (⟨#[]⟩ : ByteArray), .int .i64 0] 27 (0, 0))) := ⟨by rw [← hq_]; exact (by (with_reducible repeat (first | refine blk_drewN ?_ _ | refine blk_drew ?_ | refine blk_alloc ?_ _)); exact BK258.out)⟩; have n1_ : Aside0 (Below w.heap.size w wc) := ⟨by rw [← hq_]; exact (by repeat (first | (with_reducible first | exact HB.out | apply below_alloc | apply pw_below_drewN | apply below_drew1 | refine below_set ?_ GE258.out) | exact HB.out))⟩; clear BK258 HB hq_; have BK258 := n0_; have HB := n1_; clear n0_ n1_)); obtain ⟨i013, hi013, _, hsz13, _⟩ := info_parts info5; obtain ⟨hcut13, hA13, hC13⟩ := print_take_of (P := Tryd.prog) (Value.int .u8) 0 22 5 .i64 Tryd.underlying22 hi013 hsz13 (some ad259) c0 l0 t263 (of_decide_eq_true (by first | (with_reducible assumption) | assumption)) (of_decide_eq_true (by first | (with_reducible assumption) | assumption)) HC0.out; have HR264 := Aside0.mk (Kd.C_of_reads (h1 := fun _ => rfl) (hA13 _ (Kd.reads_of_C HR0.out))); have HC264 := Aside0.mk hC13; clear hA13 hC13 hi013 hsz13; have hcv14 := Kd.C_string (P := Tryd.prog) (A := (some ad259)) (c := c0) Tryd.underlying22 Tryd.underlying5 Tryd.underlying9 (Kd.C_below HR264.out HB.out); have hcv14z := hcv14; (try rw [List.length_drop, List.length_take, Nat.min_eq_left (Int.toNat_le.mpr (of_decide_eq_true (by first | (with_reducible assumption) | assumption)))] at hcv14z); have hcv14y := hcv14; (try rw [List.length_take, Nat.min_eq_left (Int.toNat_le.mpr (of_decide_eq_true (by first | (with_reducible assumption) | assumption)))] at hcv14y); have hcv14x := hcv14; (try rw [List.length_take, Nat.min_eq_left (by have h_ := of_decide_eq_true (by assumption); omega)] at hcv14x); have hcv14m := hcv14; (try simp only [Int.reduceToNat, List.length_take] at hcv14m); have hcv14q := fun (q_ : Nat) => Kd.C_string (P := Tryd.prog) (A := (some ad259)) (c := c0) Tryd.underlying22 Tryd.underlying5 Tryd.underlying9 (Kd.C_drewN (Kd.C_below HR264.out HB.out) q_); have hcv14qy := hcv14q; (try simp only [List.length_take, Nat.min_eq_left (Int.toNat_le.mpr (of_decide_eq_true (by first | (with_reducible assumption) | assumption)))] at hcv14qy); have hcv14qw := hcv14q; (try simp only [Int.reduceToNat] at hcv14qw); have hcv14qv := hcv14qy; (try simp only [Int.reduceToNat] at hcv14qv); have hcv14qu := hcv14q; (try simp only [Int.reduceToNat, List.length_take] at hcv14qu); have hcz15_0 : wc.cell? ⟨gb258, 0, none⟩ = some (.int .i64 0) := (blk_cell BK258.out 0).trans rfl; have hcz15_1 : wc.cell? ⟨gb258, 1, none⟩ = some (.int .i64 0) := (blk_cell BK258.out 1).trans rfl; have hcz15_2 : wc.cell? ⟨gb258, 2, none⟩ = some (.int .i64 0) := (blk_cell BK258.out 2).trans rfl; have hcz15_3 : wc.cell? ⟨gb258, 3, none⟩ = some (.string (⟨#[]⟩ : ByteArray)) := (blk_cell BK258.out 3).trans rfl; have hcz15_4 : wc.cell? ⟨gb258, 4, none⟩ = some (.int .i64 0) := (blk_cell BK258.out 4).trans rfl; have hfz15_0 := blk_frozen BK258.out 0; have hfz15_1 := blk_frozen BK258.out 1; have hfz15_2 := blk_frozen BK258.out 2; have hfz15_3 := blk_frozen BK258.out 3; have hfz15_4 := blk_frozen BK258.out 4))
        refine bodyPost_ret (results_cell_row rfl _ _ gb258 27 #[.int .i64 3, .int .i64 0, .int .i64 t263, .string (strOfNums (l0.take (t263 : Int).toNat)), .int .i64 0] (0, 0) _ rfl (by (with_reducible repeat (first | refine blk_drewN ?_ _ | refine blk_drew ?_ | refine blk_alloc ?_ _)); refine blk_put (cs := #[.int .i64 3, .int .i64 0, .int .i64 t263, .string (strOfNums (l0.take (t263 : Int).toNat)), .int .i64 0]) ?_ 4 _ rfl; (with_reducible repeat (first | refine blk_drewN ?_ _ | refine blk_drew ?_ | refine blk_alloc ?_ _)); refine blk_put (cs := #[.int .i64 3, .int .i64 0, .int .i64 t263, .string (⟨#[]⟩ : ByteArray), .int .i64 0]) ?_ 3 _ rfl; (with_reducible repeat (first | refine blk_drewN ?_ _ | refine blk_drew ?_ | refine blk_alloc ?_ _)); refine blk_put (cs := #[.int .i64 3, .int .i64 0, .int .i64 0, .string (⟨#[]⟩ : ByteArray), .int .i64 0]) ?_ 2 _ rfl; (with_reducible repeat (first | refine blk_drewN ?_ _ | refine blk_drew ?_ | refine blk_alloc ?_ _)); refine blk_put (cs := #[.int .i64 3, .int .i64 0, .int .i64 0, .string (⟨#[]⟩ : ByteArray), .int .i64 0]) ?_ 1 _ rfl; (with_reducible repeat (first | refine blk_drewN ?_ _ | refine blk_drew ?_ | refine blk_alloc ?_ _)); refine blk_put (cs := #[.int .i64 0, .int .i64 0, .int .i64 0, .string (⟨#[]⟩ : ByteArray), .int .i64 0]) ?_ 0 _ rfl; (with_reducible repeat (first | refine blk_drewN ?_ _ | refine blk_drew ?_ | refine blk_alloc ?_ _)); exact BK258.out) Tryd.underlying27 rfl (by kernel_rfl)) rfl ?_
        exact ⟨by first | rfl | (simp [errW_none, errW_some] <;> rfl) | (simp [*, errW_none, errW_some] <;> rfl), by repeat (first | (with_reducible first | exact HB.out | apply below_alloc | apply pw_below_drewN | apply below_drew1 | refine below_set ?_ GE258.out) | exact HB.out)⟩
       ·rw [if_neg c12] at H
        exact absurd H (by simp)
      ·rw [if_neg c11] at H
       exact absurd H (by simp)
     ·rw [if_neg c10] at H
      have c10b0 : (t260 == 3) = false := beq_eq_false_iff_ne.mpr c10
      have c10b1 : (t260 != 3) = true := bne_iff_ne.mpr c10
      by_cases c16 : 0 ≤ t263
      ·rw [if_pos c16] at H
       have c16b0 := eq_true c16
       have c16b1 : decide (0 ≤ t263) = true := decide_eq_true c16
       clear c16
       by_cases c17 : t263 ≤ (l0.length : Int)
       ·rw [if_pos c17] at H
        have c17b0 := eq_true c17
        have c17b1 : decide (t263 ≤ (l0.length : Int)) = true := decide_eq_true c17
        clear c17
        simp only [Option.some.injEq, Prod.mk.injEq] at H
        obtain ⟨rfl, rfl, rfl, rfl, rfl⟩ := H
        go_wp2_with (first | ((with_reducible refine gate_callee (f := 33) rfl ?_); refine goesL_ (some 30) rfl rfl Tryd.func33 (by kernel_rfl) rfl #[.slice (some ad259) l0.length c0] rfl (by (try simp only [List.map_toArray, List.map_cons, List.map_nil]); first | done | rfl | (simp only [List.length_drop, List.length_take]; rfl)) ?_; (with_reducible refine (tmesisref06_name.calls kj4 _ _ l0 t263 _ ?side1 ?side2 A9.out).mono ?_); (case side1 => repeat (first | exact (Kd.C_below HR0.out HB.out) | (with_reducible refine Kd.C_alloc ?_ _) | (with_reducible refine Kd.C_drewN ?_ _) | (with_reducible refine Kd.C_drew ?_))); (case side2 => exact HC0.out); rintro e w' ⟨rfl, ⟨nd, rfl⟩⟩; refine ⟨_, rfl, ?_⟩; (try (rw [drewN_self wc]; generalize hq_ : World.drewN wc _ = wc; have n0_ : Aside0 (wc.heap[gb258]? = some (.cells #[.int .i64 0, .int .i64 0, .int .i64 0, .string (⟨#[]⟩ : ByteArray), .int .i64 0] 27 (0, 0))) := ⟨by rw [← hq_]; exact (by (with_reducible repeat (first | refine blk_drewN ?_ _ | refine blk_drew ?_ | refine blk_alloc ?_ _)); exact BK258.out)⟩; have n1_ : Aside0 (Below w.heap.size w wc) := ⟨by rw [← hq_]; exact (by repeat (first | (with_reducible first | exact HB.out | apply below_alloc | apply pw_below_drewN | apply below_drew1 | refine below_set ?_ GE258.out) | exact HB.out))⟩; clear BK258 HB hq_; have BK258 := n0_; have HB := n1_; clear n0_ n1_)); obtain ⟨i018, hi018, _, hsz18, _⟩ := info_parts info5; obtain ⟨hcut18, hA18, hC18⟩ := print_take_of (P := Tryd.prog) (Value.int .u8) 0 22 5 .i64 Tryd.underlying22 hi018 hsz18 (some ad259) c0 l0 t263 (of_decide_eq_true (by first | (with_reducible assumption) | assumption)) (of_decide_eq_true (by first | (with_reducible assumption) | assumption)) HC0.out; have HR265 := Aside0.mk (Kd.C_of_reads (h1 := fun _ => rfl) (hA18 _ (Kd.reads_of_C HR0.out))); have HC265 := Aside0.mk hC18; clear hA18 hC18 hi018 hsz18; have hcv19 := Kd.C_string (P := Tryd.prog) (A := (some ad259)) (c := c0) Tryd.underlying22 Tryd.underlying5 Tryd.underlying9 (Kd.C_below HR265.out HB.out); have hcv19z := hcv19; (try rw [List.length_drop, List.length_take, Nat.min_eq_left (Int.toNat_le.mpr (of_decide_eq_true (by first | (with_reducible assumption) | assumption)))] at hcv19z); have hcv19y := hcv19; (try rw [List.length_take, Nat.min_eq_left (Int.toNat_le.mpr (of_decide_eq_true (by first | (with_reducible assumption) | assumption)))] at hcv19y); have hcv19x := hcv19; (try rw [List.length_take, Nat.min_eq_left (by have h_ := of_decide_eq_true (by assumption); omega)] at hcv19x); have hcv19m := hcv19; (try simp only [Int.reduceToNat, List.length_take] at hcv19m); have hcv19q := fun (q_ : Nat) => Kd.C_string (P := Tryd.prog) (A := (some ad259)) (c := c0) Tryd.underlying22 Tryd.underlying5 Tryd.underlying9 (Kd.C_drewN (Kd.C_below HR265.out HB.out) q_); have hcv19qy := hcv19q; (try simp only [List.length_take, Nat.min_eq_left (Int.toNat_le.mpr (of_decide_eq_true (by first | (with_reducible assumption) | assumption)))] at hcv19qy); have hcv19qw := hcv19q; (try simp only [Int.reduceToNat] at hcv19qw); have hcv19qv := hcv19qy; (try simp only [Int.reduceToNat] at hcv19qv); have hcv19qu := hcv19q; (try simp only [Int.reduceToNat, List.length_take] at hcv19qu); have hcz20_0 : wc.cell? ⟨gb258, 0, none⟩ = some (.int .i64 0) := (blk_cell BK258.out 0).trans rfl; have hcz20_1 : wc.cell? ⟨gb258, 1, none⟩ = some (.int .i64 0) := (blk_cell BK258.out 1).trans rfl; have hcz20_2 : wc.cell? ⟨gb258, 2, none⟩ = some (.int .i64 0) := (blk_cell BK258.out 2).trans rfl; have hcz20_3 : wc.cell? ⟨gb258, 3, none⟩ = some (.string (⟨#[]⟩ : ByteArray)) := (blk_cell BK258.out 3).trans rfl; have hcz20_4 : wc.cell? ⟨gb258, 4, none⟩ = some (.int .i64 0) := (blk_cell BK258.out 4).trans rfl; have hfz20_0 := blk_frozen BK258.out 0; have hfz20_1 := blk_frozen BK258.out 1; have hfz20_2 := blk_frozen BK258.out 2; have hfz20_3 := blk_frozen BK258.out 3; have hfz20_4 := blk_frozen BK258.out 4))
        refine bodyPost_ret (results_cell_row rfl _ _ gb258 27 #[.int .i64 1, .int .i64 0, .int .i64 t263, .string (strOfNums (l0.take (t263 : Int).toNat)), .int .i64 0] (0, 0) _ rfl (by (with_reducible repeat (first | refine blk_drewN ?_ _ | refine blk_drew ?_ | refine blk_alloc ?_ _)); refine blk_put (cs := #[.int .i64 1, .int .i64 0, .int .i64 t263, .string (strOfNums (l0.take (t263 : Int).toNat)), .int .i64 0]) ?_ 4 _ rfl; (with_reducible repeat (first | refine blk_drewN ?_ _ | refine blk_drew ?_ | refine blk_alloc ?_ _)); refine blk_put (cs := #[.int .i64 1, .int .i64 0, .int .i64 t263, .string (⟨#[]⟩ : ByteArray), .int .i64 0]) ?_ 3 _ rfl; (with_reducible repeat (first | refine blk_drewN ?_ _ | refine blk_drew ?_ | refine blk_alloc ?_ _)); refine blk_put (cs := #[.int .i64 1, .int .i64 0, .int .i64 0, .string (⟨#[]⟩ : ByteArray), .int .i64 0]) ?_ 2 _ rfl; (with_reducible repeat (first | refine blk_drewN ?_ _ | refine blk_drew ?_ | refine blk_alloc ?_ _)); refine blk_put (cs := #[.int .i64 1, .int .i64 0, .int .i64 0, .string (⟨#[]⟩ : ByteArray), .int .i64 0]) ?_ 1 _ rfl; (with_reducible repeat (first | refine blk_drewN ?_ _ | refine blk_drew ?_ | refine blk_alloc ?_ _)); refine blk_put (cs := #[.int .i64 0, .int .i64 0, .int .i64 0, .string (⟨#[]⟩ : ByteArray), .int .i64 0]) ?_ 0 _ rfl; (with_reducible repeat (first | refine blk_drewN ?_ _ | refine blk_drew ?_ | refine blk_alloc ?_ _)); exact BK258.out) Tryd.underlying27 rfl (by kernel_rfl)) rfl ?_
        exact ⟨by first | rfl | (simp [errW_none, errW_some] <;> rfl) | (simp [*, errW_none, errW_some] <;> rfl), by repeat (first | (with_reducible first | exact HB.out | apply below_alloc | apply pw_below_drewN | apply below_drew1 | refine below_set ?_ GE258.out) | exact HB.out)⟩
       ·rw [if_neg c17] at H
        exact absurd H (by simp)
      ·rw [if_neg c16] at H
       exact absurd H (by simp)
    ·replace c8 := Bool.eq_false_iff.mpr c8
     subst c8
     have H1 : (if t260 = 9 then (if t262 = true then (if t261 > 1 then ((tmesisref06_name.f kj4 l0).bind fun t266 => (if 0 ≤ t266 then (if t266 ≤ (l0.length : Int) then (some (1, 0, t266, strOfNums (l0.take (t266 : Int).toNat), 0)) else (none)) else (none))) else (some (8, 0, 1, (⟨#[]⟩ : ByteArray), 10))) else (some (8, 0, 1, (⟨#[]⟩ : ByteArray), 10))) else (if t260 = 5 then ((tmesisref02_Run.f kj4 l0 5).bind fun t268 => (if t268 = 1 then (if 0 < (l0.length : Int) then (if (rd l0 0) = 46 then ((tmesisref06_ends.f kj4 l0).bind fun t270 => (if t270 = true then (if 0 ≤ t268 then (if t268 ≤ (l0.length : Int) then (some (7, 0, t268, strOfNums (l0.take (t268 : Int).toNat), 0)) else (none)) else (none)) else (if 0 ≤ t268 then (if t268 ≤ (l0.length : Int) then (some (2, 0, t268, strOfNums (l0.take (t268 : Int).toNat), 0)) else (none)) else (none)))) else (if 0 ≤ t268 then (if t268 ≤ (l0.length : Int) then (some (2, 0, t268, strOfNums (l0.take (t268 : Int).toNat), 0)) else (none)) else (none))) else (none)) else (if 0 ≤ t268 then (if t268 ≤ (l0.length : Int) then (some (2, 0, t268, strOfNums (l0.take (t268 : Int).toNat), 0)) else (none)) else (none)))) else (if t260 = 4 then ((tmesisref03_Take.f kj4 l0).bind fun bt275 => (if bt275.2.2 = 0 then (if 0 ≤ bt275.2.1 then (if bt275.2.1 ≤ (l0.length : Int) then (some (4, 0, bt275.2.1, strOfNums (l0.take (bt275.2.1 : Int).toNat), 0)) else (none)) else (none)) else (some (8, 0, bt275.2.1, (⟨#[]⟩ : ByteArray), bt275.2.2)))) else (if t260 = 7 then ((tmesisref04_Take.f kj4 l0).bind fun bt279 => (if bt279.2.2 = 0 then (some (5, 0, bt279.2.1, strOfNums bt279.1, 0)) else (some (8, 0, bt279.2.1, (⟨#[]⟩ : ByteArray), bt279.2.2)))) else (if t260 = 6 then (if 1 ≤ (l0.length : Int) then (some (6, 0, 1, strOfNums (l0.take 1), 0)) else (none)) else (some (8, 0, 1, (⟨#[]⟩ : ByteArray), 11))))))) = some (r1, r2, r3, r4, r5) := by rw [if_neg (show ¬ (false = true) by decide)] at H; exact H
     clear H
     have H := H1
     clear H1
     by_cases c21 : t260 = 9
     ·rw [if_pos c21] at H
      have c21b0 : (t260 == 9) = true := beq_iff_eq.mpr c21
      have c21b1 : (t260 != 9) = false := bne_eq_false_iff_eq.mpr c21
      clear c21
      by_cases c22 : t262 = true
      ·subst c22
       have H1 : (if t261 > 1 then ((tmesisref06_name.f kj4 l0).bind fun t266 => (if 0 ≤ t266 then (if t266 ≤ (l0.length : Int) then (some (1, 0, t266, strOfNums (l0.take (t266 : Int).toNat), 0)) else (none)) else (none))) else (some (8, 0, 1, (⟨#[]⟩ : ByteArray), 10))) = some (r1, r2, r3, r4, r5) := by rw [if_pos rfl] at H; exact H
       clear H
       have H := H1
       clear H1
       by_cases c23 : t261 > 1
       ·rw [if_pos c23] at H
        have c23b0 : decide (1 < t261) = true := decide_eq_true c23
        clear c23
        replace H := Option.bind_eq_some_iff.mp H
        obtain ⟨t266, A240, H⟩ := H
        replace H : (if 0 ≤ t266 then (if t266 ≤ (l0.length : Int) then (some (1, 0, t266, strOfNums (l0.take (t266 : Int).toNat), 0)) else (none)) else (none)) = some (r1, r2, r3, r4, r5) := H
        have A24 := Aside0.mk A240
        clear A240
        by_cases c25 : 0 ≤ t266
        ·rw [if_pos c25] at H
         have c25b0 := eq_true c25
         have c25b1 : decide (0 ≤ t266) = true := decide_eq_true c25
         clear c25
         by_cases c26 : t266 ≤ (l0.length : Int)
         ·rw [if_pos c26] at H
          have c26b0 := eq_true c26
          have c26b1 : decide (t266 ≤ (l0.length : Int)) = true := decide_eq_true c26
          clear c26
          simp only [Option.some.injEq, Prod.mk.injEq] at H
          obtain ⟨rfl, rfl, rfl, rfl, rfl⟩ := H
          go_wp2_with (first | ((with_reducible refine gate_callee (f := 33) rfl ?_); refine goesL_ (some 53) rfl rfl Tryd.func33 (by kernel_rfl) rfl #[.slice (some ad259) l0.length c0] rfl (by (try simp only [List.map_toArray, List.map_cons, List.map_nil]); first | done | rfl | (simp only [List.length_drop, List.length_take]; rfl)) ?_; (with_reducible refine (tmesisref06_name.calls kj4 _ _ l0 t266 _ ?side1 ?side2 A24.out).mono ?_); (case side1 => repeat (first | exact (Kd.C_below HR0.out HB.out) | (with_reducible refine Kd.C_alloc ?_ _) | (with_reducible refine Kd.C_drewN ?_ _) | (with_reducible refine Kd.C_drew ?_))); (case side2 => exact HC0.out); rintro e w' ⟨rfl, ⟨nd, rfl⟩⟩; refine ⟨_, rfl, ?_⟩; (try (rw [drewN_self wc]; generalize hq_ : World.drewN wc _ = wc; have n0_ : Aside0 (wc.heap[gb258]? = some (.cells #[.int .i64 0, .int .i64 0, .int .i64 0, .string (⟨#[]⟩ : ByteArray), .int .i64 0] 27 (0, 0))) := ⟨by rw [← hq_]; exact (by (with_reducible repeat (first | refine blk_drewN ?_ _ | refine blk_drew ?_ | refine blk_alloc ?_ _)); exact BK258.out)⟩; have n1_ : Aside0 (Below w.heap.size w wc) := ⟨by rw [← hq_]; exact (by repeat (first | (with_reducible first | exact HB.out | apply below_alloc | apply pw_below_drewN | apply below_drew1 | refine below_set ?_ GE258.out) | exact HB.out))⟩; clear BK258 HB hq_; have BK258 := n0_; have HB := n1_; clear n0_ n1_)); obtain ⟨i027, hi027, _, hsz27, _⟩ := info_parts info5; obtain ⟨hcut27, hA27, hC27⟩ := print_take_of (P := Tryd.prog) (Value.int .u8) 0 22 5 .i64 Tryd.underlying22 hi027 hsz27 (some ad259) c0 l0 t266 (of_decide_eq_true (by first | (with_reducible assumption) | assumption)) (of_decide_eq_true (by first | (with_reducible assumption) | assumption)) HC0.out; have HR267 := Aside0.mk (Kd.C_of_reads (h1 := fun _ => rfl) (hA27 _ (Kd.reads_of_C HR0.out))); have HC267 := Aside0.mk hC27; clear hA27 hC27 hi027 hsz27; have hcv28 := Kd.C_string (P := Tryd.prog) (A := (some ad259)) (c := c0) Tryd.underlying22 Tryd.underlying5 Tryd.underlying9 (Kd.C_below HR267.out HB.out); have hcv28z := hcv28; (try rw [List.length_drop, List.length_take, Nat.min_eq_left (Int.toNat_le.mpr (of_decide_eq_true (by first | (with_reducible assumption) | assumption)))] at hcv28z); have hcv28y := hcv28; (try rw [List.length_take, Nat.min_eq_left (Int.toNat_le.mpr (of_decide_eq_true (by first | (with_reducible assumption) | assumption)))] at hcv28y); have hcv28x := hcv28; (try rw [List.length_take, Nat.min_eq_left (by have h_ := of_decide_eq_true (by assumption); omega)] at hcv28x); have hcv28m := hcv28; (try simp only [Int.reduceToNat, List.length_take] at hcv28m); have hcv28q := fun (q_ : Nat) => Kd.C_string (P := Tryd.prog) (A := (some ad259)) (c := c0) Tryd.underlying22 Tryd.underlying5 Tryd.underlying9 (Kd.C_drewN (Kd.C_below HR267.out HB.out) q_); have hcv28qy := hcv28q; (try simp only [List.length_take, Nat.min_eq_left (Int.toNat_le.mpr (of_decide_eq_true (by first | (with_reducible assumption) | assumption)))] at hcv28qy); have hcv28qw := hcv28q; (try simp only [Int.reduceToNat] at hcv28qw); have hcv28qv := hcv28qy; (try simp only [Int.reduceToNat] at hcv28qv); have hcv28qu := hcv28q; (try simp only [Int.reduceToNat, List.length_take] at hcv28qu); have hcz29_0 : wc.cell? ⟨gb258, 0, none⟩ = some (.int .i64 0) := (blk_cell BK258.out 0).trans rfl; have hcz29_1 : wc.cell? ⟨gb258, 1, none⟩ = some (.int .i64 0) := (blk_cell BK258.out 1).trans rfl; have hcz29_2 : wc.cell? ⟨gb258, 2, none⟩ = some (.int .i64 0) := (blk_cell BK258.out 2).trans rfl; have hcz29_3 : wc.cell? ⟨gb258, 3, none⟩ = some (.string (⟨#[]⟩ : ByteArray)) := (blk_cell BK258.out 3).trans rfl; have hcz29_4 : wc.cell? ⟨gb258, 4, none⟩ = some (.int .i64 0) := (blk_cell BK258.out 4).trans rfl; have hfz29_0 := blk_frozen BK258.out 0; have hfz29_1 := blk_frozen BK258.out 1; have hfz29_2 := blk_frozen BK258.out 2; have hfz29_3 := blk_frozen BK258.out 3; have hfz29_4 := blk_frozen BK258.out 4))
          refine bodyPost_ret (results_cell_row rfl _ _ gb258 27 #[.int .i64 1, .int .i64 0, .int .i64 t266, .string (strOfNums (l0.take (t266 : Int).toNat)), .int .i64 0] (0, 0) _ rfl (by (with_reducible repeat (first | refine blk_drewN ?_ _ | refine blk_drew ?_ | refine blk_alloc ?_ _)); refine blk_put (cs := #[.int .i64 1, .int .i64 0, .int .i64 t266, .string (strOfNums (l0.take (t266 : Int).toNat)), .int .i64 0]) ?_ 4 _ rfl; (with_reducible repeat (first | refine blk_drewN ?_ _ | refine blk_drew ?_ | refine blk_alloc ?_ _)); refine blk_put (cs := #[.int .i64 1, .int .i64 0, .int .i64 t266, .string (⟨#[]⟩ : ByteArray), .int .i64 0]) ?_ 3 _ rfl; (with_reducible repeat (first | refine blk_drewN ?_ _ | refine blk_drew ?_ | refine blk_alloc ?_ _)); refine blk_put (cs := #[.int .i64 1, .int .i64 0, .int .i64 0, .string (⟨#[]⟩ : ByteArray), .int .i64 0]) ?_ 2 _ rfl; (with_reducible repeat (first | refine blk_drewN ?_ _ | refine blk_drew ?_ | refine blk_alloc ?_ _)); refine blk_put (cs := #[.int .i64 1, .int .i64 0, .int .i64 0, .string (⟨#[]⟩ : ByteArray), .int .i64 0]) ?_ 1 _ rfl; (with_reducible repeat (first | refine blk_drewN ?_ _ | refine blk_drew ?_ | refine blk_alloc ?_ _)); refine blk_put (cs := #[.int .i64 0, .int .i64 0, .int .i64 0, .string (⟨#[]⟩ : ByteArray), .int .i64 0]) ?_ 0 _ rfl; (with_reducible repeat (first | refine blk_drewN ?_ _ | refine blk_drew ?_ | refine blk_alloc ?_ _)); exact BK258.out) Tryd.underlying27 rfl (by kernel_rfl)) rfl ?_
          exact ⟨by first | rfl | (simp [errW_none, errW_some] <;> rfl) | (simp [*, errW_none, errW_some] <;> rfl), by repeat (first | (with_reducible first | exact HB.out | apply below_alloc | apply pw_below_drewN | apply below_drew1 | refine below_set ?_ GE258.out) | exact HB.out)⟩
         ·rw [if_neg c26] at H
          exact absurd H (by simp)
        ·rw [if_neg c25] at H
         exact absurd H (by simp)
       ·rw [if_neg c23] at H
        have c23b0 : decide (1 < t261) = false := decide_eq_false c23
        clear c23
        simp only [Option.some.injEq, Prod.mk.injEq] at H
        obtain ⟨rfl, rfl, rfl, rfl, rfl⟩ := H
        have hcz30_0 : wc.cell? ⟨gb258, 0, none⟩ = some (.int .i64 0) := (blk_cell BK258.out 0).trans rfl
        have hcz30_1 : wc.cell? ⟨gb258, 1, none⟩ = some (.int .i64 0) := (blk_cell BK258.out 1).trans rfl
        have hcz30_2 : wc.cell? ⟨gb258, 2, none⟩ = some (.int .i64 0) := (blk_cell BK258.out 2).trans rfl
        have hcz30_3 : wc.cell? ⟨gb258, 3, none⟩ = some (.string (⟨#[]⟩ : ByteArray)) := (blk_cell BK258.out 3).trans rfl
        have hcz30_4 : wc.cell? ⟨gb258, 4, none⟩ = some (.int .i64 0) := (blk_cell BK258.out 4).trans rfl
        have hfz30_0 := blk_frozen BK258.out 0
        have hfz30_1 := blk_frozen BK258.out 1
        have hfz30_2 := blk_frozen BK258.out 2
        have hfz30_3 := blk_frozen BK258.out 3
        have hfz30_4 := blk_frozen BK258.out 4
        go_wp2
        refine bodyPost_ret (results_cell_row rfl _ _ gb258 27 #[.int .i64 8, .int .i64 0, .int .i64 1, .string (⟨#[]⟩ : ByteArray), .int .i64 10] (0, 0) _ rfl (by (with_reducible repeat (first | refine blk_drewN ?_ _ | refine blk_drew ?_ | refine blk_alloc ?_ _)); refine blk_put (cs := #[.int .i64 8, .int .i64 0, .int .i64 1, .string (⟨#[]⟩ : ByteArray), .int .i64 0]) ?_ 4 _ rfl; (with_reducible repeat (first | refine blk_drewN ?_ _ | refine blk_drew ?_ | refine blk_alloc ?_ _)); refine blk_put (cs := #[.int .i64 8, .int .i64 0, .int .i64 1, .string (⟨#[]⟩ : ByteArray), .int .i64 0]) ?_ 3 _ rfl; (with_reducible repeat (first | refine blk_drewN ?_ _ | refine blk_drew ?_ | refine blk_alloc ?_ _)); refine blk_put (cs := #[.int .i64 8, .int .i64 0, .int .i64 0, .string (⟨#[]⟩ : ByteArray), .int .i64 0]) ?_ 2 _ rfl; (with_reducible repeat (first | refine blk_drewN ?_ _ | refine blk_drew ?_ | refine blk_alloc ?_ _)); refine blk_put (cs := #[.int .i64 8, .int .i64 0, .int .i64 0, .string (⟨#[]⟩ : ByteArray), .int .i64 0]) ?_ 1 _ rfl; (with_reducible repeat (first | refine blk_drewN ?_ _ | refine blk_drew ?_ | refine blk_alloc ?_ _)); refine blk_put (cs := #[.int .i64 0, .int .i64 0, .int .i64 0, .string (⟨#[]⟩ : ByteArray), .int .i64 0]) ?_ 0 _ rfl; (with_reducible repeat (first | refine blk_drewN ?_ _ | refine blk_drew ?_ | refine blk_alloc ?_ _)); exact BK258.out) Tryd.underlying27 rfl (by kernel_rfl)) rfl ?_
        exact ⟨by first | rfl | (simp [errW_none, errW_some] <;> rfl) | (simp [*, errW_none, errW_some] <;> rfl), by repeat (first | (with_reducible first | exact HB.out | apply below_alloc | apply pw_below_drewN | apply below_drew1 | refine below_set ?_ GE258.out) | exact HB.out)⟩
      ·replace c22 := Bool.eq_false_iff.mpr c22
       subst c22
       have H1 : (some (8, 0, 1, (⟨#[]⟩ : ByteArray), 10)) = some (r1, r2, r3, r4, r5) := by rw [if_neg (show ¬ (false = true) by decide)] at H; exact H
       clear H
       have H := H1
       clear H1
       simp only [Option.some.injEq, Prod.mk.injEq] at H
       obtain ⟨rfl, rfl, rfl, rfl, rfl⟩ := H
       have hcz31_0 : wc.cell? ⟨gb258, 0, none⟩ = some (.int .i64 0) := (blk_cell BK258.out 0).trans rfl
       have hcz31_1 : wc.cell? ⟨gb258, 1, none⟩ = some (.int .i64 0) := (blk_cell BK258.out 1).trans rfl
       have hcz31_2 : wc.cell? ⟨gb258, 2, none⟩ = some (.int .i64 0) := (blk_cell BK258.out 2).trans rfl
       have hcz31_3 : wc.cell? ⟨gb258, 3, none⟩ = some (.string (⟨#[]⟩ : ByteArray)) := (blk_cell BK258.out 3).trans rfl
       have hcz31_4 : wc.cell? ⟨gb258, 4, none⟩ = some (.int .i64 0) := (blk_cell BK258.out 4).trans rfl
       have hfz31_0 := blk_frozen BK258.out 0
       have hfz31_1 := blk_frozen BK258.out 1
       have hfz31_2 := blk_frozen BK258.out 2
       have hfz31_3 := blk_frozen BK258.out 3
       have hfz31_4 := blk_frozen BK258.out 4
       go_wp2
       refine bodyPost_ret (results_cell_row rfl _ _ gb258 27 #[.int .i64 8, .int .i64 0, .int .i64 1, .string (⟨#[]⟩ : ByteArray), .int .i64 10] (0, 0) _ rfl (by (with_reducible repeat (first | refine blk_drewN ?_ _ | refine blk_drew ?_ | refine blk_alloc ?_ _)); refine blk_put (cs := #[.int .i64 8, .int .i64 0, .int .i64 1, .string (⟨#[]⟩ : ByteArray), .int .i64 0]) ?_ 4 _ rfl; (with_reducible repeat (first | refine blk_drewN ?_ _ | refine blk_drew ?_ | refine blk_alloc ?_ _)); refine blk_put (cs := #[.int .i64 8, .int .i64 0, .int .i64 1, .string (⟨#[]⟩ : ByteArray), .int .i64 0]) ?_ 3 _ rfl; (with_reducible repeat (first | refine blk_drewN ?_ _ | refine blk_drew ?_ | refine blk_alloc ?_ _)); refine blk_put (cs := #[.int .i64 8, .int .i64 0, .int .i64 0, .string (⟨#[]⟩ : ByteArray), .int .i64 0]) ?_ 2 _ rfl; (with_reducible repeat (first | refine blk_drewN ?_ _ | refine blk_drew ?_ | refine blk_alloc ?_ _)); refine blk_put (cs := #[.int .i64 8, .int .i64 0, .int .i64 0, .string (⟨#[]⟩ : ByteArray), .int .i64 0]) ?_ 1 _ rfl; (with_reducible repeat (first | refine blk_drewN ?_ _ | refine blk_drew ?_ | refine blk_alloc ?_ _)); refine blk_put (cs := #[.int .i64 0, .int .i64 0, .int .i64 0, .string (⟨#[]⟩ : ByteArray), .int .i64 0]) ?_ 0 _ rfl; (with_reducible repeat (first | refine blk_drewN ?_ _ | refine blk_drew ?_ | refine blk_alloc ?_ _)); exact BK258.out) Tryd.underlying27 rfl (by kernel_rfl)) rfl ?_
       exact ⟨by first | rfl | (simp [errW_none, errW_some] <;> rfl) | (simp [*, errW_none, errW_some] <;> rfl), by repeat (first | (with_reducible first | exact HB.out | apply below_alloc | apply pw_below_drewN | apply below_drew1 | refine below_set ?_ GE258.out) | exact HB.out)⟩
     ·rw [if_neg c21] at H
      have c21b0 : (t260 == 9) = false := beq_eq_false_iff_ne.mpr c21
      have c21b1 : (t260 != 9) = true := bne_iff_ne.mpr c21
      by_cases c32 : t260 = 5
      ·rw [if_pos c32] at H
       have c32b0 : (t260 == 5) = true := beq_iff_eq.mpr c32
       have c32b1 : (t260 != 5) = false := bne_eq_false_iff_eq.mpr c32
       clear c32
       replace H := Option.bind_eq_some_iff.mp H
       obtain ⟨t268, A330, H⟩ := H
       replace H : (if t268 = 1 then (if 0 < (l0.length : Int) then (if (rd l0 0) = 46 then ((tmesisref06_ends.f kj4 l0).bind fun t270 => (if t270 = true then (if 0 ≤ t268 then (if t268 ≤ (l0.length : Int) then (some (7, 0, t268, strOfNums (l0.take (t268 : Int).toNat), 0)) else (none)) else (none)) else (if 0 ≤ t268 then (if t268 ≤ (l0.length : Int) then (some (2, 0, t268, strOfNums (l0.take (t268 : Int).toNat), 0)) else (none)) else (none)))) else (if 0 ≤ t268 then (if t268 ≤ (l0.length : Int) then (some (2, 0, t268, strOfNums (l0.take (t268 : Int).toNat), 0)) else (none)) else (none))) else (none)) else (if 0 ≤ t268 then (if t268 ≤ (l0.length : Int) then (some (2, 0, t268, strOfNums (l0.take (t268 : Int).toNat), 0)) else (none)) else (none))) = some (r1, r2, r3, r4, r5) := H
       have A33 := Aside0.mk A330
       clear A330
       by_cases c34 : t268 = 1
       ·rw [if_pos c34] at H
        have c34b0 : (t268 == 1) = true := beq_iff_eq.mpr c34
        have c34b1 : (t268 != 1) = false := bne_eq_false_iff_eq.mpr c34
        clear c34
        by_cases c35 : 0 < (l0.length : Int)
        ·rw [if_pos c35] at H
         have c35b0 : decide (0 < (l0.length : Int)) = true := decide_eq_true c35
         have c35b1 : decide (0 < l0.length) = true := decide_eq_true (by omega)
         clear c35
         by_cases c36 : (rd l0 0) = 46
         ·rw [if_pos c36] at H
          have c36b0 : ((rd l0 0) == 46) = true := beq_iff_eq.mpr c36
          have c36b1 : ((rd l0 0) != 46) = false := bne_eq_false_iff_eq.mpr c36
          clear c36
          replace H := Option.bind_eq_some_iff.mp H
          obtain ⟨t270, A370, H⟩ := H
          replace H : (if t270 = true then (if 0 ≤ t268 then (if t268 ≤ (l0.length : Int) then (some (7, 0, t268, strOfNums (l0.take (t268 : Int).toNat), 0)) else (none)) else (none)) else (if 0 ≤ t268 then (if t268 ≤ (l0.length : Int) then (some (2, 0, t268, strOfNums (l0.take (t268 : Int).toNat), 0)) else (none)) else (none))) = some (r1, r2, r3, r4, r5) := H
          have A37 := Aside0.mk A370
          clear A370
          by_cases c38 : t270 = true
          ·subst c38
           have H1 : (if 0 ≤ t268 then (if t268 ≤ (l0.length : Int) then (some (7, 0, t268, strOfNums (l0.take (t268 : Int).toNat), 0)) else (none)) else (none)) = some (r1, r2, r3, r4, r5) := by rw [if_pos rfl] at H; exact H
           clear H
           have H := H1
           clear H1
           by_cases c39 : 0 ≤ t268
           ·rw [if_pos c39] at H
            have c39b0 := eq_true c39
            have c39b1 : decide (0 ≤ t268) = true := decide_eq_true c39
            clear c39
            by_cases c40 : t268 ≤ (l0.length : Int)
            ·rw [if_pos c40] at H
             have c40b0 := eq_true c40
             have c40b1 : decide (t268 ≤ (l0.length : Int)) = true := decide_eq_true c40
             clear c40
             simp only [Option.some.injEq, Prod.mk.injEq] at H
             obtain ⟨rfl, rfl, rfl, rfl, rfl⟩ := H
             go_wp2_with (first | ((with_reducible refine gate_callee (f := 34) rfl ?_); refine goesL_ (some 64) rfl rfl Tryd.func34 (by kernel_rfl) rfl #[.slice (some ad259) l0.length c0, .int .i64 5] rfl (by (try simp only [List.map_toArray, List.map_cons, List.map_nil]); first | done | rfl | (simp only [List.length_drop, List.length_take]; rfl)) ?_; (with_reducible refine (tmesisref02_Run.calls kj4 _ _ l0 5 t268 _ ?side1 ?side2 A33.out).mono ?_); (case side1 => repeat (first | exact (Kd.C_below HR0.out HB.out) | (with_reducible refine Kd.C_alloc ?_ _) | (with_reducible refine Kd.C_drewN ?_ _) | (with_reducible refine Kd.C_drew ?_))); (case side2 => exact HC0.out); rintro e w' ⟨rfl, ⟨nd, rfl⟩⟩; refine ⟨_, rfl, ?_⟩; (try (rw [drewN_self wc]; generalize hq_ : World.drewN wc _ = wc; have n0_ : Aside0 (wc.heap[gb258]? = some (.cells #[.int .i64 0, .int .i64 0, .int .i64 0, .string (⟨#[]⟩ : ByteArray), .int .i64 0] 27 (0, 0))) := ⟨by rw [← hq_]; exact (by (with_reducible repeat (first | refine blk_drewN ?_ _ | refine blk_drew ?_ | refine blk_alloc ?_ _)); exact BK258.out)⟩; have n1_ : Aside0 (Below w.heap.size w wc) := ⟨by rw [← hq_]; exact (by repeat (first | (with_reducible first | exact HB.out | apply below_alloc | apply pw_below_drewN | apply below_drew1 | refine below_set ?_ GE258.out) | exact HB.out))⟩; clear BK258 HB hq_; have BK258 := n0_; have HB := n1_; clear n0_ n1_)); have p269 : 0 ≤ (0 : Int) := (by omega); have q269 : 0 < (l0.length : Int) := of_decide_eq_true (by first | (with_reducible assumption) | assumption); obtain ⟨ad269, e269, hx269_0⟩ := Kd.at_int HR0.out 0 p269 q269; obtain rfl : ad259 = ad269 := (by injection e269); have qi269 : (0 < l0.length) = True := eq_true (by omega); (try rw [show ((0 : Int)).toNat = 0 from rfl] at hx269_0); (try rw [Addr.add_zero'] at hx269_0); replace hx269_0 := (HB.out.cell (World.block_lt_of_cell? w _ hx269_0)).trans hx269_0; replace p269 := eq_true p269; replace q269 := eq_true q269) | ((with_reducible refine gate_callee (f := 35) rfl ?_); (try (refine gate_guard (by rfl) ?_; dsimp only)); refine goesL_ (some 75) rfl rfl Tryd.func35 (by kernel_rfl) rfl #[.slice (some ad259) l0.length c0] rfl (by (try simp only [List.map_toArray, List.map_cons, List.map_nil]); first | done | rfl | (simp only [List.length_drop, List.length_take]; rfl)) ?_; (with_reducible refine (tmesisref06_ends.calls kj4 _ _ l0 true _ ?side1 ?side2 A37.out).mono ?_); (case side1 => repeat (first | exact (Kd.C_below HR0.out HB.out) | (with_reducible refine Kd.C_alloc ?_ _) | (with_reducible refine Kd.C_drewN ?_ _) | (with_reducible refine Kd.C_drew ?_))); (case side2 => exact HC0.out); rintro e w' ⟨rfl, ⟨nd, rfl⟩⟩; refine ⟨_, rfl, ?_⟩; (try (rw [drewN_self wc]; generalize hq_ : World.drewN wc _ = wc; have n0_ : Aside0 (wc.heap[gb258]? = some (.cells #[.int .i64 0, .int .i64 0, .int .i64 0, .string (⟨#[]⟩ : ByteArray), .int .i64 0] 27 (0, 0))) := ⟨by rw [← hq_]; exact (by (with_reducible repeat (first | refine blk_drewN ?_ _ | refine blk_drew ?_ | refine blk_alloc ?_ _)); exact BK258.out)⟩; have n1_ : Aside0 (Below w.heap.size w wc) := ⟨by rw [← hq_]; exact (by repeat (first | (with_reducible first | exact HB.out | apply below_alloc | apply pw_below_drewN | apply below_drew1 | refine below_set ?_ GE258.out) | exact HB.out))⟩; clear BK258 HB hq_; have BK258 := n0_; have HB := n1_; clear n0_ n1_)); obtain ⟨i041, hi041, _, hsz41, _⟩ := info_parts info5; obtain ⟨hcut41, hA41, hC41⟩ := print_take_of (P := Tryd.prog) (Value.int .u8) 0 22 5 .i64 Tryd.underlying22 hi041 hsz41 (some ad259) c0 l0 t268 (of_decide_eq_true (by first | (with_reducible assumption) | assumption)) (of_decide_eq_true (by first | (with_reducible assumption) | assumption)) HC0.out; have HR271 := Aside0.mk (Kd.C_of_reads (h1 := fun _ => rfl) (hA41 _ (Kd.reads_of_C HR0.out))); have HC271 := Aside0.mk hC41; clear hA41 hC41 hi041 hsz41; have hcv42 := Kd.C_string (P := Tryd.prog) (A := (some ad259)) (c := c0) Tryd.underlying22 Tryd.underlying5 Tryd.underlying9 (Kd.C_below HR271.out HB.out); have hcv42z := hcv42; (try rw [List.length_drop, List.length_take, Nat.min_eq_left (Int.toNat_le.mpr (of_decide_eq_true (by first | (with_reducible assumption) | assumption)))] at hcv42z); have hcv42y := hcv42; (try rw [List.length_take, Nat.min_eq_left (Int.toNat_le.mpr (of_decide_eq_true (by first | (with_reducible assumption) | assumption)))] at hcv42y); have hcv42x := hcv42; (try rw [List.length_take, Nat.min_eq_left (by have h_ := of_decide_eq_true (by assumption); omega)] at hcv42x); have hcv42m := hcv42; (try simp only [Int.reduceToNat, List.length_take] at hcv42m); have hcv42q := fun (q_ : Nat) => Kd.C_string (P := Tryd.prog) (A := (some ad259)) (c := c0) Tryd.underlying22 Tryd.underlying5 Tryd.underlying9 (Kd.C_drewN (Kd.C_below HR271.out HB.out) q_); have hcv42qy := hcv42q; (try simp only [List.length_take, Nat.min_eq_left (Int.toNat_le.mpr (of_decide_eq_true (by first | (with_reducible assumption) | assumption)))] at hcv42qy); have hcv42qw := hcv42q; (try simp only [Int.reduceToNat] at hcv42qw); have hcv42qv := hcv42qy; (try simp only [Int.reduceToNat] at hcv42qv); have hcv42qu := hcv42q; (try simp only [Int.reduceToNat, List.length_take] at hcv42qu); have hcz43_0 : wc.cell? ⟨gb258, 0, none⟩ = some (.int .i64 0) := (blk_cell BK258.out 0).trans rfl; have hcz43_1 : wc.cell? ⟨gb258, 1, none⟩ = some (.int .i64 0) := (blk_cell BK258.out 1).trans rfl; have hcz43_2 : wc.cell? ⟨gb258, 2, none⟩ = some (.int .i64 0) := (blk_cell BK258.out 2).trans rfl; have hcz43_3 : wc.cell? ⟨gb258, 3, none⟩ = some (.string (⟨#[]⟩ : ByteArray)) := (blk_cell BK258.out 3).trans rfl; have hcz43_4 : wc.cell? ⟨gb258, 4, none⟩ = some (.int .i64 0) := (blk_cell BK258.out 4).trans rfl; have hfz43_0 := blk_frozen BK258.out 0; have hfz43_1 := blk_frozen BK258.out 1; have hfz43_2 := blk_frozen BK258.out 2; have hfz43_3 := blk_frozen BK258.out 3; have hfz43_4 := blk_frozen BK258.out 4))
             refine bodyPost_ret (results_cell_row rfl _ _ gb258 27 #[.int .i64 7, .int .i64 0, .int .i64 t268, .string (strOfNums (l0.take (t268 : Int).toNat)), .int .i64 0] (0, 0) _ rfl (by (with_reducible repeat (first | refine blk_drewN ?_ _ | refine blk_drew ?_ | refine blk_alloc ?_ _)); refine blk_put (cs := #[.int .i64 7, .int .i64 0, .int .i64 t268, .string (strOfNums (l0.take (t268 : Int).toNat)), .int .i64 0]) ?_ 4 _ rfl; (with_reducible repeat (first | refine blk_drewN ?_ _ | refine blk_drew ?_ | refine blk_alloc ?_ _)); refine blk_put (cs := #[.int .i64 7, .int .i64 0, .int .i64 t268, .string (⟨#[]⟩ : ByteArray), .int .i64 0]) ?_ 3 _ rfl; (with_reducible repeat (first | refine blk_drewN ?_ _ | refine blk_drew ?_ | refine blk_alloc ?_ _)); refine blk_put (cs := #[.int .i64 7, .int .i64 0, .int .i64 0, .string (⟨#[]⟩ : ByteArray), .int .i64 0]) ?_ 2 _ rfl; (with_reducible repeat (first | refine blk_drewN ?_ _ | refine blk_drew ?_ | refine blk_alloc ?_ _)); refine blk_put (cs := #[.int .i64 7, .int .i64 0, .int .i64 0, .string (⟨#[]⟩ : ByteArray), .int .i64 0]) ?_ 1 _ rfl; (with_reducible repeat (first | refine blk_drewN ?_ _ | refine blk_drew ?_ | refine blk_alloc ?_ _)); refine blk_put (cs := #[.int .i64 0, .int .i64 0, .int .i64 0, .string (⟨#[]⟩ : ByteArray), .int .i64 0]) ?_ 0 _ rfl; (with_reducible repeat (first | refine blk_drewN ?_ _ | refine blk_drew ?_ | refine blk_alloc ?_ _)); exact BK258.out) Tryd.underlying27 rfl (by kernel_rfl)) rfl ?_
             exact ⟨by first | rfl | (simp [errW_none, errW_some] <;> rfl) | (simp [*, errW_none, errW_some] <;> rfl), by repeat (first | (with_reducible first | exact HB.out | apply below_alloc | apply pw_below_drewN | apply below_drew1 | refine below_set ?_ GE258.out) | exact HB.out)⟩
            ·rw [if_neg c40] at H
             exact absurd H (by simp)
           ·rw [if_neg c39] at H
            exact absurd H (by simp)
          ·replace c38 := Bool.eq_false_iff.mpr c38
           subst c38
           have H1 : (if 0 ≤ t268 then (if t268 ≤ (l0.length : Int) then (some (2, 0, t268, strOfNums (l0.take (t268 : Int).toNat), 0)) else (none)) else (none)) = some (r1, r2, r3, r4, r5) := by rw [if_neg (show ¬ (false = true) by decide)] at H; exact H
           clear H
           have H := H1
           clear H1
           by_cases c44 : 0 ≤ t268
           ·rw [if_pos c44] at H
            have c44b0 := eq_true c44
            have c44b1 : decide (0 ≤ t268) = true := decide_eq_true c44
            clear c44
            by_cases c45 : t268 ≤ (l0.length : Int)
            ·rw [if_pos c45] at H
             have c45b0 := eq_true c45
             have c45b1 : decide (t268 ≤ (l0.length : Int)) = true := decide_eq_true c45
             clear c45
             simp only [Option.some.injEq, Prod.mk.injEq] at H
             obtain ⟨rfl, rfl, rfl, rfl, rfl⟩ := H
             go_wp2_with (first | ((with_reducible refine gate_callee (f := 34) rfl ?_); refine goesL_ (some 64) rfl rfl Tryd.func34 (by kernel_rfl) rfl #[.slice (some ad259) l0.length c0, .int .i64 5] rfl (by (try simp only [List.map_toArray, List.map_cons, List.map_nil]); first | done | rfl | (simp only [List.length_drop, List.length_take]; rfl)) ?_; (with_reducible refine (tmesisref02_Run.calls kj4 _ _ l0 5 t268 _ ?side1 ?side2 A33.out).mono ?_); (case side1 => repeat (first | exact (Kd.C_below HR0.out HB.out) | (with_reducible refine Kd.C_alloc ?_ _) | (with_reducible refine Kd.C_drewN ?_ _) | (with_reducible refine Kd.C_drew ?_))); (case side2 => exact HC0.out); rintro e w' ⟨rfl, ⟨nd, rfl⟩⟩; refine ⟨_, rfl, ?_⟩; (try (rw [drewN_self wc]; generalize hq_ : World.drewN wc _ = wc; have n0_ : Aside0 (wc.heap[gb258]? = some (.cells #[.int .i64 0, .int .i64 0, .int .i64 0, .string (⟨#[]⟩ : ByteArray), .int .i64 0] 27 (0, 0))) := ⟨by rw [← hq_]; exact (by (with_reducible repeat (first | refine blk_drewN ?_ _ | refine blk_drew ?_ | refine blk_alloc ?_ _)); exact BK258.out)⟩; have n1_ : Aside0 (Below w.heap.size w wc) := ⟨by rw [← hq_]; exact (by repeat (first | (with_reducible first | exact HB.out | apply below_alloc | apply pw_below_drewN | apply below_drew1 | refine below_set ?_ GE258.out) | exact HB.out))⟩; clear BK258 HB hq_; have BK258 := n0_; have HB := n1_; clear n0_ n1_)); have p269 : 0 ≤ (0 : Int) := (by omega); have q269 : 0 < (l0.length : Int) := of_decide_eq_true (by first | (with_reducible assumption) | assumption); obtain ⟨ad269, e269, hx269_0⟩ := Kd.at_int HR0.out 0 p269 q269; obtain rfl : ad259 = ad269 := (by injection e269); have qi269 : (0 < l0.length) = True := eq_true (by omega); (try rw [show ((0 : Int)).toNat = 0 from rfl] at hx269_0); (try rw [Addr.add_zero'] at hx269_0); replace hx269_0 := (HB.out.cell (World.block_lt_of_cell? w _ hx269_0)).trans hx269_0; replace p269 := eq_true p269; replace q269 := eq_true q269) | ((with_reducible refine gate_callee (f := 35) rfl ?_); (try (refine gate_guard (by rfl) ?_; dsimp only)); refine goesL_ (some 75) rfl rfl Tryd.func35 (by kernel_rfl) rfl #[.slice (some ad259) l0.length c0] rfl (by (try simp only [List.map_toArray, List.map_cons, List.map_nil]); first | done | rfl | (simp only [List.length_drop, List.length_take]; rfl)) ?_; (with_reducible refine (tmesisref06_ends.calls kj4 _ _ l0 false _ ?side1 ?side2 A37.out).mono ?_); (case side1 => repeat (first | exact (Kd.C_below HR0.out HB.out) | (with_reducible refine Kd.C_alloc ?_ _) | (with_reducible refine Kd.C_drewN ?_ _) | (with_reducible refine Kd.C_drew ?_))); (case side2 => exact HC0.out); rintro e w' ⟨rfl, ⟨nd, rfl⟩⟩; refine ⟨_, rfl, ?_⟩; (try (rw [drewN_self wc]; generalize hq_ : World.drewN wc _ = wc; have n0_ : Aside0 (wc.heap[gb258]? = some (.cells #[.int .i64 0, .int .i64 0, .int .i64 0, .string (⟨#[]⟩ : ByteArray), .int .i64 0] 27 (0, 0))) := ⟨by rw [← hq_]; exact (by (with_reducible repeat (first | refine blk_drewN ?_ _ | refine blk_drew ?_ | refine blk_alloc ?_ _)); exact BK258.out)⟩; have n1_ : Aside0 (Below w.heap.size w wc) := ⟨by rw [← hq_]; exact (by repeat (first | (with_reducible first | exact HB.out | apply below_alloc | apply pw_below_drewN | apply below_drew1 | refine below_set ?_ GE258.out) | exact HB.out))⟩; clear BK258 HB hq_; have BK258 := n0_; have HB := n1_; clear n0_ n1_)); obtain ⟨i046, hi046, _, hsz46, _⟩ := info_parts info5; obtain ⟨hcut46, hA46, hC46⟩ := print_take_of (P := Tryd.prog) (Value.int .u8) 0 22 5 .i64 Tryd.underlying22 hi046 hsz46 (some ad259) c0 l0 t268 (of_decide_eq_true (by first | (with_reducible assumption) | assumption)) (of_decide_eq_true (by first | (with_reducible assumption) | assumption)) HC0.out; have HR272 := Aside0.mk (Kd.C_of_reads (h1 := fun _ => rfl) (hA46 _ (Kd.reads_of_C HR0.out))); have HC272 := Aside0.mk hC46; clear hA46 hC46 hi046 hsz46; have hcv47 := Kd.C_string (P := Tryd.prog) (A := (some ad259)) (c := c0) Tryd.underlying22 Tryd.underlying5 Tryd.underlying9 (Kd.C_below HR272.out HB.out); have hcv47z := hcv47; (try rw [List.length_drop, List.length_take, Nat.min_eq_left (Int.toNat_le.mpr (of_decide_eq_true (by first | (with_reducible assumption) | assumption)))] at hcv47z); have hcv47y := hcv47; (try rw [List.length_take, Nat.min_eq_left (Int.toNat_le.mpr (of_decide_eq_true (by first | (with_reducible assumption) | assumption)))] at hcv47y); have hcv47x := hcv47; (try rw [List.length_take, Nat.min_eq_left (by have h_ := of_decide_eq_true (by assumption); omega)] at hcv47x); have hcv47m := hcv47; (try simp only [Int.reduceToNat, List.length_take] at hcv47m); have hcv47q := fun (q_ : Nat) => Kd.C_string (P := Tryd.prog) (A := (some ad259)) (c := c0) Tryd.underlying22 Tryd.underlying5 Tryd.underlying9 (Kd.C_drewN (Kd.C_below HR272.out HB.out) q_); have hcv47qy := hcv47q; (try simp only [List.length_take, Nat.min_eq_left (Int.toNat_le.mpr (of_decide_eq_true (by first | (with_reducible assumption) | assumption)))] at hcv47qy); have hcv47qw := hcv47q; (try simp only [Int.reduceToNat] at hcv47qw); have hcv47qv := hcv47qy; (try simp only [Int.reduceToNat] at hcv47qv); have hcv47qu := hcv47q; (try simp only [Int.reduceToNat, List.length_take] at hcv47qu); have hcz48_0 : wc.cell? ⟨gb258, 0, none⟩ = some (.int .i64 0) := (blk_cell BK258.out 0).trans rfl; have hcz48_1 : wc.cell? ⟨gb258, 1, none⟩ = some (.int .i64 0) := (blk_cell BK258.out 1).trans rfl; have hcz48_2 : wc.cell? ⟨gb258, 2, none⟩ = some (.int .i64 0) := (blk_cell BK258.out 2).trans rfl; have hcz48_3 : wc.cell? ⟨gb258, 3, none⟩ = some (.string (⟨#[]⟩ : ByteArray)) := (blk_cell BK258.out 3).trans rfl; have hcz48_4 : wc.cell? ⟨gb258, 4, none⟩ = some (.int .i64 0) := (blk_cell BK258.out 4).trans rfl; have hfz48_0 := blk_frozen BK258.out 0; have hfz48_1 := blk_frozen BK258.out 1; have hfz48_2 := blk_frozen BK258.out 2; have hfz48_3 := blk_frozen BK258.out 3; have hfz48_4 := blk_frozen BK258.out 4))
             refine bodyPost_ret (results_cell_row rfl _ _ gb258 27 #[.int .i64 2, .int .i64 0, .int .i64 t268, .string (strOfNums (l0.take (t268 : Int).toNat)), .int .i64 0] (0, 0) _ rfl (by (with_reducible repeat (first | refine blk_drewN ?_ _ | refine blk_drew ?_ | refine blk_alloc ?_ _)); refine blk_put (cs := #[.int .i64 2, .int .i64 0, .int .i64 t268, .string (strOfNums (l0.take (t268 : Int).toNat)), .int .i64 0]) ?_ 4 _ rfl; (with_reducible repeat (first | refine blk_drewN ?_ _ | refine blk_drew ?_ | refine blk_alloc ?_ _)); refine blk_put (cs := #[.int .i64 2, .int .i64 0, .int .i64 t268, .string (⟨#[]⟩ : ByteArray), .int .i64 0]) ?_ 3 _ rfl; (with_reducible repeat (first | refine blk_drewN ?_ _ | refine blk_drew ?_ | refine blk_alloc ?_ _)); refine blk_put (cs := #[.int .i64 2, .int .i64 0, .int .i64 0, .string (⟨#[]⟩ : ByteArray), .int .i64 0]) ?_ 2 _ rfl; (with_reducible repeat (first | refine blk_drewN ?_ _ | refine blk_drew ?_ | refine blk_alloc ?_ _)); refine blk_put (cs := #[.int .i64 2, .int .i64 0, .int .i64 0, .string (⟨#[]⟩ : ByteArray), .int .i64 0]) ?_ 1 _ rfl; (with_reducible repeat (first | refine blk_drewN ?_ _ | refine blk_drew ?_ | refine blk_alloc ?_ _)); refine blk_put (cs := #[.int .i64 0, .int .i64 0, .int .i64 0, .string (⟨#[]⟩ : ByteArray), .int .i64 0]) ?_ 0 _ rfl; (with_reducible repeat (first | refine blk_drewN ?_ _ | refine blk_drew ?_ | refine blk_alloc ?_ _)); exact BK258.out) Tryd.underlying27 rfl (by kernel_rfl)) rfl ?_
             exact ⟨by first | rfl | (simp [errW_none, errW_some] <;> rfl) | (simp [*, errW_none, errW_some] <;> rfl), by repeat (first | (with_reducible first | exact HB.out | apply below_alloc | apply pw_below_drewN | apply below_drew1 | refine below_set ?_ GE258.out) | exact HB.out)⟩
            ·rw [if_neg c45] at H
             exact absurd H (by simp)
           ·rw [if_neg c44] at H
            exact absurd H (by simp)
         ·rw [if_neg c36] at H
          have c36b0 : ((rd l0 0) == 46) = false := beq_eq_false_iff_ne.mpr c36
          have c36b1 : ((rd l0 0) != 46) = true := bne_iff_ne.mpr c36
          by_cases c49 : 0 ≤ t268
          ·rw [if_pos c49] at H
           have c49b0 := eq_true c49
           have c49b1 : decide (0 ≤ t268) = true := decide_eq_true c49
           clear c49
           by_cases c50 : t268 ≤ (l0.length : Int)
           ·rw [if_pos c50] at H
            have c50b0 := eq_true c50
            have c50b1 : decide (t268 ≤ (l0.length : Int)) = true := decide_eq_true c50
            clear c50
            simp only [Option.some.injEq, Prod.mk.injEq] at H
            obtain ⟨rfl, rfl, rfl, rfl, rfl⟩ := H
            go_wp2_with (first | ((with_reducible refine gate_callee (f := 34) rfl ?_); refine goesL_ (some 64) rfl rfl Tryd.func34 (by kernel_rfl) rfl #[.slice (some ad259) l0.length c0, .int .i64 5] rfl (by (try simp only [List.map_toArray, List.map_cons, List.map_nil]); first | done | rfl | (simp only [List.length_drop, List.length_take]; rfl)) ?_; (with_reducible refine (tmesisref02_Run.calls kj4 _ _ l0 5 t268 _ ?side1 ?side2 A33.out).mono ?_); (case side1 => repeat (first | exact (Kd.C_below HR0.out HB.out) | (with_reducible refine Kd.C_alloc ?_ _) | (with_reducible refine Kd.C_drewN ?_ _) | (with_reducible refine Kd.C_drew ?_))); (case side2 => exact HC0.out); rintro e w' ⟨rfl, ⟨nd, rfl⟩⟩; refine ⟨_, rfl, ?_⟩; (try (rw [drewN_self wc]; generalize hq_ : World.drewN wc _ = wc; have n0_ : Aside0 (wc.heap[gb258]? = some (.cells #[.int .i64 0, .int .i64 0, .int .i64 0, .string (⟨#[]⟩ : ByteArray), .int .i64 0] 27 (0, 0))) := ⟨by rw [← hq_]; exact (by (with_reducible repeat (first | refine blk_drewN ?_ _ | refine blk_drew ?_ | refine blk_alloc ?_ _)); exact BK258.out)⟩; have n1_ : Aside0 (Below w.heap.size w wc) := ⟨by rw [← hq_]; exact (by repeat (first | (with_reducible first | exact HB.out | apply below_alloc | apply pw_below_drewN | apply below_drew1 | refine below_set ?_ GE258.out) | exact HB.out))⟩; clear BK258 HB hq_; have BK258 := n0_; have HB := n1_; clear n0_ n1_)); have p269 : 0 ≤ (0 : Int) := (by omega); have q269 : 0 < (l0.length : Int) := of_decide_eq_true (by first | (with_reducible assumption) | assumption); obtain ⟨ad269, e269, hx269_0⟩ := Kd.at_int HR0.out 0 p269 q269; obtain rfl : ad259 = ad269 := (by injection e269); have qi269 : (0 < l0.length) = True := eq_true (by omega); (try rw [show ((0 : Int)).toNat = 0 from rfl] at hx269_0); (try rw [Addr.add_zero'] at hx269_0); replace hx269_0 := (HB.out.cell (World.block_lt_of_cell? w _ hx269_0)).trans hx269_0; replace p269 := eq_true p269; replace q269 := eq_true q269; obtain ⟨i051, hi051, _, hsz51, _⟩ := info_parts info5; obtain ⟨hcut51, hA51, hC51⟩ := print_take_of (P := Tryd.prog) (Value.int .u8) 0 22 5 .i64 Tryd.underlying22 hi051 hsz51 (some ad259) c0 l0 t268 (of_decide_eq_true (by first | (with_reducible assumption) | assumption)) (of_decide_eq_true (by first | (with_reducible assumption) | assumption)) HC0.out; have HR273 := Aside0.mk (Kd.C_of_reads (h1 := fun _ => rfl) (hA51 _ (Kd.reads_of_C HR0.out))); have HC273 := Aside0.mk hC51; clear hA51 hC51 hi051 hsz51; have hcv52 := Kd.C_string (P := Tryd.prog) (A := (some ad259)) (c := c0) Tryd.underlying22 Tryd.underlying5 Tryd.underlying9 (Kd.C_below HR273.out HB.out); have hcv52z := hcv52; (try rw [List.length_drop, List.length_take, Nat.min_eq_left (Int.toNat_le.mpr (of_decide_eq_true (by first | (with_reducible assumption) | assumption)))] at hcv52z); have hcv52y := hcv52; (try rw [List.length_take, Nat.min_eq_left (Int.toNat_le.mpr (of_decide_eq_true (by first | (with_reducible assumption) | assumption)))] at hcv52y); have hcv52x := hcv52; (try rw [List.length_take, Nat.min_eq_left (by have h_ := of_decide_eq_true (by assumption); omega)] at hcv52x); have hcv52m := hcv52; (try simp only [Int.reduceToNat, List.length_take] at hcv52m); have hcv52q := fun (q_ : Nat) => Kd.C_string (P := Tryd.prog) (A := (some ad259)) (c := c0) Tryd.underlying22 Tryd.underlying5 Tryd.underlying9 (Kd.C_drewN (Kd.C_below HR273.out HB.out) q_); have hcv52qy := hcv52q; (try simp only [List.length_take, Nat.min_eq_left (Int.toNat_le.mpr (of_decide_eq_true (by first | (with_reducible assumption) | assumption)))] at hcv52qy); have hcv52qw := hcv52q; (try simp only [Int.reduceToNat] at hcv52qw); have hcv52qv := hcv52qy; (try simp only [Int.reduceToNat] at hcv52qv); have hcv52qu := hcv52q; (try simp only [Int.reduceToNat, List.length_take] at hcv52qu); have hcz53_0 : wc.cell? ⟨gb258, 0, none⟩ = some (.int .i64 0) := (blk_cell BK258.out 0).trans rfl; have hcz53_1 : wc.cell? ⟨gb258, 1, none⟩ = some (.int .i64 0) := (blk_cell BK258.out 1).trans rfl; have hcz53_2 : wc.cell? ⟨gb258, 2, none⟩ = some (.int .i64 0) := (blk_cell BK258.out 2).trans rfl; have hcz53_3 : wc.cell? ⟨gb258, 3, none⟩ = some (.string (⟨#[]⟩ : ByteArray)) := (blk_cell BK258.out 3).trans rfl; have hcz53_4 : wc.cell? ⟨gb258, 4, none⟩ = some (.int .i64 0) := (blk_cell BK258.out 4).trans rfl; have hfz53_0 := blk_frozen BK258.out 0; have hfz53_1 := blk_frozen BK258.out 1; have hfz53_2 := blk_frozen BK258.out 2; have hfz53_3 := blk_frozen BK258.out 3; have hfz53_4 := blk_frozen BK258.out 4))
            refine bodyPost_ret (results_cell_row rfl _ _ gb258 27 #[.int .i64 2, .int .i64 0, .int .i64 t268, .string (strOfNums (l0.take (t268 : Int).toNat)), .int .i64 0] (0, 0) _ rfl (by (with_reducible repeat (first | refine blk_drewN ?_ _ | refine blk_drew ?_ | refine blk_alloc ?_ _)); refine blk_put (cs := #[.int .i64 2, .int .i64 0, .int .i64 t268, .string (strOfNums (l0.take (t268 : Int).toNat)), .int .i64 0]) ?_ 4 _ rfl; (with_reducible repeat (first | refine blk_drewN ?_ _ | refine blk_drew ?_ | refine blk_alloc ?_ _)); refine blk_put (cs := #[.int .i64 2, .int .i64 0, .int .i64 t268, .string (⟨#[]⟩ : ByteArray), .int .i64 0]) ?_ 3 _ rfl; (with_reducible repeat (first | refine blk_drewN ?_ _ | refine blk_drew ?_ | refine blk_alloc ?_ _)); refine blk_put (cs := #[.int .i64 2, .int .i64 0, .int .i64 0, .string (⟨#[]⟩ : ByteArray), .int .i64 0]) ?_ 2 _ rfl; (with_reducible repeat (first | refine blk_drewN ?_ _ | refine blk_drew ?_ | refine blk_alloc ?_ _)); refine blk_put (cs := #[.int .i64 2, .int .i64 0, .int .i64 0, .string (⟨#[]⟩ : ByteArray), .int .i64 0]) ?_ 1 _ rfl; (with_reducible repeat (first | refine blk_drewN ?_ _ | refine blk_drew ?_ | refine blk_alloc ?_ _)); refine blk_put (cs := #[.int .i64 0, .int .i64 0, .int .i64 0, .string (⟨#[]⟩ : ByteArray), .int .i64 0]) ?_ 0 _ rfl; (with_reducible repeat (first | refine blk_drewN ?_ _ | refine blk_drew ?_ | refine blk_alloc ?_ _)); exact BK258.out) Tryd.underlying27 rfl (by kernel_rfl)) rfl ?_
            exact ⟨by first | rfl | (simp [errW_none, errW_some] <;> rfl) | (simp [*, errW_none, errW_some] <;> rfl), by repeat (first | (with_reducible first | exact HB.out | apply below_alloc | apply pw_below_drewN | apply below_drew1 | refine below_set ?_ GE258.out) | exact HB.out)⟩
           ·rw [if_neg c50] at H
            exact absurd H (by simp)
          ·rw [if_neg c49] at H
           exact absurd H (by simp)
        ·rw [if_neg c35] at H
         exact absurd H (by simp)
       ·rw [if_neg c34] at H
        have c34b0 : (t268 == 1) = false := beq_eq_false_iff_ne.mpr c34
        have c34b1 : (t268 != 1) = true := bne_iff_ne.mpr c34
        by_cases c54 : 0 ≤ t268
        ·rw [if_pos c54] at H
         have c54b0 := eq_true c54
         have c54b1 : decide (0 ≤ t268) = true := decide_eq_true c54
         clear c54
         by_cases c55 : t268 ≤ (l0.length : Int)
         ·rw [if_pos c55] at H
          have c55b0 := eq_true c55
          have c55b1 : decide (t268 ≤ (l0.length : Int)) = true := decide_eq_true c55
          clear c55
          simp only [Option.some.injEq, Prod.mk.injEq] at H
          obtain ⟨rfl, rfl, rfl, rfl, rfl⟩ := H
          go_wp2_with (first | ((with_reducible refine gate_callee (f := 34) rfl ?_); refine goesL_ (some 64) rfl rfl Tryd.func34 (by kernel_rfl) rfl #[.slice (some ad259) l0.length c0, .int .i64 5] rfl (by (try simp only [List.map_toArray, List.map_cons, List.map_nil]); first | done | rfl | (simp only [List.length_drop, List.length_take]; rfl)) ?_; (with_reducible refine (tmesisref02_Run.calls kj4 _ _ l0 5 t268 _ ?side1 ?side2 A33.out).mono ?_); (case side1 => repeat (first | exact (Kd.C_below HR0.out HB.out) | (with_reducible refine Kd.C_alloc ?_ _) | (with_reducible refine Kd.C_drewN ?_ _) | (with_reducible refine Kd.C_drew ?_))); (case side2 => exact HC0.out); rintro e w' ⟨rfl, ⟨nd, rfl⟩⟩; refine ⟨_, rfl, ?_⟩; (try (rw [drewN_self wc]; generalize hq_ : World.drewN wc _ = wc; have n0_ : Aside0 (wc.heap[gb258]? = some (.cells #[.int .i64 0, .int .i64 0, .int .i64 0, .string (⟨#[]⟩ : ByteArray), .int .i64 0] 27 (0, 0))) := ⟨by rw [← hq_]; exact (by (with_reducible repeat (first | refine blk_drewN ?_ _ | refine blk_drew ?_ | refine blk_alloc ?_ _)); exact BK258.out)⟩; have n1_ : Aside0 (Below w.heap.size w wc) := ⟨by rw [← hq_]; exact (by repeat (first | (with_reducible first | exact HB.out | apply below_alloc | apply pw_below_drewN | apply below_drew1 | refine below_set ?_ GE258.out) | exact HB.out))⟩; clear BK258 HB hq_; have BK258 := n0_; have HB := n1_; clear n0_ n1_)); obtain ⟨i056, hi056, _, hsz56, _⟩ := info_parts info5; obtain ⟨hcut56, hA56, hC56⟩ := print_take_of (P := Tryd.prog) (Value.int .u8) 0 22 5 .i64 Tryd.underlying22 hi056 hsz56 (some ad259) c0 l0 t268 (of_decide_eq_true (by first | (with_reducible assumption) | assumption)) (of_decide_eq_true (by first | (with_reducible assumption) | assumption)) HC0.out; have HR274 := Aside0.mk (Kd.C_of_reads (h1 := fun _ => rfl) (hA56 _ (Kd.reads_of_C HR0.out))); have HC274 := Aside0.mk hC56; clear hA56 hC56 hi056 hsz56; have hcv57 := Kd.C_string (P := Tryd.prog) (A := (some ad259)) (c := c0) Tryd.underlying22 Tryd.underlying5 Tryd.underlying9 (Kd.C_below HR274.out HB.out); have hcv57z := hcv57; (try rw [List.length_drop, List.length_take, Nat.min_eq_left (Int.toNat_le.mpr (of_decide_eq_true (by first | (with_reducible assumption) | assumption)))] at hcv57z); have hcv57y := hcv57; (try rw [List.length_take, Nat.min_eq_left (Int.toNat_le.mpr (of_decide_eq_true (by first | (with_reducible assumption) | assumption)))] at hcv57y); have hcv57x := hcv57; (try rw [List.length_take, Nat.min_eq_left (by have h_ := of_decide_eq_true (by assumption); omega)] at hcv57x); have hcv57m := hcv57; (try simp only [Int.reduceToNat, List.length_take] at hcv57m); have hcv57q := fun (q_ : Nat) => Kd.C_string (P := Tryd.prog) (A := (some ad259)) (c := c0) Tryd.underlying22 Tryd.underlying5 Tryd.underlying9 (Kd.C_drewN (Kd.C_below HR274.out HB.out) q_); have hcv57qy := hcv57q; (try simp only [List.length_take, Nat.min_eq_left (Int.toNat_le.mpr (of_decide_eq_true (by first | (with_reducible assumption) | assumption)))] at hcv57qy); have hcv57qw := hcv57q; (try simp only [Int.reduceToNat] at hcv57qw); have hcv57qv := hcv57qy; (try simp only [Int.reduceToNat] at hcv57qv); have hcv57qu := hcv57q; (try simp only [Int.reduceToNat, List.length_take] at hcv57qu); have hcz58_0 : wc.cell? ⟨gb258, 0, none⟩ = some (.int .i64 0) := (blk_cell BK258.out 0).trans rfl; have hcz58_1 : wc.cell? ⟨gb258, 1, none⟩ = some (.int .i64 0) := (blk_cell BK258.out 1).trans rfl; have hcz58_2 : wc.cell? ⟨gb258, 2, none⟩ = some (.int .i64 0) := (blk_cell BK258.out 2).trans rfl; have hcz58_3 : wc.cell? ⟨gb258, 3, none⟩ = some (.string (⟨#[]⟩ : ByteArray)) := (blk_cell BK258.out 3).trans rfl; have hcz58_4 : wc.cell? ⟨gb258, 4, none⟩ = some (.int .i64 0) := (blk_cell BK258.out 4).trans rfl; have hfz58_0 := blk_frozen BK258.out 0; have hfz58_1 := blk_frozen BK258.out 1; have hfz58_2 := blk_frozen BK258.out 2; have hfz58_3 := blk_frozen BK258.out 3; have hfz58_4 := blk_frozen BK258.out 4))
          refine bodyPost_ret (results_cell_row rfl _ _ gb258 27 #[.int .i64 2, .int .i64 0, .int .i64 t268, .string (strOfNums (l0.take (t268 : Int).toNat)), .int .i64 0] (0, 0) _ rfl (by (with_reducible repeat (first | refine blk_drewN ?_ _ | refine blk_drew ?_ | refine blk_alloc ?_ _)); refine blk_put (cs := #[.int .i64 2, .int .i64 0, .int .i64 t268, .string (strOfNums (l0.take (t268 : Int).toNat)), .int .i64 0]) ?_ 4 _ rfl; (with_reducible repeat (first | refine blk_drewN ?_ _ | refine blk_drew ?_ | refine blk_alloc ?_ _)); refine blk_put (cs := #[.int .i64 2, .int .i64 0, .int .i64 t268, .string (⟨#[]⟩ : ByteArray), .int .i64 0]) ?_ 3 _ rfl; (with_reducible repeat (first | refine blk_drewN ?_ _ | refine blk_drew ?_ | refine blk_alloc ?_ _)); refine blk_put (cs := #[.int .i64 2, .int .i64 0, .int .i64 0, .string (⟨#[]⟩ : ByteArray), .int .i64 0]) ?_ 2 _ rfl; (with_reducible repeat (first | refine blk_drewN ?_ _ | refine blk_drew ?_ | refine blk_alloc ?_ _)); refine blk_put (cs := #[.int .i64 2, .int .i64 0, .int .i64 0, .string (⟨#[]⟩ : ByteArray), .int .i64 0]) ?_ 1 _ rfl; (with_reducible repeat (first | refine blk_drewN ?_ _ | refine blk_drew ?_ | refine blk_alloc ?_ _)); refine blk_put (cs := #[.int .i64 0, .int .i64 0, .int .i64 0, .string (⟨#[]⟩ : ByteArray), .int .i64 0]) ?_ 0 _ rfl; (with_reducible repeat (first | refine blk_drewN ?_ _ | refine blk_drew ?_ | refine blk_alloc ?_ _)); exact BK258.out) Tryd.underlying27 rfl (by kernel_rfl)) rfl ?_
          exact ⟨by first | rfl | (simp [errW_none, errW_some] <;> rfl) | (simp [*, errW_none, errW_some] <;> rfl), by repeat (first | (with_reducible first | exact HB.out | apply below_alloc | apply pw_below_drewN | apply below_drew1 | refine below_set ?_ GE258.out) | exact HB.out)⟩
         ·rw [if_neg c55] at H
          exact absurd H (by simp)
        ·rw [if_neg c54] at H
         exact absurd H (by simp)
      ·rw [if_neg c32] at H
       have c32b0 : (t260 == 5) = false := beq_eq_false_iff_ne.mpr c32
       have c32b1 : (t260 != 5) = true := bne_iff_ne.mpr c32
       by_cases c59 : t260 = 4
       ·rw [if_pos c59] at H
        have c59b0 : (t260 == 4) = true := beq_iff_eq.mpr c59
        have c59b1 : (t260 != 4) = false := bne_eq_false_iff_eq.mpr c59
        clear c59
        replace H := Option.bind_eq_some_iff.mp H
        obtain ⟨⟨t275, t276, t277⟩, A600, H⟩ := H
        replace H : (if t277 = 0 then (if 0 ≤ t276 then (if t276 ≤ (l0.length : Int) then (some (4, 0, t276, strOfNums (l0.take (t276 : Int).toNat), 0)) else (none)) else (none)) else (some (8, 0, t276, (⟨#[]⟩ : ByteArray), t277))) = some (r1, r2, r3, r4, r5) := H
        have A60 := Aside0.mk A600
        clear A600
        by_cases c61 : t277 = 0
        ·rw [if_pos c61] at H
         have c61b0 : (t277 == 0) = true := beq_iff_eq.mpr c61
         have c61b1 : (t277 != 0) = false := bne_eq_false_iff_eq.mpr c61
         clear c61
         by_cases c62 : 0 ≤ t276
         ·rw [if_pos c62] at H
          have c62b0 := eq_true c62
          have c62b1 : decide (0 ≤ t276) = true := decide_eq_true c62
          clear c62
          by_cases c63 : t276 ≤ (l0.length : Int)
          ·rw [if_pos c63] at H
           have c63b0 := eq_true c63
           have c63b1 : decide (t276 ≤ (l0.length : Int)) = true := decide_eq_true c63
           clear c63
           simp only [Option.some.injEq, Prod.mk.injEq] at H
           obtain ⟨rfl, rfl, rfl, rfl, rfl⟩ := H
           go_wp2_with (first | ((with_reducible refine gate_callee (f := 36) rfl ?_); refine goesL_ (some 88) rfl rfl Tryd.func36 (by kernel_rfl) rfl #[.slice (some ad259) l0.length c0] rfl (by (try simp only [List.map_toArray, List.map_cons, List.map_nil]); first | done | rfl | (simp only [List.length_drop, List.length_take]; rfl)) ?_; (with_reducible refine (tmesisref03_Take.calls kj4 _ _ l0 t275 t276 t277 _ ?side1 ?side2 A60.out).mono ?_); (case side1 => repeat (first | exact (Kd.C_below HR0.out HB.out) | (with_reducible refine Kd.C_alloc ?_ _) | (with_reducible refine Kd.C_drewN ?_ _) | (with_reducible refine Kd.C_drew ?_))); (case side2 => exact HC0.out); rintro e w' ⟨rfl, ⟨nd, rfl⟩⟩; refine ⟨_, rfl, ?_⟩; (try (rw [drewN_self wc]; generalize hq_ : World.drewN wc _ = wc; have n0_ : Aside0 (wc.heap[gb258]? = some (.cells #[.int .i64 0, .int .i64 0, .int .i64 0, .string (⟨#[]⟩ : ByteArray), .int .i64 0] 27 (0, 0))) := ⟨by rw [← hq_]; exact (by (with_reducible repeat (first | refine blk_drewN ?_ _ | refine blk_drew ?_ | refine blk_alloc ?_ _)); exact BK258.out)⟩; have n1_ : Aside0 (Below w.heap.size w wc) := ⟨by rw [← hq_]; exact (by repeat (first | (with_reducible first | exact HB.out | apply below_alloc | apply pw_below_drewN | apply below_drew1 | refine below_set ?_ GE258.out) | exact HB.out))⟩; clear BK258 HB hq_; have BK258 := n0_; have HB := n1_; clear n0_ n1_)); obtain ⟨i064, hi064, _, hsz64, _⟩ := info_parts info5; obtain ⟨hcut64, hA64, hC64⟩ := print_take_of (P := Tryd.prog) (Value.int .u8) 0 22 5 .i64 Tryd.underlying22 hi064 hsz64 (some ad259) c0 l0 t276 (of_decide_eq_true (by first | (with_reducible assumption) | assumption)) (of_decide_eq_true (by first | (with_reducible assumption) | assumption)) HC0.out; have HR278 := Aside0.mk (Kd.C_of_reads (h1 := fun _ => rfl) (hA64 _ (Kd.reads_of_C HR0.out))); have HC278 := Aside0.mk hC64; clear hA64 hC64 hi064 hsz64; have hcv65 := Kd.C_string (P := Tryd.prog) (A := (some ad259)) (c := c0) Tryd.underlying22 Tryd.underlying5 Tryd.underlying9 (Kd.C_below HR278.out HB.out); have hcv65z := hcv65; (try rw [List.length_drop, List.length_take, Nat.min_eq_left (Int.toNat_le.mpr (of_decide_eq_true (by first | (with_reducible assumption) | assumption)))] at hcv65z); have hcv65y := hcv65; (try rw [List.length_take, Nat.min_eq_left (Int.toNat_le.mpr (of_decide_eq_true (by first | (with_reducible assumption) | assumption)))] at hcv65y); have hcv65x := hcv65; (try rw [List.length_take, Nat.min_eq_left (by have h_ := of_decide_eq_true (by assumption); omega)] at hcv65x); have hcv65m := hcv65; (try simp only [Int.reduceToNat, List.length_take] at hcv65m); have hcv65q := fun (q_ : Nat) => Kd.C_string (P := Tryd.prog) (A := (some ad259)) (c := c0) Tryd.underlying22 Tryd.underlying5 Tryd.underlying9 (Kd.C_drewN (Kd.C_below HR278.out HB.out) q_); have hcv65qy := hcv65q; (try simp only [List.length_take, Nat.min_eq_left (Int.toNat_le.mpr (of_decide_eq_true (by first | (with_reducible assumption) | assumption)))] at hcv65qy); have hcv65qw := hcv65q; (try simp only [Int.reduceToNat] at hcv65qw); have hcv65qv := hcv65qy; (try simp only [Int.reduceToNat] at hcv65qv); have hcv65qu := hcv65q; (try simp only [Int.reduceToNat, List.length_take] at hcv65qu); have hcz66_0 : wc.cell? ⟨gb258, 0, none⟩ = some (.int .i64 0) := (blk_cell BK258.out 0).trans rfl; have hcz66_1 : wc.cell? ⟨gb258, 1, none⟩ = some (.int .i64 0) := (blk_cell BK258.out 1).trans rfl; have hcz66_2 : wc.cell? ⟨gb258, 2, none⟩ = some (.int .i64 0) := (blk_cell BK258.out 2).trans rfl; have hcz66_3 : wc.cell? ⟨gb258, 3, none⟩ = some (.string (⟨#[]⟩ : ByteArray)) := (blk_cell BK258.out 3).trans rfl; have hcz66_4 : wc.cell? ⟨gb258, 4, none⟩ = some (.int .i64 0) := (blk_cell BK258.out 4).trans rfl; have hfz66_0 := blk_frozen BK258.out 0; have hfz66_1 := blk_frozen BK258.out 1; have hfz66_2 := blk_frozen BK258.out 2; have hfz66_3 := blk_frozen BK258.out 3; have hfz66_4 := blk_frozen BK258.out 4))
           refine bodyPost_ret (results_cell_row rfl _ _ gb258 27 #[.int .i64 4, .int .i64 0, .int .i64 t276, .string (strOfNums (l0.take (t276 : Int).toNat)), .int .i64 0] (0, 0) _ rfl (by (with_reducible repeat (first | refine blk_drewN ?_ _ | refine blk_drew ?_ | refine blk_alloc ?_ _)); refine blk_put (cs := #[.int .i64 4, .int .i64 0, .int .i64 t276, .string (strOfNums (l0.take (t276 : Int).toNat)), .int .i64 0]) ?_ 4 _ rfl; (with_reducible repeat (first | refine blk_drewN ?_ _ | refine blk_drew ?_ | refine blk_alloc ?_ _)); refine blk_put (cs := #[.int .i64 4, .int .i64 0, .int .i64 t276, .string (⟨#[]⟩ : ByteArray), .int .i64 0]) ?_ 3 _ rfl; (with_reducible repeat (first | refine blk_drewN ?_ _ | refine blk_drew ?_ | refine blk_alloc ?_ _)); refine blk_put (cs := #[.int .i64 4, .int .i64 0, .int .i64 0, .string (⟨#[]⟩ : ByteArray), .int .i64 0]) ?_ 2 _ rfl; (with_reducible repeat (first | refine blk_drewN ?_ _ | refine blk_drew ?_ | refine blk_alloc ?_ _)); refine blk_put (cs := #[.int .i64 4, .int .i64 0, .int .i64 0, .string (⟨#[]⟩ : ByteArray), .int .i64 0]) ?_ 1 _ rfl; (with_reducible repeat (first | refine blk_drewN ?_ _ | refine blk_drew ?_ | refine blk_alloc ?_ _)); refine blk_put (cs := #[.int .i64 0, .int .i64 0, .int .i64 0, .string (⟨#[]⟩ : ByteArray), .int .i64 0]) ?_ 0 _ rfl; (with_reducible repeat (first | refine blk_drewN ?_ _ | refine blk_drew ?_ | refine blk_alloc ?_ _)); exact BK258.out) Tryd.underlying27 rfl (by kernel_rfl)) rfl ?_
           exact ⟨by first | rfl | (simp [errW_none, errW_some] <;> rfl) | (simp [*, errW_none, errW_some] <;> rfl), by repeat (first | (with_reducible first | exact HB.out | apply below_alloc | apply pw_below_drewN | apply below_drew1 | refine below_set ?_ GE258.out) | exact HB.out)⟩
          ·rw [if_neg c63] at H
           exact absurd H (by simp)
         ·rw [if_neg c62] at H
          exact absurd H (by simp)
        ·rw [if_neg c61] at H
         have c61b0 : (t277 == 0) = false := beq_eq_false_iff_ne.mpr c61
         have c61b1 : (t277 != 0) = true := bne_iff_ne.mpr c61
         simp only [Option.some.injEq, Prod.mk.injEq] at H
         obtain ⟨rfl, rfl, rfl, rfl, rfl⟩ := H
         go_wp2_with (first | ((with_reducible refine gate_callee (f := 36) rfl ?_); refine goesL_ (some 88) rfl rfl Tryd.func36 (by kernel_rfl) rfl #[.slice (some ad259) l0.length c0] rfl (by (try simp only [List.map_toArray, List.map_cons, List.map_nil]); first | done | rfl | (simp only [List.length_drop, List.length_take]; rfl)) ?_; (with_reducible refine (tmesisref03_Take.calls kj4 _ _ l0 t275 t276 t277 _ ?side1 ?side2 A60.out).mono ?_); (case side1 => repeat (first | exact (Kd.C_below HR0.out HB.out) | (with_reducible refine Kd.C_alloc ?_ _) | (with_reducible refine Kd.C_drewN ?_ _) | (with_reducible refine Kd.C_drew ?_))); (case side2 => exact HC0.out); rintro e w' ⟨rfl, ⟨nd, rfl⟩⟩; refine ⟨_, rfl, ?_⟩; (try (rw [drewN_self wc]; generalize hq_ : World.drewN wc _ = wc; have n0_ : Aside0 (wc.heap[gb258]? = some (.cells #[.int .i64 0, .int .i64 0, .int .i64 0, .string (⟨#[]⟩ : ByteArray), .int .i64 0] 27 (0, 0))) := ⟨by rw [← hq_]; exact (by (with_reducible repeat (first | refine blk_drewN ?_ _ | refine blk_drew ?_ | refine blk_alloc ?_ _)); exact BK258.out)⟩; have n1_ : Aside0 (Below w.heap.size w wc) := ⟨by rw [← hq_]; exact (by repeat (first | (with_reducible first | exact HB.out | apply below_alloc | apply pw_below_drewN | apply below_drew1 | refine below_set ?_ GE258.out) | exact HB.out))⟩; clear BK258 HB hq_; have BK258 := n0_; have HB := n1_; clear n0_ n1_)); have hcz67_0 : wc.cell? ⟨gb258, 0, none⟩ = some (.int .i64 0) := (blk_cell BK258.out 0).trans rfl; have hcz67_1 : wc.cell? ⟨gb258, 1, none⟩ = some (.int .i64 0) := (blk_cell BK258.out 1).trans rfl; have hcz67_2 : wc.cell? ⟨gb258, 2, none⟩ = some (.int .i64 0) := (blk_cell BK258.out 2).trans rfl; have hcz67_3 : wc.cell? ⟨gb258, 3, none⟩ = some (.string (⟨#[]⟩ : ByteArray)) := (blk_cell BK258.out 3).trans rfl; have hcz67_4 : wc.cell? ⟨gb258, 4, none⟩ = some (.int .i64 0) := (blk_cell BK258.out 4).trans rfl; have hfz67_0 := blk_frozen BK258.out 0; have hfz67_1 := blk_frozen BK258.out 1; have hfz67_2 := blk_frozen BK258.out 2; have hfz67_3 := blk_frozen BK258.out 3; have hfz67_4 := blk_frozen BK258.out 4))
         refine bodyPost_ret (results_cell_row rfl _ _ gb258 27 #[.int .i64 8, .int .i64 0, .int .i64 t276, .string (⟨#[]⟩ : ByteArray), .int .i64 t277] (0, 0) _ rfl (by (with_reducible repeat (first | refine blk_drewN ?_ _ | refine blk_drew ?_ | refine blk_alloc ?_ _)); refine blk_put (cs := #[.int .i64 8, .int .i64 0, .int .i64 t276, .string (⟨#[]⟩ : ByteArray), .int .i64 0]) ?_ 4 _ rfl; (with_reducible repeat (first | refine blk_drewN ?_ _ | refine blk_drew ?_ | refine blk_alloc ?_ _)); refine blk_put (cs := #[.int .i64 8, .int .i64 0, .int .i64 t276, .string (⟨#[]⟩ : ByteArray), .int .i64 0]) ?_ 3 _ rfl; (with_reducible repeat (first | refine blk_drewN ?_ _ | refine blk_drew ?_ | refine blk_alloc ?_ _)); refine blk_put (cs := #[.int .i64 8, .int .i64 0, .int .i64 0, .string (⟨#[]⟩ : ByteArray), .int .i64 0]) ?_ 2 _ rfl; (with_reducible repeat (first | refine blk_drewN ?_ _ | refine blk_drew ?_ | refine blk_alloc ?_ _)); refine blk_put (cs := #[.int .i64 8, .int .i64 0, .int .i64 0, .string (⟨#[]⟩ : ByteArray), .int .i64 0]) ?_ 1 _ rfl; (with_reducible repeat (first | refine blk_drewN ?_ _ | refine blk_drew ?_ | refine blk_alloc ?_ _)); refine blk_put (cs := #[.int .i64 0, .int .i64 0, .int .i64 0, .string (⟨#[]⟩ : ByteArray), .int .i64 0]) ?_ 0 _ rfl; (with_reducible repeat (first | refine blk_drewN ?_ _ | refine blk_drew ?_ | refine blk_alloc ?_ _)); exact BK258.out) Tryd.underlying27 rfl (by kernel_rfl)) rfl ?_
         exact ⟨by first | rfl | (simp [errW_none, errW_some] <;> rfl) | (simp [*, errW_none, errW_some] <;> rfl), by repeat (first | (with_reducible first | exact HB.out | apply below_alloc | apply pw_below_drewN | apply below_drew1 | refine below_set ?_ GE258.out) | exact HB.out)⟩
       ·rw [if_neg c59] at H
        have c59b0 : (t260 == 4) = false := beq_eq_false_iff_ne.mpr c59
        have c59b1 : (t260 != 4) = true := bne_iff_ne.mpr c59
        by_cases c68 : t260 = 7
        ·rw [if_pos c68] at H
         have c68b0 : (t260 == 7) = true := beq_iff_eq.mpr c68
         have c68b1 : (t260 != 7) = false := bne_eq_false_iff_eq.mpr c68
         clear c68
         replace H := Option.bind_eq_some_iff.mp H
         obtain ⟨⟨t279, t280, t281⟩, A690, H⟩ := H
         replace H : (if t281 = 0 then (some (5, 0, t280, strOfNums t279, 0)) else (some (8, 0, t280, (⟨#[]⟩ : ByteArray), t281))) = some (r1, r2, r3, r4, r5) := H
         have A69 := Aside0.mk A690
         clear A690
         by_cases c70 : t281 = 0
         ·rw [if_pos c70] at H
          have c70b0 : (t281 == 0) = true := beq_iff_eq.mpr c70
          have c70b1 : (t281 != 0) = false := bne_eq_false_iff_eq.mpr c70
          clear c70
          simp only [Option.some.injEq, Prod.mk.injEq] at H
          obtain ⟨rfl, rfl, rfl, rfl, rfl⟩ := H
          go_wp2_with (first | ((with_reducible refine gate_callee (f := 37) rfl ?_); refine goesL_ (some 107) rfl rfl Tryd.func37 (by kernel_rfl) rfl #[.slice (some ad259) l0.length c0] rfl (by (try simp only [List.map_toArray, List.map_cons, List.map_nil]); first | done | rfl | (simp only [List.length_drop, List.length_take]; rfl)) ?_; (with_reducible refine (tmesisref04_Take.calls kj4 _ _ l0 t279 t280 t281 _ ?side1 ?side2 A69.out).mono ?_); (case side1 => repeat (first | exact (Kd.C_below HR0.out HB.out) | (with_reducible refine Kd.C_alloc ?_ _) | (with_reducible refine Kd.C_drewN ?_ _) | (with_reducible refine Kd.C_drew ?_))); (case side2 => exact HC0.out); rintro e w71 ⟨v282, rfl, ho0, hb⟩; refine ⟨_, rfl, ?_⟩; have n0_ := Aside0.mk (Kd.R_lower ho0 (below_size (by repeat (first | (with_reducible first | exact HB.out | apply below_alloc | apply pw_below_drewN | apply below_drew1 | refine below_set ?_ GE258.out) | exact HB.out)))); have n1_ := Aside0.mk (blk_below (g := gb258) (o := .cells #[.int .i64 0, .int .i64 0, .int .i64 0, .string (⟨#[]⟩ : ByteArray), .int .i64 0] 27 (0, 0)) (by (with_reducible repeat (first | refine blk_drewN ?_ _ | refine blk_drew ?_ | refine blk_alloc ?_ _)); exact BK258.out) hb); have n2_ := Aside0.mk (below_step (by repeat (first | (with_reducible first | exact HB.out | apply below_alloc | apply pw_below_drewN | apply below_drew1 | refine below_set ?_ GE258.out) | exact HB.out)) hb); clear BK258; clear HB; have HO283 := n0_; have BK258 := n1_; have HB := n2_; clear n0_ n1_ n2_; (try clear hb); (try clear hb2); (try clear hk); (try clear hi); (try clear ho0); (first | (have hcv72 := own_string (P := Tryd.prog) Tryd.underlying22 Tryd.underlying5 Tryd.underlying9 (Kd.own_of_R HO283.out); have hcv72q := fun (q_ : Nat) => own_string (P := Tryd.prog) Tryd.underlying22 Tryd.underlying5 Tryd.underlying9 (pw_own_drewN (Kd.own_of_R HO283.out) q_)) | (have hcv72 := V_string (P := Tryd.prog) Tryd.underlying22 Tryd.underlying5 Tryd.underlying9 HO283.out; have hcv72q := fun (q_ : Nat) => V_string (P := Tryd.prog) Tryd.underlying22 Tryd.underlying5 Tryd.underlying9 (Kd.V_drewN HO283.out q_))); have hcz73_0 : w71.cell? ⟨gb258, 0, none⟩ = some (.int .i64 0) := (blk_cell BK258.out 0).trans rfl; have hcz73_1 : w71.cell? ⟨gb258, 1, none⟩ = some (.int .i64 0) := (blk_cell BK258.out 1).trans rfl; have hcz73_2 : w71.cell? ⟨gb258, 2, none⟩ = some (.int .i64 0) := (blk_cell BK258.out 2).trans rfl; have hcz73_3 : w71.cell? ⟨gb258, 3, none⟩ = some (.string (⟨#[]⟩ : ByteArray)) := (blk_cell BK258.out 3).trans rfl; have hcz73_4 : w71.cell? ⟨gb258, 4, none⟩ = some (.int .i64 0) := (blk_cell BK258.out 4).trans rfl; have hfz73_0 := blk_frozen BK258.out 0; have hfz73_1 := blk_frozen BK258.out 1; have hfz73_2 := blk_frozen BK258.out 2; have hfz73_3 := blk_frozen BK258.out 3; have hfz73_4 := blk_frozen BK258.out 4))
          refine bodyPost_ret (results_cell_row rfl _ _ gb258 27 #[.int .i64 5, .int .i64 0, .int .i64 t280, .string (strOfNums t279), .int .i64 0] (0, 0) _ rfl (by (with_reducible repeat (first | refine blk_drewN ?_ _ | refine blk_drew ?_ | refine blk_alloc ?_ _)); refine blk_put (cs := #[.int .i64 5, .int .i64 0, .int .i64 t280, .string (strOfNums t279), .int .i64 0]) ?_ 4 _ rfl; (with_reducible repeat (first | refine blk_drewN ?_ _ | refine blk_drew ?_ | refine blk_alloc ?_ _)); refine blk_put (cs := #[.int .i64 5, .int .i64 0, .int .i64 t280, .string (⟨#[]⟩ : ByteArray), .int .i64 0]) ?_ 3 _ rfl; (with_reducible repeat (first | refine blk_drewN ?_ _ | refine blk_drew ?_ | refine blk_alloc ?_ _)); refine blk_put (cs := #[.int .i64 5, .int .i64 0, .int .i64 0, .string (⟨#[]⟩ : ByteArray), .int .i64 0]) ?_ 2 _ rfl; (with_reducible repeat (first | refine blk_drewN ?_ _ | refine blk_drew ?_ | refine blk_alloc ?_ _)); refine blk_put (cs := #[.int .i64 5, .int .i64 0, .int .i64 0, .string (⟨#[]⟩ : ByteArray), .int .i64 0]) ?_ 1 _ rfl; (with_reducible repeat (first | refine blk_drewN ?_ _ | refine blk_drew ?_ | refine blk_alloc ?_ _)); refine blk_put (cs := #[.int .i64 0, .int .i64 0, .int .i64 0, .string (⟨#[]⟩ : ByteArray), .int .i64 0]) ?_ 0 _ rfl; (with_reducible repeat (first | refine blk_drewN ?_ _ | refine blk_drew ?_ | refine blk_alloc ?_ _)); exact BK258.out) Tryd.underlying27 rfl (by kernel_rfl)) rfl ?_
          exact ⟨by first | rfl | (simp [errW_none, errW_some] <;> rfl) | (simp [*, errW_none, errW_some] <;> rfl), by repeat (first | (with_reducible first | exact HB.out | apply below_alloc | apply pw_below_drewN | apply below_drew1 | refine below_set ?_ GE258.out) | exact HB.out)⟩
         ·rw [if_neg c70] at H
          have c70b0 : (t281 == 0) = false := beq_eq_false_iff_ne.mpr c70
          have c70b1 : (t281 != 0) = true := bne_iff_ne.mpr c70
          simp only [Option.some.injEq, Prod.mk.injEq] at H
          obtain ⟨rfl, rfl, rfl, rfl, rfl⟩ := H
          go_wp2_with (first | ((with_reducible refine gate_callee (f := 37) rfl ?_); refine goesL_ (some 107) rfl rfl Tryd.func37 (by kernel_rfl) rfl #[.slice (some ad259) l0.length c0] rfl (by (try simp only [List.map_toArray, List.map_cons, List.map_nil]); first | done | rfl | (simp only [List.length_drop, List.length_take]; rfl)) ?_; (with_reducible refine (tmesisref04_Take.calls kj4 _ _ l0 t279 t280 t281 _ ?side1 ?side2 A69.out).mono ?_); (case side1 => repeat (first | exact (Kd.C_below HR0.out HB.out) | (with_reducible refine Kd.C_alloc ?_ _) | (with_reducible refine Kd.C_drewN ?_ _) | (with_reducible refine Kd.C_drew ?_))); (case side2 => exact HC0.out); rintro e w74 ⟨v282, rfl, ho0, hb⟩; refine ⟨_, rfl, ?_⟩; have n0_ := Aside0.mk (Kd.R_lower ho0 (below_size (by repeat (first | (with_reducible first | exact HB.out | apply below_alloc | apply pw_below_drewN | apply below_drew1 | refine below_set ?_ GE258.out) | exact HB.out)))); have n1_ := Aside0.mk (blk_below (g := gb258) (o := .cells #[.int .i64 0, .int .i64 0, .int .i64 0, .string (⟨#[]⟩ : ByteArray), .int .i64 0] 27 (0, 0)) (by (with_reducible repeat (first | refine blk_drewN ?_ _ | refine blk_drew ?_ | refine blk_alloc ?_ _)); exact BK258.out) hb); have n2_ := Aside0.mk (below_step (by repeat (first | (with_reducible first | exact HB.out | apply below_alloc | apply pw_below_drewN | apply below_drew1 | refine below_set ?_ GE258.out) | exact HB.out)) hb); clear BK258; clear HB; have HO283 := n0_; have BK258 := n1_; have HB := n2_; clear n0_ n1_ n2_; (try clear hb); (try clear hb2); (try clear hk); (try clear hi); (try clear ho0); have hcz75_0 : w74.cell? ⟨gb258, 0, none⟩ = some (.int .i64 0) := (blk_cell BK258.out 0).trans rfl; have hcz75_1 : w74.cell? ⟨gb258, 1, none⟩ = some (.int .i64 0) := (blk_cell BK258.out 1).trans rfl; have hcz75_2 : w74.cell? ⟨gb258, 2, none⟩ = some (.int .i64 0) := (blk_cell BK258.out 2).trans rfl; have hcz75_3 : w74.cell? ⟨gb258, 3, none⟩ = some (.string (⟨#[]⟩ : ByteArray)) := (blk_cell BK258.out 3).trans rfl; have hcz75_4 : w74.cell? ⟨gb258, 4, none⟩ = some (.int .i64 0) := (blk_cell BK258.out 4).trans rfl; have hfz75_0 := blk_frozen BK258.out 0; have hfz75_1 := blk_frozen BK258.out 1; have hfz75_2 := blk_frozen BK258.out 2; have hfz75_3 := blk_frozen BK258.out 3; have hfz75_4 := blk_frozen BK258.out 4))
          refine bodyPost_ret (results_cell_row rfl _ _ gb258 27 #[.int .i64 8, .int .i64 0, .int .i64 t280, .string (⟨#[]⟩ : ByteArray), .int .i64 t281] (0, 0) _ rfl (by (with_reducible repeat (first | refine blk_drewN ?_ _ | refine blk_drew ?_ | refine blk_alloc ?_ _)); refine blk_put (cs := #[.int .i64 8, .int .i64 0, .int .i64 t280, .string (⟨#[]⟩ : ByteArray), .int .i64 0]) ?_ 4 _ rfl; (with_reducible repeat (first | refine blk_drewN ?_ _ | refine blk_drew ?_ | refine blk_alloc ?_ _)); refine blk_put (cs := #[.int .i64 8, .int .i64 0, .int .i64 t280, .string (⟨#[]⟩ : ByteArray), .int .i64 0]) ?_ 3 _ rfl; (with_reducible repeat (first | refine blk_drewN ?_ _ | refine blk_drew ?_ | refine blk_alloc ?_ _)); refine blk_put (cs := #[.int .i64 8, .int .i64 0, .int .i64 0, .string (⟨#[]⟩ : ByteArray), .int .i64 0]) ?_ 2 _ rfl; (with_reducible repeat (first | refine blk_drewN ?_ _ | refine blk_drew ?_ | refine blk_alloc ?_ _)); refine blk_put (cs := #[.int .i64 8, .int .i64 0, .int .i64 0, .string (⟨#[]⟩ : ByteArray), .int .i64 0]) ?_ 1 _ rfl; (with_reducible repeat (first | refine blk_drewN ?_ _ | refine blk_drew ?_ | refine blk_alloc ?_ _)); refine blk_put (cs := #[.int .i64 0, .int .i64 0, .int .i64 0, .string (⟨#[]⟩ : ByteArray), .int .i64 0]) ?_ 0 _ rfl; (with_reducible repeat (first | refine blk_drewN ?_ _ | refine blk_drew ?_ | refine blk_alloc ?_ _)); exact BK258.out) Tryd.underlying27 rfl (by kernel_rfl)) rfl ?_
          exact ⟨by first | rfl | (simp [errW_none, errW_some] <;> rfl) | (simp [*, errW_none, errW_some] <;> rfl), by repeat (first | (with_reducible first | exact HB.out | apply below_alloc | apply pw_below_drewN | apply below_drew1 | refine below_set ?_ GE258.out) | exact HB.out)⟩
        ·rw [if_neg c68] at H
         have c68b0 : (t260 == 7) = false := beq_eq_false_iff_ne.mpr c68
         have c68b1 : (t260 != 7) = true := bne_iff_ne.mpr c68
         by_cases c76 : t260 = 6
         ·rw [if_pos c76] at H
          have c76b0 : (t260 == 6) = true := beq_iff_eq.mpr c76
          have c76b1 : (t260 != 6) = false := bne_eq_false_iff_eq.mpr c76
          clear c76
          by_cases c77 : 1 ≤ (l0.length : Int)
          ·rw [if_pos c77] at H
           have c77b0 := eq_true c77
           have c77b1 : decide (1 ≤ (l0.length : Int)) = true := decide_eq_true c77
           clear c77
           simp only [Option.some.injEq, Prod.mk.injEq] at H
           obtain ⟨rfl, rfl, rfl, rfl, rfl⟩ := H
           obtain ⟨i078, hi078, _, hsz78, _⟩ := info_parts info5
           obtain ⟨hcut78, hA78, hC78⟩ := print_take_of (P := Tryd.prog) (Value.int .u8) 0 22 5 .i64 Tryd.underlying22 hi078 hsz78 (some ad259) c0 l0 1 (by omega) (of_decide_eq_true (by first | (with_reducible assumption) | assumption)) HC0.out
           have HR284 := Aside0.mk (Kd.C_of_reads (h1 := fun _ => rfl) (hA78 _ (Kd.reads_of_C HR0.out)))
           have HC284 := Aside0.mk hC78
           clear hA78 hC78 hi078 hsz78
           have hcv79 := Kd.C_string (P := Tryd.prog) (A := (some ad259)) (c := c0) Tryd.underlying22 Tryd.underlying5 Tryd.underlying9 (Kd.C_below HR284.out HB.out)
           have hcv79z := hcv79
           (try rw [List.length_drop, List.length_take, Nat.min_eq_left (Int.toNat_le.mpr (of_decide_eq_true (by first | (with_reducible assumption) | assumption)))] at hcv79z)
           have hcv79y := hcv79
           (try rw [List.length_take, Nat.min_eq_left (Int.toNat_le.mpr (of_decide_eq_true (by first | (with_reducible assumption) | assumption)))] at hcv79y)
           have hcv79x := hcv79
           (try rw [List.length_take, Nat.min_eq_left (by have h_ := of_decide_eq_true (by assumption); omega)] at hcv79x)
           have hcv79m := hcv79
           (try simp only [Int.reduceToNat, List.length_take] at hcv79m)
           have hcv79q := fun (q_ : Nat) => Kd.C_string (P := Tryd.prog) (A := (some ad259)) (c := c0) Tryd.underlying22 Tryd.underlying5 Tryd.underlying9 (Kd.C_drewN (Kd.C_below HR284.out HB.out) q_)
           have hcv79qy := hcv79q
           (try simp only [List.length_take, Nat.min_eq_left (Int.toNat_le.mpr (of_decide_eq_true (by first | (with_reducible assumption) | assumption)))] at hcv79qy)
           have hcv79qw := hcv79q
           (try simp only [Int.reduceToNat] at hcv79qw)
           have hcv79qv := hcv79qy
           (try simp only [Int.reduceToNat] at hcv79qv)
           have hcv79qu := hcv79q
           (try simp only [Int.reduceToNat, List.length_take] at hcv79qu)
           have hcz80_0 : wc.cell? ⟨gb258, 0, none⟩ = some (.int .i64 0) := (blk_cell BK258.out 0).trans rfl
           have hcz80_1 : wc.cell? ⟨gb258, 1, none⟩ = some (.int .i64 0) := (blk_cell BK258.out 1).trans rfl
           have hcz80_2 : wc.cell? ⟨gb258, 2, none⟩ = some (.int .i64 0) := (blk_cell BK258.out 2).trans rfl
           have hcz80_3 : wc.cell? ⟨gb258, 3, none⟩ = some (.string (⟨#[]⟩ : ByteArray)) := (blk_cell BK258.out 3).trans rfl
           have hcz80_4 : wc.cell? ⟨gb258, 4, none⟩ = some (.int .i64 0) := (blk_cell BK258.out 4).trans rfl
           have hfz80_0 := blk_frozen BK258.out 0
           have hfz80_1 := blk_frozen BK258.out 1
           have hfz80_2 := blk_frozen BK258.out 2
           have hfz80_3 := blk_frozen BK258.out 3
           have hfz80_4 := blk_frozen BK258.out 4
           go_wp2
           refine bodyPost_ret (results_cell_row rfl _ _ gb258 27 #[.int .i64 6, .int .i64 0, .int .i64 1, .string (strOfNums (l0.take 1)), .int .i64 0] (0, 0) _ rfl (by (with_reducible repeat (first | refine blk_drewN ?_ _ | refine blk_drew ?_ | refine blk_alloc ?_ _)); refine blk_put (cs := #[.int .i64 6, .int .i64 0, .int .i64 1, .string (strOfNums (l0.take 1)), .int .i64 0]) ?_ 4 _ rfl; (with_reducible repeat (first | refine blk_drewN ?_ _ | refine blk_drew ?_ | refine blk_alloc ?_ _)); refine blk_put (cs := #[.int .i64 6, .int .i64 0, .int .i64 1, .string (⟨#[]⟩ : ByteArray), .int .i64 0]) ?_ 3 _ rfl; (with_reducible repeat (first | refine blk_drewN ?_ _ | refine blk_drew ?_ | refine blk_alloc ?_ _)); refine blk_put (cs := #[.int .i64 6, .int .i64 0, .int .i64 0, .string (⟨#[]⟩ : ByteArray), .int .i64 0]) ?_ 2 _ rfl; (with_reducible repeat (first | refine blk_drewN ?_ _ | refine blk_drew ?_ | refine blk_alloc ?_ _)); refine blk_put (cs := #[.int .i64 6, .int .i64 0, .int .i64 0, .string (⟨#[]⟩ : ByteArray), .int .i64 0]) ?_ 1 _ rfl; (with_reducible repeat (first | refine blk_drewN ?_ _ | refine blk_drew ?_ | refine blk_alloc ?_ _)); refine blk_put (cs := #[.int .i64 0, .int .i64 0, .int .i64 0, .string (⟨#[]⟩ : ByteArray), .int .i64 0]) ?_ 0 _ rfl; (with_reducible repeat (first | refine blk_drewN ?_ _ | refine blk_drew ?_ | refine blk_alloc ?_ _)); exact BK258.out) Tryd.underlying27 rfl (by kernel_rfl)) rfl ?_
           exact ⟨by first | rfl | (simp [errW_none, errW_some] <;> rfl) | (simp [*, errW_none, errW_some] <;> rfl), by repeat (first | (with_reducible first | exact HB.out | apply below_alloc | apply pw_below_drewN | apply below_drew1 | refine below_set ?_ GE258.out) | exact HB.out)⟩
          ·rw [if_neg c77] at H
           exact absurd H (by simp)
         ·rw [if_neg c76] at H
          have c76b0 : (t260 == 6) = false := beq_eq_false_iff_ne.mpr c76
          have c76b1 : (t260 != 6) = true := bne_iff_ne.mpr c76
          simp only [Option.some.injEq, Prod.mk.injEq] at H
          obtain ⟨rfl, rfl, rfl, rfl, rfl⟩ := H
          have hcz81_0 : wc.cell? ⟨gb258, 0, none⟩ = some (.int .i64 0) := (blk_cell BK258.out 0).trans rfl
          have hcz81_1 : wc.cell? ⟨gb258, 1, none⟩ = some (.int .i64 0) := (blk_cell BK258.out 1).trans rfl
          have hcz81_2 : wc.cell? ⟨gb258, 2, none⟩ = some (.int .i64 0) := (blk_cell BK258.out 2).trans rfl
          have hcz81_3 : wc.cell? ⟨gb258, 3, none⟩ = some (.string (⟨#[]⟩ : ByteArray)) := (blk_cell BK258.out 3).trans rfl
          have hcz81_4 : wc.cell? ⟨gb258, 4, none⟩ = some (.int .i64 0) := (blk_cell BK258.out 4).trans rfl
          have hfz81_0 := blk_frozen BK258.out 0
          have hfz81_1 := blk_frozen BK258.out 1
          have hfz81_2 := blk_frozen BK258.out 2
          have hfz81_3 := blk_frozen BK258.out 3
          have hfz81_4 := blk_frozen BK258.out 4
          go_wp2
          refine bodyPost_ret (results_cell_row rfl _ _ gb258 27 #[.int .i64 8, .int .i64 0, .int .i64 1, .string (⟨#[]⟩ : ByteArray), .int .i64 11] (0, 0) _ rfl (by (with_reducible repeat (first | refine blk_drewN ?_ _ | refine blk_drew ?_ | refine blk_alloc ?_ _)); refine blk_put (cs := #[.int .i64 8, .int .i64 0, .int .i64 1, .string (⟨#[]⟩ : ByteArray), .int .i64 0]) ?_ 4 _ rfl; (with_reducible repeat (first | refine blk_drewN ?_ _ | refine blk_drew ?_ | refine blk_alloc ?_ _)); refine blk_put (cs := #[.int .i64 8, .int .i64 0, .int .i64 1, .string (⟨#[]⟩ : ByteArray), .int .i64 0]) ?_ 3 _ rfl; (with_reducible repeat (first | refine blk_drewN ?_ _ | refine blk_drew ?_ | refine blk_alloc ?_ _)); refine blk_put (cs := #[.int .i64 8, .int .i64 0, .int .i64 0, .string (⟨#[]⟩ : ByteArray), .int .i64 0]) ?_ 2 _ rfl; (with_reducible repeat (first | refine blk_drewN ?_ _ | refine blk_drew ?_ | refine blk_alloc ?_ _)); refine blk_put (cs := #[.int .i64 8, .int .i64 0, .int .i64 0, .string (⟨#[]⟩ : ByteArray), .int .i64 0]) ?_ 1 _ rfl; (with_reducible repeat (first | refine blk_drewN ?_ _ | refine blk_drew ?_ | refine blk_alloc ?_ _)); refine blk_put (cs := #[.int .i64 0, .int .i64 0, .int .i64 0, .string (⟨#[]⟩ : ByteArray), .int .i64 0]) ?_ 0 _ rfl; (with_reducible repeat (first | refine blk_drewN ?_ _ | refine blk_drew ?_ | refine blk_alloc ?_ _)); exact BK258.out) Tryd.underlying27 rfl (by kernel_rfl)) rfl ?_
          exact ⟨by first | rfl | (simp [errW_none, errW_some] <;> rfl) | (simp [*, errW_none, errW_some] <;> rfl), by repeat (first | (with_reducible first | exact HB.out | apply below_alloc | apply pw_below_drewN | apply below_drew1 | refine below_set ?_ GE258.out) | exact HB.out)⟩
 ·rw [if_neg c2] at H
  exact absurd H (by simp)
def tmesisref06_Next.j0 : Nat → List Int → Int → Bool → Option (Int × Int × Int × ByteArray × Int × Bool)
 | 0, _, _, _ => none
 | k + 1, x0, x1, x17 => if x17 = true then (some (0, 0, 0, (⟨#[]⟩ : ByteArray), 0, false)) else (if 0 ≤ x1 then (if x1 ≤ (x0.length : Int) then ((tmesisref05_Skip.f k (x0.drop (x1 : Int).toNat)).bind fun bt287 => (if bt287.2 = 0 then (if (wrap64 (x1 + bt287.1)) = (x0.length : Int) then (some (0, 0, 0, (⟨#[]⟩ : ByteArray), 0, false)) else (if 0 ≤ (wrap64 (x1 + bt287.1)) then (if (wrap64 (x1 + bt287.1)) ≤ (x0.length : Int) then ((tmesisref06_first.f k (x0.drop ((wrap64 (x1 + bt287.1)) : Int).toNat)).bind fun bt290 => (some (bt290.1, wrap64 (x1 + bt287.1), wrap64 ((wrap64 (x1 + bt287.1)) + bt290.2.2.1), bt290.2.2.2.1, bt290.2.2.2.2, true))) else (none)) else (none))) else (some (8, wrap64 (x1 + bt287.1), (x0.length : Int), (⟨#[]⟩ : ByteArray), bt287.2, true)))) else (none)) else (none))
def tmesisref06_Next.f (k : Nat) (l0 : List Int) (a1 : Int) : Option (Int × Int × Int × ByteArray × Int × Bool) := if a1 < 0 then (tmesisref06_Next.j0 k l0 a1 true) else (tmesisref06_Next.j0 k l0 a1 (decide (a1 > (l0.length : Int))))
theorem tmesisref06_Next.mono_l : ∀ k, (∀ y0 y1 y2, LeO (tmesisref06_Next.j0 k y0 y1 y2) (tmesisref06_Next.j0 (k + 1) y0 y1 y2))
 | 0 => fun _ _ _ r h => by simp [tmesisref06_Next.j0] at h
 | k + 1 => by
  have ih0 := tmesisref06_Next.mono_l k
  ·intro y0 y1 y2
   unfold tmesisref06_Next.j0
   repeat' first
   | (with_reducible exact ih0 _ _ _)
   | (with_reducible exact tmesisref05_Skip.mono _ _)
   | (with_reducible exact tmesisref06_first.mono _ _)
   | (with_reducible exact LeO.refl _)
   | (with_reducible exact LeO.none _)
   | (with_reducible refine LeO.ite ?_ ?_)
   | (with_reducible refine LeO.bind ?_ (fun _ => ?_))
   | exact ih0 _ _ _
   | exact tmesisref05_Skip.mono _ _
   | exact tmesisref06_first.mono _ _
   | exact LeO.none _
   | refine LeO.ite ?_ ?_
   | refine LeO.bind ?_ (fun _ => ?_)
theorem tmesisref06_Next.mono : ∀ a0 a1 k, LeO (tmesisref06_Next.f k a0 a1) (tmesisref06_Next.f (k + 1) a0 a1) := by
 intro a0 a1 k
 have ih0 := tmesisref06_Next.mono_l k
 unfold tmesisref06_Next.f
 repeat' first
   | (with_reducible exact ih0 _ _ _)
   | (with_reducible exact tmesisref05_Skip.mono _ _)
   | (with_reducible exact tmesisref06_first.mono _ _)
   | (with_reducible exact LeO.refl _)
   | (with_reducible exact LeO.none _)
   | (with_reducible refine LeO.ite ?_ ?_)
   | (with_reducible refine LeO.bind ?_ (fun _ => ?_))
   | exact ih0 _ _ _
   | exact tmesisref05_Skip.mono _ _
   | exact tmesisref06_first.mono _ _
   | exact LeO.none _
   | refine LeO.ite ?_ ?_
   | refine LeO.bind ?_ (fun _ => ?_)
set_option maxHeartbeats 8000000 in
set_option maxRecDepth 100000 in
theorem tmesisref06_Next.calls (k : Nat) (A0 : Option Addr) (c0 : Nat) (l0 : List Int) (a1 : Int) (r1 : Int) (r2 : Int) (r3 : Int) (r4 : ByteArray) (r5 : Int) (r6 : Bool) (w : World) (hr0 : Kd.C (Kd.int .u8) w A0 l0.length l0) (hc0 : l0.length ≤ c0) (h : tmesisref06_Next.f k l0 a1 = some (r1, r2, r3, r4, r5, r6)) :
  Calls Tryd.prog 12 #[.slice A0 l0.length c0, .int .i64 a1] w fun e w' => e = .returned (.tuple #[.agg #[.int .i64 r1, .int .i64 r2, .int .i64 r3, .string r4, .int .i64 r5], .bool r6]) ∧ Below w.heap.size w w' := by
 have hu27 := Tryd.underlying27
 have HR0 := Aside0.mk hr0
 have HC0 := Aside0.mk hc0
 clear hr0 hc0
 have HB := Aside0.mk (Below.refl w.heap.size w)
 have H : (if a1 < 0 then (tmesisref06_Next.j0 k l0 a1 true) else (tmesisref06_Next.j0 k l0 a1 (decide (a1 > (l0.length : Int))))) = some (r1, r2, r3, r4, r5, r6) := h
 clear h
 have HC3 := Aside0.mk H
 clear H
 go_enter Tryd.func12, Tryd.ntmps12
 go_upto_region 1 with (first | ((with_reducible refine gate_dst (N := 4) rfl ?_); (try (refine gate_guard (by rfl) ?_; dsimp only)); refine box_event ?hg (N := 4) ?hd (cs := #[.int .i64 0, .int .i64 0, .int .i64 0, .string (⟨#[]⟩ : ByteArray), .int .i64 0]) (t := 27) ?hr ?_; (case hd => rfl); (case hg => rfl); (case hr => first | (go_simp; done) | (go_simp; rfl)); intro gb285 hg w4 hbox hb; have n0_ := Aside0.mk (below_step (by repeat (first | (with_reducible first | exact HB.out | apply below_alloc | apply pw_below_drewN | apply below_drew1) | exact HB.out)) hb); have n1_ := Aside0.mk (hbox); have n2_ := Aside0.mk ((by rw [hg]; exact (below_size (by repeat (first | (with_reducible first | exact HB.out | apply below_alloc | apply pw_below_drewN | apply below_drew1) | exact HB.out))) : w.heap.size ≤ gb285)); have n3_ := Aside0.mk ((by rw [hg]; exact (below_size (by repeat (first | (with_reducible first | exact HB.out | apply below_alloc | apply pw_below_drewN | apply below_drew1) | exact HB.out))) : w.heap.size ≤ gb285)); clear HB; have HB := n0_; have BK285 := n1_; have GW285 := n2_; have GE285 := n3_; clear n0_ n1_ n2_ n3_; clear hb hbox hg))
 (try simp only [Act.put, List.setIfInBounds_toArray, List.set_cons_zero, List.set_cons_succ])
 go_cut [17] (fun v17 wc => ∃ (kq : Nat) (x17_2 : Bool), v17 = .bool x17_2 ∧ Aside0 (tmesisref06_Next.j0 kq l0 a1 x17_2 = some (r1, r2, r3, r4, r5, r6)) ∧ Aside0 (kq ≤ k) ∧ Aside0 (wc.heap[gb285]? = some (.cells #[.int .i64 0, .int .i64 0, .int .i64 0, .string (⟨#[]⟩ : ByteArray), .int .i64 0] 27 (0, 0))) ∧ Aside0 (Below w.heap.size w wc))
 case first =>
  have H := HC3.out
  clear HC3
  by_cases c5 : a1 < 0
  ·rw [if_pos c5] at H
   have c5b0 : decide (a1 < 0) = true := decide_eq_true c5
   clear c5
   (first | rw [c5b0] | (simp only [i64_w, i32_w]; rw [c5b0]) | skip)
   have H' := Aside0.mk H
   clear H
   go_wp2
   go_meet
   case rel => exact ⟨_, (true), (by first | rfl | (simp; done) | (simp [*]; done)), H', ⟨by first | omega | exact Nat.le_refl _⟩, ⟨by (with_reducible repeat (first | refine blk_drewN ?_ _ | refine blk_drew ?_ | refine blk_alloc ?_ _)); exact BK285.out⟩, ⟨by repeat (first | (with_reducible first | exact HB.out | apply below_alloc | apply pw_below_drewN | apply below_drew1 | refine below_set ?_ GE285.out) | exact HB.out)⟩⟩
  ·rw [if_neg c5] at H
   have c5b0 : decide (a1 < 0) = false := decide_eq_false c5
   clear c5
   (first | rw [c5b0] | (simp only [i64_w, i32_w]; rw [c5b0]) | skip)
   have H' := Aside0.mk H
   clear H
   go_wp2
   go_meet
   case rel => exact ⟨_, (decide (a1 > (l0.length : Int))), (by first | rfl | (simp; done) | (simp [*]; done)), H', ⟨by first | omega | exact Nat.le_refl _⟩, ⟨by (with_reducible repeat (first | refine blk_drewN ?_ _ | refine blk_drew ?_ | refine blk_alloc ?_ _)); exact BK285.out⟩, ⟨by repeat (first | (with_reducible first | exact HB.out | apply below_alloc | apply pw_below_drewN | apply below_drew1 | refine below_set ?_ GE285.out) | exact HB.out)⟩⟩
 case rest =>
  clear HC3
  try clear c1
  try clear p2
  try clear c5
  try clear c5b0
  obtain ⟨kq, x17_2, rfl, HA, HJ2, BK285, HB⟩ := hcut
  cases kq with
  | zero => exact absurd HA.out (by simp [tmesisref06_Next.j0])
  | succ kj2 =>
   have H := HA.out
   clear HA
   simp only [tmesisref06_Next.j0] at H
   by_cases c6 : x17_2 = true
   ·subst c6
    have H1 : (some (0, 0, 0, (⟨#[]⟩ : ByteArray), 0, false)) = some (r1, r2, r3, r4, r5, r6) := by rw [if_pos rfl] at H; exact H
    clear H
    have H := H1
    clear H1
    simp only [Option.some.injEq, Prod.mk.injEq] at H
    obtain ⟨rfl, rfl, rfl, rfl, rfl, rfl⟩ := H
    have hcz7_0 : wc.cell? ⟨gb285, 0, none⟩ = some (.int .i64 0) := (blk_cell BK285.out 0).trans rfl
    have hcz7_1 : wc.cell? ⟨gb285, 1, none⟩ = some (.int .i64 0) := (blk_cell BK285.out 1).trans rfl
    have hcz7_2 : wc.cell? ⟨gb285, 2, none⟩ = some (.int .i64 0) := (blk_cell BK285.out 2).trans rfl
    have hcz7_3 : wc.cell? ⟨gb285, 3, none⟩ = some (.string (⟨#[]⟩ : ByteArray)) := (blk_cell BK285.out 3).trans rfl
    have hcz7_4 : wc.cell? ⟨gb285, 4, none⟩ = some (.int .i64 0) := (blk_cell BK285.out 4).trans rfl
    have hfz7_0 := blk_frozen BK285.out 0
    have hfz7_1 := blk_frozen BK285.out 1
    have hfz7_2 := blk_frozen BK285.out 2
    have hfz7_3 := blk_frozen BK285.out 3
    have hfz7_4 := blk_frozen BK285.out 4
    go_wp2
    refine bodyPost_ret (results_ct rfl _ _ gb285 27 #[.int .i64 0, .int .i64 0, .int .i64 0, .string (⟨#[]⟩ : ByteArray), .int .i64 0] (0, 0) _ rfl (by (with_reducible repeat (first | refine blk_drewN ?_ _ | refine blk_drew ?_ | refine blk_alloc ?_ _)); refine blk_put (cs := #[.int .i64 0, .int .i64 0, .int .i64 0, .string (⟨#[]⟩ : ByteArray), .int .i64 0]) ?_ 4 _ rfl; (with_reducible repeat (first | refine blk_drewN ?_ _ | refine blk_drew ?_ | refine blk_alloc ?_ _)); refine blk_put (cs := #[.int .i64 0, .int .i64 0, .int .i64 0, .string (⟨#[]⟩ : ByteArray), .int .i64 0]) ?_ 3 _ rfl; (with_reducible repeat (first | refine blk_drewN ?_ _ | refine blk_drew ?_ | refine blk_alloc ?_ _)); refine blk_put (cs := #[.int .i64 0, .int .i64 0, .int .i64 0, .string (⟨#[]⟩ : ByteArray), .int .i64 0]) ?_ 2 _ rfl; (with_reducible repeat (first | refine blk_drewN ?_ _ | refine blk_drew ?_ | refine blk_alloc ?_ _)); refine blk_put (cs := #[.int .i64 0, .int .i64 0, .int .i64 0, .string (⟨#[]⟩ : ByteArray), .int .i64 0]) ?_ 1 _ rfl; (with_reducible repeat (first | refine blk_drewN ?_ _ | refine blk_drew ?_ | refine blk_alloc ?_ _)); refine blk_put (cs := #[.int .i64 0, .int .i64 0, .int .i64 0, .string (⟨#[]⟩ : ByteArray), .int .i64 0]) ?_ 0 _ rfl; (with_reducible repeat (first | refine blk_drewN ?_ _ | refine blk_drew ?_ | refine blk_alloc ?_ _)); exact BK285.out) Tryd.underlying27 rfl (by kernel_rfl)) rfl ?_
    exact ⟨by first | rfl | (simp [errW_none, errW_some] <;> rfl) | (simp [*, errW_none, errW_some] <;> rfl), by repeat (first | (with_reducible first | exact HB.out | apply below_alloc | apply pw_below_drewN | apply below_drew1 | refine below_set ?_ GE285.out) | exact HB.out)⟩
   ·replace c6 := Bool.eq_false_iff.mpr c6
    subst c6
    have H1 : (if 0 ≤ a1 then (if a1 ≤ (l0.length : Int) then ((tmesisref05_Skip.f kj2 (l0.drop (a1 : Int).toNat)).bind fun bt287 => (if bt287.2 = 0 then (if (wrap64 (a1 + bt287.1)) = (l0.length : Int) then (some (0, 0, 0, (⟨#[]⟩ : ByteArray), 0, false)) else (if 0 ≤ (wrap64 (a1 + bt287.1)) then (if (wrap64 (a1 + bt287.1)) ≤ (l0.length : Int) then ((tmesisref06_first.f kj2 (l0.drop ((wrap64 (a1 + bt287.1)) : Int).toNat)).bind fun bt290 => (some (bt290.1, wrap64 (a1 + bt287.1), wrap64 ((wrap64 (a1 + bt287.1)) + bt290.2.2.1), bt290.2.2.2.1, bt290.2.2.2.2, true))) else (none)) else (none))) else (some (8, wrap64 (a1 + bt287.1), (l0.length : Int), (⟨#[]⟩ : ByteArray), bt287.2, true)))) else (none)) else (none)) = some (r1, r2, r3, r4, r5, r6) := by rw [if_neg (show ¬ (false = true) by decide)] at H; exact H
    clear H
    have H := H1
    clear H1
    by_cases c8 : 0 ≤ a1
    ·rw [if_pos c8] at H
     have c8b0 := eq_true c8
     have c8b1 : decide (0 ≤ a1) = true := decide_eq_true c8
     clear c8
     by_cases c9 : a1 ≤ (l0.length : Int)
     ·rw [if_pos c9] at H
      have c9b0 := eq_true c9
      have c9b1 : decide (a1 ≤ (l0.length : Int)) = true := decide_eq_true c9
      clear c9
      replace H := Option.bind_eq_some_iff.mp H
      obtain ⟨⟨t287, t288⟩, A100, H⟩ := H
      replace H : (if t288 = 0 then (if (wrap64 (a1 + t287)) = (l0.length : Int) then (some (0, 0, 0, (⟨#[]⟩ : ByteArray), 0, false)) else (if 0 ≤ (wrap64 (a1 + t287)) then (if (wrap64 (a1 + t287)) ≤ (l0.length : Int) then ((tmesisref06_first.f kj2 (l0.drop ((wrap64 (a1 + t287)) : Int).toNat)).bind fun bt290 => (some (bt290.1, wrap64 (a1 + t287), wrap64 ((wrap64 (a1 + t287)) + bt290.2.2.1), bt290.2.2.2.1, bt290.2.2.2.2, true))) else (none)) else (none))) else (some (8, wrap64 (a1 + t287), (l0.length : Int), (⟨#[]⟩ : ByteArray), t288, true))) = some (r1, r2, r3, r4, r5, r6) := H
      have A10 := Aside0.mk A100
      clear A100
      by_cases c11 : t288 = 0
      ·rw [if_pos c11] at H
       have c11b0 : (t288 == 0) = true := beq_iff_eq.mpr c11
       have c11b1 : (t288 != 0) = false := bne_eq_false_iff_eq.mpr c11
       clear c11
       by_cases c12 : (wrap64 (a1 + t287)) = (l0.length : Int)
       ·rw [if_pos c12] at H
        have c12b0 : ((wrap64 (a1 + t287)) == (l0.length : Int)) = true := beq_iff_eq.mpr c12
        have c12b1 : ((wrap64 (a1 + t287)) != (l0.length : Int)) = false := bne_eq_false_iff_eq.mpr c12
        clear c12
        simp only [Option.some.injEq, Prod.mk.injEq] at H
        obtain ⟨rfl, rfl, rfl, rfl, rfl, rfl⟩ := H
        obtain ⟨i013, hi013, _, hsz13, _⟩ := info_parts info5
        obtain ⟨A13, hcut13, hA13, hC13⟩ := print_drop_of (P := Tryd.prog) (Value.int .u8) 0 22 5 .i64 Tryd.underlying22 hi013 hsz13 A0 c0 l0 a1 (of_decide_eq_true (by first | (with_reducible assumption) | assumption)) (of_decide_eq_true (by first | (with_reducible assumption) | assumption)) HC0.out
        have HR286 := Aside0.mk (Kd.C_of_reads (h1 := fun _ => rfl) (hA13 _ (Kd.reads_of_C HR0.out)))
        have HC286 := Aside0.mk hC13
        clear hA13 hC13 hi013 hsz13
        go_wp2_with (first | ((with_reducible refine gate_callee (f := 17) rfl ?_); refine goesL_ (some 23) rfl rfl Tryd.func17 (by kernel_rfl) rfl #[.slice A13 (l0.drop (a1 : Int).toNat).length (c0 - a1.toNat)] rfl (by (try simp only [List.map_toArray, List.map_cons, List.map_nil]); first | done | (rw [show (l0.drop (a1 : Int).toNat).length = (l0.length - a1.toNat) from List.length_drop] <;> rfl) | rfl | (simp only [List.length_drop, List.length_take]; rfl)) ?_; (with_reducible refine (tmesisref05_Skip.calls kj2 _ _ (l0.drop (a1 : Int).toNat) t287 t288 _ ?side1 ?side2 A10.out).mono ?_); (case side1 => repeat (first | exact (Kd.C_below HR286.out HB.out) | (with_reducible refine Kd.C_alloc ?_ _) | (with_reducible refine Kd.C_drewN ?_ _) | (with_reducible refine Kd.C_drew ?_))); (case side2 => exact HC286.out); rintro e w' ⟨rfl, ⟨nd, rfl⟩⟩; refine ⟨_, rfl, ?_⟩; (try (rw [drewN_self wc]; generalize hq_ : World.drewN wc _ = wc; have n0_ : Aside0 (wc.heap[gb285]? = some (.cells #[.int .i64 0, .int .i64 0, .int .i64 0, .string (⟨#[]⟩ : ByteArray), .int .i64 0] 27 (0, 0))) := ⟨by rw [← hq_]; exact (by (with_reducible repeat (first | refine blk_drewN ?_ _ | refine blk_drew ?_ | refine blk_alloc ?_ _)); exact BK285.out)⟩; have n1_ : Aside0 (Below w.heap.size w wc) := ⟨by rw [← hq_]; exact (by repeat (first | (with_reducible first | exact HB.out | apply below_alloc | apply pw_below_drewN | apply below_drew1 | refine below_set ?_ GE285.out) | exact HB.out))⟩; clear BK285 HB hq_; have BK285 := n0_; have HB := n1_; clear n0_ n1_)); have hcz14_0 : wc.cell? ⟨gb285, 0, none⟩ = some (.int .i64 0) := (blk_cell BK285.out 0).trans rfl; have hcz14_1 : wc.cell? ⟨gb285, 1, none⟩ = some (.int .i64 0) := (blk_cell BK285.out 1).trans rfl; have hcz14_2 : wc.cell? ⟨gb285, 2, none⟩ = some (.int .i64 0) := (blk_cell BK285.out 2).trans rfl; have hcz14_3 : wc.cell? ⟨gb285, 3, none⟩ = some (.string (⟨#[]⟩ : ByteArray)) := (blk_cell BK285.out 3).trans rfl; have hcz14_4 : wc.cell? ⟨gb285, 4, none⟩ = some (.int .i64 0) := (blk_cell BK285.out 4).trans rfl; have hfz14_0 := blk_frozen BK285.out 0; have hfz14_1 := blk_frozen BK285.out 1; have hfz14_2 := blk_frozen BK285.out 2; have hfz14_3 := blk_frozen BK285.out 3; have hfz14_4 := blk_frozen BK285.out 4))
        refine bodyPost_ret (results_ct rfl _ _ gb285 27 #[.int .i64 0, .int .i64 0, .int .i64 0, .string (⟨#[]⟩ : ByteArray), .int .i64 0] (0, 0) _ rfl (by (with_reducible repeat (first | refine blk_drewN ?_ _ | refine blk_drew ?_ | refine blk_alloc ?_ _)); refine blk_put (cs := #[.int .i64 0, .int .i64 0, .int .i64 0, .string (⟨#[]⟩ : ByteArray), .int .i64 0]) ?_ 4 _ rfl; (with_reducible repeat (first | refine blk_drewN ?_ _ | refine blk_drew ?_ | refine blk_alloc ?_ _)); refine blk_put (cs := #[.int .i64 0, .int .i64 0, .int .i64 0, .string (⟨#[]⟩ : ByteArray), .int .i64 0]) ?_ 3 _ rfl; (with_reducible repeat (first | refine blk_drewN ?_ _ | refine blk_drew ?_ | refine blk_alloc ?_ _)); refine blk_put (cs := #[.int .i64 0, .int .i64 0, .int .i64 0, .string (⟨#[]⟩ : ByteArray), .int .i64 0]) ?_ 2 _ rfl; (with_reducible repeat (first | refine blk_drewN ?_ _ | refine blk_drew ?_ | refine blk_alloc ?_ _)); refine blk_put (cs := #[.int .i64 0, .int .i64 0, .int .i64 0, .string (⟨#[]⟩ : ByteArray), .int .i64 0]) ?_ 1 _ rfl; (with_reducible repeat (first | refine blk_drewN ?_ _ | refine blk_drew ?_ | refine blk_alloc ?_ _)); refine blk_put (cs := #[.int .i64 0, .int .i64 0, .int .i64 0, .string (⟨#[]⟩ : ByteArray), .int .i64 0]) ?_ 0 _ rfl; (with_reducible repeat (first | refine blk_drewN ?_ _ | refine blk_drew ?_ | refine blk_alloc ?_ _)); exact BK285.out) Tryd.underlying27 rfl (by kernel_rfl)) rfl ?_
        exact ⟨by first | rfl | (simp [errW_none, errW_some] <;> rfl) | (simp [*, errW_none, errW_some] <;> rfl), by repeat (first | (with_reducible first | exact HB.out | apply below_alloc | apply pw_below_drewN | apply below_drew1 | refine below_set ?_ GE285.out) | exact HB.out)⟩
       ·rw [if_neg c12] at H
        have c12b0 : ((wrap64 (a1 + t287)) == (l0.length : Int)) = false := beq_eq_false_iff_ne.mpr c12
        have c12b1 : ((wrap64 (a1 + t287)) != (l0.length : Int)) = true := bne_iff_ne.mpr c12
        obtain ⟨ji15, hji15⟩ : ∃ j_ : Int, (wrap64 (a1 + t287)) = j_ := ⟨_, rfl⟩
        replace H : (if 0 ≤ (ji15) then (if (ji15) ≤ (l0.length : Int) then ((tmesisref06_first.f kj2 (l0.drop ((ji15) : Int).toNat)).bind fun bt290 => (some (bt290.1, ji15, wrap64 ((ji15) + bt290.2.2.1), bt290.2.2.2.1, bt290.2.2.2.2, true))) else (none)) else (none)) = some (r1, r2, r3, r4, r5, r6) := by first | (rw [hji15] at H; exact H) | (simp only [hji15] at H ⊢; exact H)
        (try rw [hji15] at c12b0)
        (try rw [hji15] at c12b1)
        (try rw [hji15] at A10)
        have hji15w : (IntKind.i64.wrap (a1 + t287)) = ji15 := (i64_w _).trans hji15
        by_cases c16 : 0 ≤ (ji15)
        ·rw [if_pos c16] at H
         have c16b0 := eq_true c16
         have c16b1 : decide (0 ≤ (ji15)) = true := decide_eq_true c16
         clear c16
         by_cases c17 : (ji15) ≤ (l0.length : Int)
         ·rw [if_pos c17] at H
          have c17b0 := eq_true c17
          have c17b1 : decide ((ji15) ≤ (l0.length : Int)) = true := decide_eq_true c17
          clear c17
          replace H := Option.bind_eq_some_iff.mp H
          obtain ⟨⟨t290, t291, t292, t293, t294⟩, A180, H⟩ := H
          replace H : (some (t290, ji15, wrap64 ((ji15) + t292), t293, t294, true)) = some (r1, r2, r3, r4, r5, r6) := H
          have A18 := Aside0.mk A180
          clear A180
          simp only [Option.some.injEq, Prod.mk.injEq] at H
          obtain ⟨rfl, rfl, rfl, rfl, rfl, rfl⟩ := H
          obtain ⟨i019, hi019, _, hsz19, _⟩ := info_parts info5
          obtain ⟨A19, hcut19, hA19, hC19⟩ := print_drop_of (P := Tryd.prog) (Value.int .u8) 0 22 5 .i64 Tryd.underlying22 hi019 hsz19 A0 c0 l0 a1 (of_decide_eq_true (by first | (with_reducible assumption) | assumption)) (of_decide_eq_true (by first | (with_reducible assumption) | assumption)) HC0.out
          have HR286 := Aside0.mk (Kd.C_of_reads (h1 := fun _ => rfl) (hA19 _ (Kd.reads_of_C HR0.out)))
          have HC286 := Aside0.mk hC19
          clear hA19 hC19 hi019 hsz19
          go_wp2_with (first | ((with_reducible refine gate_callee (f := 17) rfl ?_); refine goesL_ (some 23) rfl rfl Tryd.func17 (by kernel_rfl) rfl #[.slice A19 (l0.drop (a1 : Int).toNat).length (c0 - a1.toNat)] rfl (by (try simp only [List.map_toArray, List.map_cons, List.map_nil]); first | done | (rw [show (l0.drop (a1 : Int).toNat).length = (l0.length - a1.toNat) from List.length_drop] <;> rfl) | rfl | (simp only [List.length_drop, List.length_take]; rfl)) ?_; (with_reducible refine (tmesisref05_Skip.calls kj2 _ _ (l0.drop (a1 : Int).toNat) t287 t288 _ ?side1 ?side2 A10.out).mono ?_); (case side1 => repeat (first | exact (Kd.C_below HR286.out HB.out) | (with_reducible refine Kd.C_alloc ?_ _) | (with_reducible refine Kd.C_drewN ?_ _) | (with_reducible refine Kd.C_drew ?_))); (case side2 => exact HC286.out); rintro e w' ⟨rfl, ⟨nd, rfl⟩⟩; refine ⟨_, rfl, ?_⟩; (try (rw [drewN_self wc]; generalize hq_ : World.drewN wc _ = wc; have n0_ : Aside0 (wc.heap[gb285]? = some (.cells #[.int .i64 0, .int .i64 0, .int .i64 0, .string (⟨#[]⟩ : ByteArray), .int .i64 0] 27 (0, 0))) := ⟨by rw [← hq_]; exact (by (with_reducible repeat (first | refine blk_drewN ?_ _ | refine blk_drew ?_ | refine blk_alloc ?_ _)); exact BK285.out)⟩; have n1_ : Aside0 (Below w.heap.size w wc) := ⟨by rw [← hq_]; exact (by repeat (first | (with_reducible first | exact HB.out | apply below_alloc | apply pw_below_drewN | apply below_drew1 | refine below_set ?_ GE285.out) | exact HB.out))⟩; clear BK285 HB hq_; have BK285 := n0_; have HB := n1_; clear n0_ n1_)); obtain ⟨i020, hi020, _, hsz20, _⟩ := info_parts info5; obtain ⟨A20, hcut20, hA20, hC20⟩ := print_drop_of (P := Tryd.prog) (Value.int .u8) 0 22 5 .i64 Tryd.underlying22 hi020 hsz20 A0 c0 l0 (ji15) (of_decide_eq_true (by first | (with_reducible assumption) | assumption)) (of_decide_eq_true (by first | (with_reducible assumption) | assumption)) HC0.out; have HR289 := Aside0.mk (Kd.C_of_reads (h1 := fun _ => rfl) (hA20 _ (Kd.reads_of_C HR0.out))); have HC289 := Aside0.mk hC20; clear hA20 hC20 hi020 hsz20) | ((with_reducible refine gate_callee (f := 18) rfl ?_); refine goesL_ (some 44) rfl rfl Tryd.func18 (by kernel_rfl) rfl #[.slice A20 (l0.drop ((ji15) : Int).toNat).length (c0 - (ji15).toNat)] rfl (by (try simp only [List.map_toArray, List.map_cons, List.map_nil]); first | done | (rw [show (l0.drop ((ji15) : Int).toNat).length = (l0.length - (ji15).toNat) from List.length_drop] <;> rfl) | (simp only [hji15]; rfl) | rfl | (simp only [List.length_drop, List.length_take]; rfl)) ?_; (with_reducible refine (tmesisref06_first.calls kj2 _ _ (l0.drop ((ji15) : Int).toNat) t290 t291 t292 t293 t294 _ ?side1 ?side2 A18.out).mono ?_); (case side1 => repeat (first | exact (Kd.C_below HR289.out HB.out) | (with_reducible refine Kd.C_alloc ?_ _) | (with_reducible refine Kd.C_drewN ?_ _) | (with_reducible refine Kd.C_drew ?_))); (case side2 => exact HC289.out); rintro e w21 ⟨rfl, hb⟩; refine ⟨_, rfl, ?_⟩; have n0_ := Aside0.mk (blk_below (g := gb285) (o := .cells #[.int .i64 0, .int .i64 0, .int .i64 0, .string (⟨#[]⟩ : ByteArray), .int .i64 0] 27 (0, 0)) (by (with_reducible repeat (first | refine blk_drewN ?_ _ | refine blk_drew ?_ | refine blk_alloc ?_ _)); exact BK285.out) hb); have n1_ := Aside0.mk (below_step (by repeat (first | (with_reducible first | exact HB.out | apply below_alloc | apply pw_below_drewN | apply below_drew1 | refine below_set ?_ GE285.out) | exact HB.out)) hb); clear BK285; clear HB; have BK285 := n0_; have HB := n1_; clear n0_ n1_; (try clear hb); (try clear hb2); (try clear hk); (try clear hi); have hcy0 : ∀ o_ : Obj, (w21.alloc o_).cell? ⟨gb285, 0, none⟩ = some (.int .i64 0) := fun o_ => (blk_cell (blk_alloc BK285.out o_) 0).trans rfl; have hfy0 := fun o_ : Obj => blk_frozen (blk_alloc BK285.out o_) 0; have hcy1 : ∀ o_ : Obj, (w21.alloc o_).cell? ⟨gb285, 1, none⟩ = some (.int .i64 0) := fun o_ => (blk_cell (blk_alloc BK285.out o_) 1).trans rfl; have hfy1 := fun o_ : Obj => blk_frozen (blk_alloc BK285.out o_) 1; have hcy2 : ∀ o_ : Obj, (w21.alloc o_).cell? ⟨gb285, 2, none⟩ = some (.int .i64 0) := fun o_ => (blk_cell (blk_alloc BK285.out o_) 2).trans rfl; have hfy2 := fun o_ : Obj => blk_frozen (blk_alloc BK285.out o_) 2; have hcy3 : ∀ o_ : Obj, (w21.alloc o_).cell? ⟨gb285, 3, none⟩ = some (.string (⟨#[]⟩ : ByteArray)) := fun o_ => (blk_cell (blk_alloc BK285.out o_) 3).trans rfl; have hfy3 := fun o_ : Obj => blk_frozen (blk_alloc BK285.out o_) 3; have hcy4 : ∀ o_ : Obj, (w21.alloc o_).cell? ⟨gb285, 4, none⟩ = some (.int .i64 0) := fun o_ => (blk_cell (blk_alloc BK285.out o_) 4).trans rfl; have hfy4 := fun o_ : Obj => blk_frozen (blk_alloc BK285.out o_) 4))
          refine bodyPost_ret (results_ct rfl _ _ gb285 27 _ (0, 0) _ rfl (by first | ((with_reducible repeat (first | refine blk_drewN ?_ _ | refine blk_drew ?_ | refine blk_alloc ?_ _)); refine blk_put (cs := #[.int .i64 t290, .int .i64 ji15, .int .i64 (wrap64 ((ji15) + t292)), .string t293, .int .i64 0]) ?_ 4 _ rfl; (with_reducible repeat (first | refine blk_drewN ?_ _ | refine blk_drew ?_ | refine blk_alloc ?_ _)); refine blk_put (cs := #[.int .i64 t290, .int .i64 ji15, .int .i64 (wrap64 ((ji15) + t292)), .string (⟨#[]⟩ : ByteArray), .int .i64 0]) ?_ 3 _ rfl; (with_reducible repeat (first | refine blk_drewN ?_ _ | refine blk_drew ?_ | refine blk_alloc ?_ _)); refine blk_put (cs := #[.int .i64 t290, .int .i64 ji15, .int .i64 0, .string (⟨#[]⟩ : ByteArray), .int .i64 0]) ?_ 2 _ rfl; (with_reducible repeat (first | refine blk_drewN ?_ _ | refine blk_drew ?_ | refine blk_alloc ?_ _)); refine blk_put (cs := #[.int .i64 t290, .int .i64 0, .int .i64 0, .string (⟨#[]⟩ : ByteArray), .int .i64 0]) ?_ 1 _ rfl; (with_reducible repeat (first | refine blk_drewN ?_ _ | refine blk_drew ?_ | refine blk_alloc ?_ _)); refine blk_put (cs := #[.int .i64 0, .int .i64 0, .int .i64 0, .string (⟨#[]⟩ : ByteArray), .int .i64 0]) ?_ 0 _ rfl; (with_reducible repeat (first | refine blk_drewN ?_ _ | refine blk_drew ?_ | refine blk_alloc ?_ _)); exact BK285.out)) Tryd.underlying27 rfl (by kernel_rfl)) rfl ?_
          exact ⟨by first | rfl | (simp [errW_none, errW_some] <;> rfl) | (simp only [← hji15]; first | rfl | (simp [errW_none, errW_some] <;> rfl)) | (simp [*, errW_none, errW_some] <;> rfl), by repeat (first | (with_reducible first | exact HB.out | apply below_alloc | apply pw_below_drewN | apply below_drew1 | refine below_set ?_ GE285.out) | exact HB.out)⟩
         ·rw [if_neg c17] at H
          exact absurd H (by simp)
        ·rw [if_neg c16] at H
         exact absurd H (by simp)
      ·rw [if_neg c11] at H
       have c11b0 : (t288 == 0) = false := beq_eq_false_iff_ne.mpr c11
       have c11b1 : (t288 != 0) = true := bne_iff_ne.mpr c11
       simp only [Option.some.injEq, Prod.mk.injEq] at H
       obtain ⟨rfl, rfl, rfl, rfl, rfl, rfl⟩ := H
       obtain ⟨i026, hi026, _, hsz26, _⟩ := info_parts info5
       obtain ⟨A26, hcut26, hA26, hC26⟩ := print_drop_of (P := Tryd.prog) (Value.int .u8) 0 22 5 .i64 Tryd.underlying22 hi026 hsz26 A0 c0 l0 a1 (of_decide_eq_true (by first | (with_reducible assumption) | assumption)) (of_decide_eq_true (by first | (with_reducible assumption) | assumption)) HC0.out
       have HR286 := Aside0.mk (Kd.C_of_reads (h1 := fun _ => rfl) (hA26 _ (Kd.reads_of_C HR0.out)))
       have HC286 := Aside0.mk hC26
       clear hA26 hC26 hi026 hsz26
       go_wp2_with (first | ((with_reducible refine gate_callee (f := 17) rfl ?_); refine goesL_ (some 23) rfl rfl Tryd.func17 (by kernel_rfl) rfl #[.slice A26 (l0.drop (a1 : Int).toNat).length (c0 - a1.toNat)] rfl (by (try simp only [List.map_toArray, List.map_cons, List.map_nil]); first | done | (rw [show (l0.drop (a1 : Int).toNat).length = (l0.length - a1.toNat) from List.length_drop] <;> rfl) | rfl | (simp only [List.length_drop, List.length_take]; rfl)) ?_; (with_reducible refine (tmesisref05_Skip.calls kj2 _ _ (l0.drop (a1 : Int).toNat) t287 t288 _ ?side1 ?side2 A10.out).mono ?_); (case side1 => repeat (first | exact (Kd.C_below HR286.out HB.out) | (with_reducible refine Kd.C_alloc ?_ _) | (with_reducible refine Kd.C_drewN ?_ _) | (with_reducible refine Kd.C_drew ?_))); (case side2 => exact HC286.out); rintro e w' ⟨rfl, ⟨nd, rfl⟩⟩; refine ⟨_, rfl, ?_⟩; (try (rw [drewN_self wc]; generalize hq_ : World.drewN wc _ = wc; have n0_ : Aside0 (wc.heap[gb285]? = some (.cells #[.int .i64 0, .int .i64 0, .int .i64 0, .string (⟨#[]⟩ : ByteArray), .int .i64 0] 27 (0, 0))) := ⟨by rw [← hq_]; exact (by (with_reducible repeat (first | refine blk_drewN ?_ _ | refine blk_drew ?_ | refine blk_alloc ?_ _)); exact BK285.out)⟩; have n1_ : Aside0 (Below w.heap.size w wc) := ⟨by rw [← hq_]; exact (by repeat (first | (with_reducible first | exact HB.out | apply below_alloc | apply pw_below_drewN | apply below_drew1 | refine below_set ?_ GE285.out) | exact HB.out))⟩; clear BK285 HB hq_; have BK285 := n0_; have HB := n1_; clear n0_ n1_)); have hcz27_0 : wc.cell? ⟨gb285, 0, none⟩ = some (.int .i64 0) := (blk_cell BK285.out 0).trans rfl; have hcz27_1 : wc.cell? ⟨gb285, 1, none⟩ = some (.int .i64 0) := (blk_cell BK285.out 1).trans rfl; have hcz27_2 : wc.cell? ⟨gb285, 2, none⟩ = some (.int .i64 0) := (blk_cell BK285.out 2).trans rfl; have hcz27_3 : wc.cell? ⟨gb285, 3, none⟩ = some (.string (⟨#[]⟩ : ByteArray)) := (blk_cell BK285.out 3).trans rfl; have hcz27_4 : wc.cell? ⟨gb285, 4, none⟩ = some (.int .i64 0) := (blk_cell BK285.out 4).trans rfl; have hfz27_0 := blk_frozen BK285.out 0; have hfz27_1 := blk_frozen BK285.out 1; have hfz27_2 := blk_frozen BK285.out 2; have hfz27_3 := blk_frozen BK285.out 3; have hfz27_4 := blk_frozen BK285.out 4))
       refine bodyPost_ret (results_ct rfl _ _ gb285 27 #[.int .i64 8, .int .i64 (wrap64 (a1 + t287)), .int .i64 (l0.length : Int), .string (⟨#[]⟩ : ByteArray), .int .i64 t288] (0, 0) _ rfl (by (with_reducible repeat (first | refine blk_drewN ?_ _ | refine blk_drew ?_ | refine blk_alloc ?_ _)); refine blk_put (cs := #[.int .i64 8, .int .i64 (wrap64 (a1 + t287)), .int .i64 (l0.length : Int), .string (⟨#[]⟩ : ByteArray), .int .i64 0]) ?_ 4 _ rfl; (with_reducible repeat (first | refine blk_drewN ?_ _ | refine blk_drew ?_ | refine blk_alloc ?_ _)); refine blk_put (cs := #[.int .i64 8, .int .i64 (wrap64 (a1 + t287)), .int .i64 (l0.length : Int), .string (⟨#[]⟩ : ByteArray), .int .i64 0]) ?_ 3 _ rfl; (with_reducible repeat (first | refine blk_drewN ?_ _ | refine blk_drew ?_ | refine blk_alloc ?_ _)); refine blk_put (cs := #[.int .i64 8, .int .i64 (wrap64 (a1 + t287)), .int .i64 0, .string (⟨#[]⟩ : ByteArray), .int .i64 0]) ?_ 2 _ rfl; (with_reducible repeat (first | refine blk_drewN ?_ _ | refine blk_drew ?_ | refine blk_alloc ?_ _)); refine blk_put (cs := #[.int .i64 8, .int .i64 0, .int .i64 0, .string (⟨#[]⟩ : ByteArray), .int .i64 0]) ?_ 1 _ rfl; (with_reducible repeat (first | refine blk_drewN ?_ _ | refine blk_drew ?_ | refine blk_alloc ?_ _)); refine blk_put (cs := #[.int .i64 0, .int .i64 0, .int .i64 0, .string (⟨#[]⟩ : ByteArray), .int .i64 0]) ?_ 0 _ rfl; (with_reducible repeat (first | refine blk_drewN ?_ _ | refine blk_drew ?_ | refine blk_alloc ?_ _)); exact BK285.out) Tryd.underlying27 rfl (by kernel_rfl)) rfl ?_
       exact ⟨by first | rfl | (simp [errW_none, errW_some] <;> rfl) | (simp [*, errW_none, errW_some] <;> rfl), by repeat (first | (with_reducible first | exact HB.out | apply below_alloc | apply pw_below_drewN | apply below_drew1 | refine below_set ?_ GE285.out) | exact HB.out)⟩
     ·rw [if_neg c9] at H
      exact absurd H (by simp)
    ·rw [if_neg c8] at H
     exact absurd H (by simp)
end Go.Proofs.YtflekegjmjjdmaaDoor.P
