/- Part of the proof: what the theorem needs of this text. -/
import Derived.Test.YtflekegjmjjdmaaDoorKHCM
import Derived.Test.YtflekegjmjjdmaaDoorKHG
import Derived.Test.YtflekegjmjjdmaaDoorKPx0
import Derived.Test.YtflekegjmjjdmaaDoorKPx2
import Derived.Test.YtflekegjmjjdmaaDoorKPx6
namespace Go.Proofs.YtflekegjmjjdmaaDoor.P
open Go.RowKit Go.Proofs.YtflekegjmjjdmaaDoorW.PrintWords Go.Proofs.YtflekegjmjjdmaaDoorW.PrintLast Go.Proofs.YtflekegjmjjdmaaDoorW.PrintMore
attribute [local go_sem] max2_int min2_int max_two min_two max_three min_three max_four min_four   -- for this text's walks alone
set_option linter.unusedVariables false
set_option linter.unusedSimpArgs false
mutual
def layout_Skip.l0 : Nat → List Int → Int → Option (Int × Int)
 | 0, _, _ => none
 | k + 1, x0, x4 => if 0 ≤ x4 then (if x4 ≤ (x0.length : Int) then ((class_Run.f k (x0.drop (x4 : Int).toNat) 1).bind fun t155 => (if t155 > 0 then (layout_Skip.l0 k x0 (wrap64 (x4 + t155))) else (if ((x0.drop (x4 : Int).toNat).length : Int) > 0 then (if 0 < ((x0.drop (x4 : Int).toNat).length : Int) then ((class_Of.f (rd (x0.drop (x4 : Int).toNat) 0)).bind fun t157 => (layout_Skip.j1 k x0 x4 (x0.drop (x4 : Int).toNat) (t157 == 8))) else (none)) else (layout_Skip.j1 k x0 x4 (x0.drop (x4 : Int).toNat) false)))) else (none)) else (none)
def layout_Skip.j1 : Nat → List Int → Int → List Int → Bool → Option (Int × Int)
 | 0, _, _, _, _ => none
 | k + 1, x0, x4, x5, x16 => if x16 = true then ((layout_line.f x5).bind fun t158 => (layout_Skip.l0 k x0 (wrap64 (x4 + t158)))) else ((bytes_HasPrefix.f x5 (([47, 42] : List Int))).bind fun t162 => (if t162 = true then ((layout_comment.f x5).bind fun t163 => (if t163 = 0 then (some (x4, 14)) else (layout_Skip.l0 k x0 (wrap64 (x4 + t163))))) else (some (x4, 0))))
end
def layout_Skip.f (k : Nat) (l0 : List Int) : Option (Int × Int) := layout_Skip.l0 k l0 0
theorem layout_Skip.mono_l : ∀ k, (∀ y0 y1, LeO (layout_Skip.l0 k y0 y1) (layout_Skip.l0 (k + 1) y0 y1)) ∧ (∀ y0 y1 y2 y3, LeO (layout_Skip.j1 k y0 y1 y2 y3) (layout_Skip.j1 (k + 1) y0 y1 y2 y3))
 | 0 => ⟨fun _ _ r h => by simp [layout_Skip.l0] at h, fun _ _ _ _ r h => by simp [layout_Skip.j1] at h⟩
 | k + 1 => by
  obtain ⟨ih0, ih1⟩ := layout_Skip.mono_l k
  refine ⟨?_, ?_⟩
  ·intro y0 y1
   unfold layout_Skip.l0
   repeat' with_reducible first | exact ih0 _ _ | exact ih1 _ _ _ _ | exact class_Run.mono _ _ _ | exact LeO.refl _ | exact LeO.none _ | refine LeO.ite ?_ ?_ | refine LeO.bind ?_ (fun _ => ?_)
  ·intro y0 y1 y2 y3
   unfold layout_Skip.j1
   repeat' with_reducible first | exact ih0 _ _ | exact ih1 _ _ _ _ | exact class_Run.mono _ _ _ | exact LeO.refl _ | exact LeO.none _ | refine LeO.ite ?_ ?_ | refine LeO.bind ?_ (fun _ => ?_)
theorem layout_Skip.mono : ∀ a0 k, LeO (layout_Skip.f k a0) (layout_Skip.f (k + 1) a0) := by
 intro a0 k
 obtain ⟨ih0, ih1⟩ := layout_Skip.mono_l k
 unfold layout_Skip.f
 repeat' with_reducible first | exact ih0 _ _ | exact ih1 _ _ _ _ | exact class_Run.mono _ _ _ | exact LeO.refl _ | exact LeO.none _ | refine LeO.ite ?_ ?_ | refine LeO.bind ?_ (fun _ => ?_)
set_option maxHeartbeats 8000000 in
set_option maxRecDepth 100000 in
theorem layout_Skip.calls (k : Nat) (A0 : Option Addr) (c0 : Nat) (l0 : List Int) (r1 : Int) (r2 : Int) (w : World) (hG : Gl w) (hr0 : Kd.C (Kd.int .u8) w A0 l0.length l0) (hc0 : l0.length ≤ c0) (h : layout_Skip.f k l0 = some (r1, r2)) :
  Calls Tryd.prog 13 #[.slice A0 l0.length c0] w fun e w' => e = .returned (.tuple #[.int .i64 r1, .int .i64 r2]) ∧ Below w.heap.size w w' := by
 have HR0 := Aside0.mk hr0
 have HC0 := Aside0.mk hc0
 clear hr0 hc0
 have HB := Aside0.mk (Below.refl w.heap.size w)
 have HG := Aside0.mk hG
 clear hG
 have H : (layout_Skip.l0 k l0 0) = some (r1, r2) := h
 clear h
 have H' := Aside0.mk H
 clear H
 go_enter Tryd.func13, Tryd.ntmps13
 go_wp2
 go_loopg [4] k (fun kq v4 w' => ∃ (x4_1 : Int), v4 = .int .i64 x4_1 ∧ Aside0 (layout_Skip.l0 kq l0 x4_1 = some (r1, r2)) ∧ Aside0 (kq ≤ k) ∧ Aside0 (Below w.heap.size w w'))
 case atStart => exact ⟨(0), sR, H', ⟨Nat.le_refl _⟩, ⟨bAt HB.out⟩⟩
 case round =>
  clear H'
  try clear c1
  obtain ⟨x4_1, rfl, HA, HK1, HB⟩ := hrel
  cases gk with
  | zero => exact absurd HA.out (by simp [layout_Skip.l0])
  | succ k1 =>
   have H := HA.out
   clear HA
   simp only [layout_Skip.l0] at H
   by_cases c2 : 0 ≤ x4_1
   ·rw [if_pos c2] at H
    have c2b0 := eq_true c2
    have c2b1 := decide_eq_true c2
    clear c2
    by_cases c3 : x4_1 ≤ (l0.length : Int)
    ·rw [if_pos c3] at H
     have c3b0 := eq_true c3
     have c3b1 := decide_eq_true c3
     clear c3
     obtain ⟨t155, A4, H⟩ := bE H
     by_cases c5 : t155 > 0
     ·rw [if_pos c5] at H
      have c5b0 : decide (0 < t155) = true := decide_eq_true c5
      clear c5
      have H' := Aside0.mk H
      clear H
      obtain ⟨i06, hi06, _, hsz6, _⟩ := info_parts info5
      obtain ⟨A6, hcut6, hA6, hC6⟩ := print_drop_of (P := Tryd.prog) (Value.int .u8) 0 22 5 .i64 Tryd.underlying22 hi06 hsz6 A0 c0 l0 x4_1 dt dt HC0.out
      have HR154 := Aside0.mk (Kd.C_of_reads (h1 := fun _ => rfl) (hA6 _ (Kd.reads_of_C HR0.out)))
      have HC154 := Aside0.mk hC6
      clear hA6 hC6 hi06 hsz6
      go_wp2_with (first | ((with_reducible refine gate_callee (f := 19) rfl ?_); refine gL (some 11) Tryd.func19 #[.slice A6 (l0.drop (x4_1 : Int).toNat).length (c0 - x4_1.toNat), .int .i64 1] rfl (gD l0 (x4_1 : Int).toNat) ?_; (with_reducible refine (class_Run.calls k1 _ _ (l0.drop (x4_1 : Int).toNat) 1 t155 _ ?side1 ?side2 ?side3 A4.out).mono ?_); (case side1 => exact Gl.below HG.out (bAt HB.out)); (case side2 => exact CAt (Kd.C_below HR154.out HB.out)); (case side3 => exact HC154.out); rintro e w7 ⟨rfl, hb⟩; refine ⟨_, rfl, ?_⟩; replace HB := Aside0.mk (below_step (bAt HB.out) hb); (try clear hb); (try clear hb2); (try clear hk); (try clear hi)))
      go_roundg k1
      case measure => have := HK1.out; omega
      case rel => exact ⟨(wrap64 (x4_1 + t155)), sR, H', ⟨by have := HK1.out; omega⟩, ⟨bAt HB.out⟩⟩
     ·rw [if_neg c5] at H
      have c5b0 : decide (0 < t155) = false := decide_eq_false c5
      clear c5
      have HC8 := Aside0.mk H
      clear H
      obtain ⟨i09, hi09, _, hsz9, _⟩ := info_parts info5
      obtain ⟨A9, hcut9, hA9, hC9⟩ := print_drop_of (P := Tryd.prog) (Value.int .u8) 0 22 5 .i64 Tryd.underlying22 hi09 hsz9 A0 c0 l0 x4_1 dt dt HC0.out
      have HR154 := Aside0.mk (Kd.C_of_reads (h1 := fun _ => rfl) (hA9 _ (Kd.reads_of_C HR0.out)))
      have HC154 := Aside0.mk hC9
      clear hA9 hC9 hi09 hsz9
      go_upto_region 6 with (first | ((with_reducible refine gate_callee (f := 19) rfl ?_); refine gL (some 11) Tryd.func19 #[.slice A9 (l0.drop (x4_1 : Int).toNat).length (c0 - x4_1.toNat), .int .i64 1] rfl (gD l0 (x4_1 : Int).toNat) ?_; (with_reducible refine (class_Run.calls k1 _ _ (l0.drop (x4_1 : Int).toNat) 1 t155 _ ?side1 ?side2 ?side3 A4.out).mono ?_); (case side1 => exact Gl.below HG.out (bAt HB.out)); (case side2 => exact CAt (Kd.C_below HR154.out HB.out)); (case side3 => exact HC154.out); rintro e w10 ⟨rfl, hb⟩; refine ⟨_, rfl, ?_⟩; replace HB := Aside0.mk (below_step (bAt HB.out) hb); (try clear hb); (try clear hb2); (try clear hk); (try clear hi)))
      (try simp only [Act.put, List.setIfInBounds_toArray, List.set_cons_zero, List.set_cons_succ])
      go_cut [16] (fun v16 wc => ∃ (kq : Nat) (x16_7 : Bool), v16 = .bool x16_7 ∧ Aside0 (layout_Skip.j1 kq l0 x4_1 (l0.drop (x4_1 : Int).toNat) x16_7 = some (r1, r2)) ∧ Aside0 (kq ≤ k1) ∧ Aside0 (Below w.heap.size w wc))
      case first =>
       have H := HC8.out
       clear HC8
       by_cases c11 : ((l0.drop (x4_1 : Int).toNat).length : Int) > 0
       ·rw [if_pos c11] at H
        have c11b0 : decide (0 < ((l0.drop (x4_1 : Int).toNat).length : Int)) = true := decide_eq_true c11
        (try (have c11b0d := c11b0; simp only [List.length_drop] at c11b0d))
        (try (have c11b0e := (by first | exact eq_true (of_decide_eq_true c11b0d) | exact eq_false (of_decide_eq_false c11b0d))))
        have c11b1 : decide (0 < (l0.drop (x4_1 : Int).toNat).length) = true := decide_eq_true (by omega)
        (try (have c11b1d := c11b1; simp only [List.length_drop] at c11b1d))
        (try (have c11b1e := (by first | exact eq_true (of_decide_eq_true c11b1d) | exact eq_false (of_decide_eq_false c11b1d))))
        clear c11
        (first | rw [c11b0] | (simp only [i64_w, i32_w]; rw [c11b0]) | skip)
        by_cases c12 : 0 < ((l0.drop (x4_1 : Int).toNat).length : Int)
        ·rw [if_pos c12] at H
         have c12b0 := decide_eq_true c12
         (try (have c12b0d := c12b0; simp only [List.length_drop] at c12b0d))
         (try (have c12b0e := (by first | exact eq_true (of_decide_eq_true c12b0d) | exact eq_false (of_decide_eq_false c12b0d))))
         have c12b1 : decide (0 < (l0.drop (x4_1 : Int).toNat).length) = true := decide_eq_true (by omega)
         (try (have c12b1d := c12b1; simp only [List.length_drop] at c12b1d))
         (try (have c12b1e := (by first | exact eq_true (of_decide_eq_true c12b1d) | exact eq_false (of_decide_eq_false c12b1d))))
         clear c12
         obtain ⟨t157, A13, H⟩ := bE H
         have H' := Aside0.mk H
         clear H
         have p156 : 0 ≤ (0 : Int) := (by omega)
         have q156 : 0 < ((l0.drop (x4_1 : Int).toNat).length : Int) := dt
         (try (have q156d := q156; simp only [List.length_drop] at q156d; replace q156d := eq_true q156d))
         obtain ⟨ad156, e156, hx156_0⟩ := Kd.at_int HR154.out 0 p156 q156
         cases e156
         have qi156 : (0 < (l0.drop (x4_1 : Int).toNat).length) = True := eq_true (by omega)
         (try rw [show ((0 : Int)).toNat = 0 from rfl] at hx156_0)
         (try rw [Addr.add_zero'] at hx156_0)
         replace hx156_0 := pw_cell_below HB.out hx156_0
         replace p156 := eq_true p156
         replace q156 := eq_true q156
         go_wp2_with (first | ((with_reducible refine gate_callee (f := 14) rfl ?_); (try (refine gate_guard (by rfl) ?_; dsimp only)); refine gL (some 24) Tryd.func14 #[.int .u8 (rd (l0.drop (x4_1 : Int).toNat) 0)] rfl gA ?_; (with_reducible refine (class_Of.calls (rd (l0.drop (x4_1 : Int).toNat) 0) t157 _ ?side1 A13.out).mono ?_); (case side1 => exact Gl.below HG.out (bAt HB.out)); rintro e w14 ⟨rfl, hb⟩; refine ⟨_, rfl, ?_⟩; replace HB := Aside0.mk (below_step (bAt HB.out) hb); (try clear hb); (try clear hb2); (try clear hk); (try clear hi)))
         go_meet
         case rel => exact ⟨_, ((t157 == 8)), sR, H', ⟨by have := HK1.out; first | omega | exact Nat.le_refl _⟩, ⟨bAt HB.out⟩⟩
        ·exact nB H c12
       ·rw [if_neg c11] at H
        have c11b0 : decide (0 < ((l0.drop (x4_1 : Int).toNat).length : Int)) = false := decide_eq_false c11
        (try (have c11b0d := c11b0; simp only [List.length_drop] at c11b0d))
        (try (have c11b0e := (by first | exact eq_true (of_decide_eq_true c11b0d) | exact eq_false (of_decide_eq_false c11b0d))))
        have c11b1 : decide (0 < (l0.drop (x4_1 : Int).toNat).length) = false := decide_eq_false (by omega)
        (try (have c11b1d := c11b1; simp only [List.length_drop] at c11b1d))
        (try (have c11b1e := (by first | exact eq_true (of_decide_eq_true c11b1d) | exact eq_false (of_decide_eq_false c11b1d))))
        clear c11
        (first | rw [c11b0] | (simp only [i64_w, i32_w]; rw [c11b0]) | skip)
        have H' := Aside0.mk H
        clear H
        go_wp2
        go_meet
        case rel => exact ⟨_, (false), sR, H', ⟨by have := HK1.out; first | omega | exact Nat.le_refl _⟩, ⟨bAt HB.out⟩⟩
      case rest =>
       clear HC8
       try clear c1
       try clear p1
       try clear q1
       try clear hx1
       try clear qi1
       try clear c2
       try clear c2b0 c2b1
       try clear p2
       try clear c3
       try clear c3b0 c3b1
       try clear c5
       try clear c5b0
       try clear p6
       try clear c11
       try clear c11b0 c11b1
       try clear c12
       try clear c12b0 c12b1
       try clear c13
       try clear c14
       try clear hx156_0
       try clear p156
       try clear q156
       obtain ⟨kq, x16_7, rfl, HA, HJ7, HB⟩ := hcut
       cases kq with
       | zero => exact absurd HA.out (by simp [layout_Skip.j1])
       | succ kj7 =>
        have H := HA.out
        clear HA
        simp only [layout_Skip.j1] at H
        by_cases c15 : x16_7 = true
        ·subst c15
         replace H := tP H
         obtain ⟨t158, A16, H⟩ := bE H
         have H' := Aside0.mk H
         clear H
         go_wp2_with (first | ((with_reducible refine gate_callee (f := 20) rfl ?_); refine gL (some 28) Tryd.func20 #[.slice A9 (l0.drop (x4_1 : Int).toNat).length (c0 - x4_1.toNat)] rfl (gD l0 (x4_1 : Int).toNat) ?_; (with_reducible refine (layout_line.calls _ _ (l0.drop (x4_1 : Int).toNat) t158 _ ?side1 ?side2 A16.out).mono ?_); (case side1 => exact CAt (Kd.C_below HR154.out HB.out)); (case side2 => exact HC154.out); rintro e w' ⟨rfl, ⟨nd, rfl⟩⟩; refine ⟨_, rfl, ?_⟩))
         go_roundg kj7
         case measure => have := HK1.out; have := HJ7.out; omega
         case rel => exact ⟨(wrap64 (x4_1 + t158)), sR, H', ⟨by have := HK1.out; have := HJ7.out; omega⟩, ⟨bAt HB.out⟩⟩
        ·replace c15 := Bool.eq_false_iff.mpr c15
         subst c15
         replace H := fP H
         obtain ⟨y159, hy159⟩ : ∃ y_ : List Int, y_ = (([47, 42] : List Int)) := ⟨_, rfl⟩
         replace H : ((bytes_HasPrefix.f (l0.drop (x4_1 : Int).toNat) y159).bind fun t162 => (if t162 = true then ((layout_comment.f (l0.drop (x4_1 : Int).toNat)).bind fun t163 => (if t163 = 0 then (some (x4_1, 14)) else (layout_Skip.l0 kj7 l0 (wrap64 (x4_1 + t163))))) else (some (x4_1, 0)))) = some (r1, r2) := by first | (rw [hy159]; with_reducible exact H) | (have H2_ := (Option.bind_some _ _).symm.trans H; rw [hy159]; with_reducible exact H2_) | (have H2_ := (Option.bind_some _ _).symm.trans H; with_reducible exact H2_) | with_reducible exact H | (rw [hy159]; exact H) | exact H
         have Ny159 := Aside0.mk hy159
         clear hy159
         obtain ⟨t162, A17, H⟩ := bE H
         by_cases c18 : t162 = true
         ·subst c18
          replace H := tP H
          obtain ⟨t163, A19, H⟩ := bE H
          by_cases c20 : t163 = 0
          ·rw [if_pos c20] at H
           obtain ⟨c20b0, c20b1⟩ := eqB c20
           clear c20
           simp only [Option.some.injEq, Prod.mk.injEq] at H
           obtain ⟨rfl, rfl⟩ := H
           go_wp2_with (first | ((with_reducible refine gate_dst (N := 31) rfl ?_); refine V_litsG _ 5 ?hg (N := 31) ?hd (xs := ([47, 42] : List Int)) ?hr ?hw2 ?hr2 (Below.refl _ _) (Nat.le_refl _) (by simp) ?_; (case hd => rfl); (case hg => rfl); (case hr => intro W_; first | (go_simp; done) | (go_simp; rfl)); (case hw2 => rfl); (case hr2 => intro W_; go_simp; rw [run_convert_lit _ 22 5 _ _ _ Tryd.underlying22 Tryd.underlying5]; rfl); intro v160 w21 ho22 hb hg_ hnew_; clear hg_ hnew_; (first | rw [← Ny159.out] at ho22 | (simp only [Int.reduceToNat] at ho22; rw [← Ny159.out] at ho22)); have HO161 := Aside0.mk (Kd.V_lower (Kd.V_mono (ok' := fun k_ => True) ho22 (fun k_ hk_ => trivial)) (below_size (bAt HB.out))); replace HB := Aside0.mk (below_step (bAt HB.out) hb); clear hb ho22; obtain ⟨Ao23, co23, eo23⟩ := Kd.V_slice HO161.out; subst eo23) | ((with_reducible refine gate_callee (f := 21) rfl ?_); refine gL (some 33) Tryd.func21 #[.slice A9 (l0.drop (x4_1 : Int).toNat).length (c0 - x4_1.toNat), .slice Ao23 y159.length co23] rfl (gD l0 (x4_1 : Int).toNat) ?_; (with_reducible refine (bytes_HasPrefix.calls _ _ (l0.drop (x4_1 : Int).toNat) _ _ y159 true _ ?side1 ?side2 ?side3 ?side4 A17.out).mono ?_); (case side1 => exact CAt (Kd.C_below HR154.out HB.out)); (case side2 => exact HC154.out); (case side3 => exact CAt ((Kd.V_reads' HO161.out).2.2)); (case side4 => exact (Kd.V_reads' HO161.out).2.1); rintro e w' ⟨rfl, ⟨nd, rfl⟩⟩; refine ⟨_, rfl, ?_⟩) | ((with_reducible refine gate_callee (f := 22) rfl ?_); refine gL (some 35) Tryd.func22 #[.slice A9 (l0.drop (x4_1 : Int).toNat).length (c0 - x4_1.toNat)] rfl (gD l0 (x4_1 : Int).toNat) ?_; (with_reducible refine (layout_comment.calls _ _ (l0.drop (x4_1 : Int).toNat) t163 _ ?side1 ?side2 A19.out).mono ?_); (case side1 => exact CAt (Kd.C_below HR154.out (bAt HB.out))); (case side2 => exact HC154.out); rintro e w24 ⟨rfl, hb⟩; refine ⟨_, rfl, ?_⟩; replace HO161 := Aside0.mk (Kd.V_below (VAt HO161.out) hb); replace HB := Aside0.mk (below_step (bAt HB.out) hb); (try clear hb); (try clear hb2); (try clear hk); (try clear hi)))
           go_ret2
           exact ⟨eR, bAt HB.out⟩
          ·rw [if_neg c20] at H
           obtain ⟨c20b0, c20b1⟩ := neB c20
           have H' := Aside0.mk H
           clear H
           go_wp2_with (first | ((with_reducible refine gate_dst (N := 31) rfl ?_); refine V_litsG _ 5 ?hg (N := 31) ?hd (xs := ([47, 42] : List Int)) ?hr ?hw2 ?hr2 (Below.refl _ _) (Nat.le_refl _) (by simp) ?_; (case hd => rfl); (case hg => rfl); (case hr => intro W_; first | (go_simp; done) | (go_simp; rfl)); (case hw2 => rfl); (case hr2 => intro W_; go_simp; rw [run_convert_lit _ 22 5 _ _ _ Tryd.underlying22 Tryd.underlying5]; rfl); intro v160 w25 ho26 hb hg_ hnew_; clear hg_ hnew_; (first | rw [← Ny159.out] at ho26 | (simp only [Int.reduceToNat] at ho26; rw [← Ny159.out] at ho26)); have HO161 := Aside0.mk (Kd.V_lower (Kd.V_mono (ok' := fun k_ => True) ho26 (fun k_ hk_ => trivial)) (below_size (bAt HB.out))); replace HB := Aside0.mk (below_step (bAt HB.out) hb); clear hb ho26; obtain ⟨Ao27, co27, eo27⟩ := Kd.V_slice HO161.out; subst eo27) | ((with_reducible refine gate_callee (f := 21) rfl ?_); refine gL (some 33) Tryd.func21 #[.slice A9 (l0.drop (x4_1 : Int).toNat).length (c0 - x4_1.toNat), .slice Ao27 y159.length co27] rfl (gD l0 (x4_1 : Int).toNat) ?_; (with_reducible refine (bytes_HasPrefix.calls _ _ (l0.drop (x4_1 : Int).toNat) _ _ y159 true _ ?side1 ?side2 ?side3 ?side4 A17.out).mono ?_); (case side1 => exact CAt (Kd.C_below HR154.out HB.out)); (case side2 => exact HC154.out); (case side3 => exact CAt ((Kd.V_reads' HO161.out).2.2)); (case side4 => exact (Kd.V_reads' HO161.out).2.1); rintro e w' ⟨rfl, ⟨nd, rfl⟩⟩; refine ⟨_, rfl, ?_⟩) | ((with_reducible refine gate_callee (f := 22) rfl ?_); refine gL (some 35) Tryd.func22 #[.slice A9 (l0.drop (x4_1 : Int).toNat).length (c0 - x4_1.toNat)] rfl (gD l0 (x4_1 : Int).toNat) ?_; (with_reducible refine (layout_comment.calls _ _ (l0.drop (x4_1 : Int).toNat) t163 _ ?side1 ?side2 A19.out).mono ?_); (case side1 => exact CAt (Kd.C_below HR154.out (bAt HB.out))); (case side2 => exact HC154.out); rintro e w28 ⟨rfl, hb⟩; refine ⟨_, rfl, ?_⟩; replace HO161 := Aside0.mk (Kd.V_below (VAt HO161.out) hb); replace HB := Aside0.mk (below_step (bAt HB.out) hb); (try clear hb); (try clear hb2); (try clear hk); (try clear hi)))
           go_roundg kj7
           case measure => have := HK1.out; have := HJ7.out; omega
           case rel => exact ⟨(wrap64 (x4_1 + t163)), sR, H', ⟨by have := HK1.out; have := HJ7.out; omega⟩, ⟨bAt HB.out⟩⟩
         ·replace c18 := Bool.eq_false_iff.mpr c18
          subst c18
          replace H := fP H
          simp only [Option.some.injEq, Prod.mk.injEq] at H
          obtain ⟨rfl, rfl⟩ := H
          go_wp2_with (first | ((with_reducible refine gate_dst (N := 31) rfl ?_); refine V_litsG _ 5 ?hg (N := 31) ?hd (xs := ([47, 42] : List Int)) ?hr ?hw2 ?hr2 (Below.refl _ _) (Nat.le_refl _) (by simp) ?_; (case hd => rfl); (case hg => rfl); (case hr => intro W_; first | (go_simp; done) | (go_simp; rfl)); (case hw2 => rfl); (case hr2 => intro W_; go_simp; rw [run_convert_lit _ 22 5 _ _ _ Tryd.underlying22 Tryd.underlying5]; rfl); intro v160 w29 ho30 hb hg_ hnew_; clear hg_ hnew_; (first | rw [← Ny159.out] at ho30 | (simp only [Int.reduceToNat] at ho30; rw [← Ny159.out] at ho30)); have HO161 := Aside0.mk (Kd.V_lower (Kd.V_mono (ok' := fun k_ => True) ho30 (fun k_ hk_ => trivial)) (below_size (bAt HB.out))); replace HB := Aside0.mk (below_step (bAt HB.out) hb); clear hb ho30; obtain ⟨Ao31, co31, eo31⟩ := Kd.V_slice HO161.out; subst eo31) | ((with_reducible refine gate_callee (f := 21) rfl ?_); refine gL (some 33) Tryd.func21 #[.slice A9 (l0.drop (x4_1 : Int).toNat).length (c0 - x4_1.toNat), .slice Ao31 y159.length co31] rfl (gD l0 (x4_1 : Int).toNat) ?_; (with_reducible refine (bytes_HasPrefix.calls _ _ (l0.drop (x4_1 : Int).toNat) _ _ y159 false _ ?side1 ?side2 ?side3 ?side4 A17.out).mono ?_); (case side1 => exact CAt (Kd.C_below HR154.out HB.out)); (case side2 => exact HC154.out); (case side3 => exact CAt ((Kd.V_reads' HO161.out).2.2)); (case side4 => exact (Kd.V_reads' HO161.out).2.1); rintro e w' ⟨rfl, ⟨nd, rfl⟩⟩; refine ⟨_, rfl, ?_⟩))
          go_ret2
          exact ⟨eR, bAt HB.out⟩
    ·exact nB H c3
   ·exact nB H c2
end Go.Proofs.YtflekegjmjjdmaaDoor.P
