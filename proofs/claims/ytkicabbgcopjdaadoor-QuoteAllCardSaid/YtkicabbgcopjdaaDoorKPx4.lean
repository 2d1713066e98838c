/- Part of the proof: what the theorem needs of this text. -/
import Derived.Test.YtkicabbgcopjdaaDoorKPx0
import Derived.Test.YtkicabbgcopjdaaDoorKPx3
namespace Go.Proofs.YtkicabbgcopjdaaDoor.P
open Go.RowKit Go.Proofs.YtkicabbgcopjdaaDoorW.PrintWords Go.Proofs.YtkicabbgcopjdaaDoorW.PrintLast Go.Proofs.YtkicabbgcopjdaaDoorW.PrintMore
attribute [local go_sem] max2_int min2_int max_two min_two max_three min_three max_four min_four   -- for this text's walks alone
set_option linter.unusedVariables false
set_option linter.unusedSimpArgs false
mutual
def tmesisref04_Take.l0 : Nat → List Int → List Int → Int → Option (List Int × Int × Int)
 | 0, _, _, _ => none
 | k + 1, x0, x5, x6 => if x6 < (x0.length : Int) then (if 0 ≤ x6 then (tmesisref04_Take.j1 k x0 x5 x6 ((rd x0 x6) != 10)) else (none)) else (tmesisref04_Take.j1 k x0 x5 x6 false)
def tmesisref04_Take.j1 : Nat → List Int → List Int → Int → Bool → Option (List Int × Int × Int)
 | 0, _, _, _, _ => none
 | k + 1, x0, x5, x6, x25 => if x25 = true then (if 0 ≤ x6 then (if x6 < (x0.length : Int) then ((tmesisref04_at.f x0 (wrap64 (x6 + 1))).bind fun t159 => (if (rd x0 x6) = 39 then (if t159 = 39 then (if x5.length < 140737488355328 then (tmesisref04_Take.l0 k x0 (x5 ++ [39]) (wrap64 (x6 + 2))) else (none)) else (some (x5, wrap64 (x6 + 1), 0))) else (if (rd x0 x6) = 92 then (if t159 = 110 then (tmesisref04_Take.j2 k x0 x5 x6 t159 false) else (if t159 = 92 then (tmesisref04_Take.j2 k x0 x5 x6 t159 false) else (tmesisref04_Take.j2 k x0 x5 x6 t159 (t159 != 39)))) else (if (rd x0 x6) < 32 then (tmesisref04_Take.j3 k x0 x5 x6 true) else (tmesisref04_Take.j3 k x0 x5 x6 ((rd x0 x6) == 127)))))) else (none)) else (none)) else (some (([] : List Int), x6, 12))
def tmesisref04_Take.j2 : Nat → List Int → List Int → Int → Int → Bool → Option (List Int × Int × Int)
 | 0, _, _, _, _, _ => none
 | k + 1, x0, x5, x6, x8, x57 => if x57 = true then (some (([] : List Int), x6, 13)) else (if x8 = 110 then (if x5.length < 140737488355328 then (tmesisref04_Take.l0 k x0 (x5 ++ [10]) (wrap64 (x6 + 2))) else (none)) else (if x5.length < 140737488355328 then (tmesisref04_Take.l0 k x0 (x5 ++ [x8]) (wrap64 (x6 + 2))) else (none)))
def tmesisref04_Take.j3 : Nat → List Int → List Int → Int → Bool → Option (List Int × Int × Int)
 | 0, _, _, _, _ => none
 | k + 1, x0, x5, x6, x72 => if x72 = true then (some (([] : List Int), x6, 11)) else (if 0 ≤ x6 then (if x6 ≤ (x0.length : Int) then ((tmesisref01_Take.f k (x0.drop (x6 : Int).toNat)).bind fun bt170 => (if bt170.2 = true then (if x6 ≤ (wrap64 (x6 + bt170.1)) then (if (wrap64 (x6 + bt170.1)) ≤ (x0.length : Int) then (if x5.length + ((x0.take ((wrap64 (x6 + bt170.1)) : Int).toNat).drop (x6 : Int).toNat).length < 140737488355328 then (tmesisref04_Take.l0 k x0 (x5 ++ ((x0.take ((wrap64 (x6 + bt170.1)) : Int).toNat).drop (x6 : Int).toNat)) (wrap64 (x6 + bt170.1))) else (none)) else (none)) else (none)) else (some (([] : List Int), x6, 10)))) else (none)) else (none))
end
def tmesisref04_Take.f (k : Nat) (l0 : List Int) : Option (List Int × Int × Int) := (tmesisref04_at.f l0 0).bind fun t153 => (if t153 = 39 then (tmesisref04_Take.l0 k l0 (([] : List Int)) 1) else (some (([] : List Int), 0, 2)))
theorem tmesisref04_Take.mono_l : ∀ k, (∀ y0 y1 y2, LeO (tmesisref04_Take.l0 k y0 y1 y2) (tmesisref04_Take.l0 (k + 1) y0 y1 y2)) ∧ (∀ y0 y1 y2 y3, LeO (tmesisref04_Take.j1 k y0 y1 y2 y3) (tmesisref04_Take.j1 (k + 1) y0 y1 y2 y3)) ∧ (∀ y0 y1 y2 y3 y4, LeO (tmesisref04_Take.j2 k y0 y1 y2 y3 y4) (tmesisref04_Take.j2 (k + 1) y0 y1 y2 y3 y4)) ∧ (∀ y0 y1 y2 y3, LeO (tmesisref04_Take.j3 k y0 y1 y2 y3) (tmesisref04_Take.j3 (k + 1) y0 y1 y2 y3))
 | 0 => ⟨fun _ _ _ r h => by simp [tmesisref04_Take.l0] at h, fun _ _ _ _ r h => by simp [tmesisref04_Take.j1] at h, fun _ _ _ _ _ r h => by simp [tmesisref04_Take.j2] at h, fun _ _ _ _ r h => by simp [tmesisref04_Take.j3] at h⟩
 | k + 1 => by
  obtain ⟨ih0, ih1, ih2, ih3⟩ := tmesisref04_Take.mono_l k
  refine ⟨?_, ?_, ?_, ?_⟩
  ·intro y0 y1 y2
   unfold tmesisref04_Take.l0
   repeat' first
   | (with_reducible exact ih0 _ _ _)
   | (with_reducible exact ih1 _ _ _ _)
   | (with_reducible exact ih2 _ _ _ _ _)
   | (with_reducible exact ih3 _ _ _ _)
   | (with_reducible exact tmesisref01_Take.mono _ _)
   | (with_reducible exact LeO.refl _)
   | (with_reducible exact LeO.none _)
   | (with_reducible refine LeO.ite ?_ ?_)
   | (with_reducible refine LeO.bind ?_ (fun _ => ?_))
   | exact ih0 _ _ _
   | exact ih1 _ _ _ _
   | exact ih2 _ _ _ _ _
   | exact ih3 _ _ _ _
   | exact tmesisref01_Take.mono _ _
   | exact LeO.none _
   | refine LeO.ite ?_ ?_
   | refine LeO.bind ?_ (fun _ => ?_)
  ·intro y0 y1 y2 y3
   unfold tmesisref04_Take.j1
   repeat' first
   | (with_reducible exact ih0 _ _ _)
   | (with_reducible exact ih1 _ _ _ _)
   | (with_reducible exact ih2 _ _ _ _ _)
   | (with_reducible exact ih3 _ _ _ _)
   | (with_reducible exact tmesisref01_Take.mono _ _)
   | (with_reducible exact LeO.refl _)
   | (with_reducible exact LeO.none _)
   | (with_reducible refine LeO.ite ?_ ?_)
   | (with_reducible refine LeO.bind ?_ (fun _ => ?_))
   | exact ih0 _ _ _
   | exact ih1 _ _ _ _
   | exact ih2 _ _ _ _ _
   | exact ih3 _ _ _ _
   | exact tmesisref01_Take.mono _ _
   | exact LeO.none _
   | refine LeO.ite ?_ ?_
   | refine LeO.bind ?_ (fun _ => ?_)
  ·intro y0 y1 y2 y3 y4
   unfold tmesisref04_Take.j2
   repeat' first
   | (with_reducible exact ih0 _ _ _)
   | (with_reducible exact ih1 _ _ _ _)
   | (with_reducible exact ih2 _ _ _ _ _)
   | (with_reducible exact ih3 _ _ _ _)
   | (with_reducible exact tmesisref01_Take.mono _ _)
   | (with_reducible exact LeO.refl _)
   | (with_reducible exact LeO.none _)
   | (with_reducible refine LeO.ite ?_ ?_)
   | (with_reducible refine LeO.bind ?_ (fun _ => ?_))
   | exact ih0 _ _ _
   | exact ih1 _ _ _ _
   | exact ih2 _ _ _ _ _
   | exact ih3 _ _ _ _
   | exact tmesisref01_Take.mono _ _
   | exact LeO.none _
   | refine LeO.ite ?_ ?_
   | refine LeO.bind ?_ (fun _ => ?_)
  ·intro y0 y1 y2 y3
   unfold tmesisref04_Take.j3
   repeat' first
   | (with_reducible exact ih0 _ _ _)
   | (with_reducible exact ih1 _ _ _ _)
   | (with_reducible exact ih2 _ _ _ _ _)
   | (with_reducible exact ih3 _ _ _ _)
   | (with_reducible exact tmesisref01_Take.mono _ _)
   | (with_reducible exact LeO.refl _)
   | (with_reducible exact LeO.none _)
   | (with_reducible refine LeO.ite ?_ ?_)
   | (with_reducible refine LeO.bind ?_ (fun _ => ?_))
   | exact ih0 _ _ _
   | exact ih1 _ _ _ _
   | exact ih2 _ _ _ _ _
   | exact ih3 _ _ _ _
   | exact tmesisref01_Take.mono _ _
   | exact LeO.none _
   | refine LeO.ite ?_ ?_
   | refine LeO.bind ?_ (fun _ => ?_)
theorem tmesisref04_Take.mono : ∀ a0 k, LeO (tmesisref04_Take.f k a0) (tmesisref04_Take.f (k + 1) a0) := by
 intro a0 k
 obtain ⟨ih0, ih1, ih2, ih3⟩ := tmesisref04_Take.mono_l k
 unfold tmesisref04_Take.f
 repeat' first
   | (with_reducible exact ih0 _ _ _)
   | (with_reducible exact ih1 _ _ _ _)
   | (with_reducible exact ih2 _ _ _ _ _)
   | (with_reducible exact ih3 _ _ _ _)
   | (with_reducible exact tmesisref01_Take.mono _ _)
   | (with_reducible exact LeO.refl _)
   | (with_reducible exact LeO.none _)
   | (with_reducible refine LeO.ite ?_ ?_)
   | (with_reducible refine LeO.bind ?_ (fun _ => ?_))
   | exact ih0 _ _ _
   | exact ih1 _ _ _ _
   | exact ih2 _ _ _ _ _
   | exact ih3 _ _ _ _
   | exact tmesisref01_Take.mono _ _
   | exact LeO.none _
   | refine LeO.ite ?_ ?_
   | refine LeO.bind ?_ (fun _ => ?_)
set_option maxHeartbeats 8000000 in
set_option maxRecDepth 100000 in
theorem tmesisref04_Take.calls (k : Nat) (A0 : Option Addr) (c0 : Nat) (l0 : List Int) (r1 : List Int) (r2 : Int) (r3 : Int) (w : World) (hr0 : Kd.C (Kd.int .u8) w A0 l0.length l0) (hc0 : l0.length ≤ c0) (h : tmesisref04_Take.f k l0 = some (r1, r2, r3)) :
  Calls Tryd.prog 11 #[.slice A0 l0.length c0] w fun e w' => ∃ v0_ : Value, e = .returned (.tuple #[v0_, .int .i64 r2, .int .i64 r3]) ∧ Kd.R (Kd.int .u8) 5 w' w.heap.size (fun _ => True) v0_ r1 ∧ Below w.heap.size w w' := by
 have HR0 := Aside0.mk hr0
 have HC0 := Aside0.mk hc0
 clear hr0 hc0
 have HB := Aside0.mk (Below.refl w.heap.size w)
 have H : ((tmesisref04_at.f l0 0).bind fun t153 => (if t153 = 39 then (tmesisref04_Take.l0 k l0 (([] : List Int)) 1) else (some (([] : List Int), 0, 2)))) = some (r1, r2, r3) := h
 clear h
 replace H := Option.bind_eq_some_iff.mp H
 obtain ⟨t153, A20, H⟩ := H
 replace H : (if t153 = 39 then (tmesisref04_Take.l0 k l0 (([] : List Int)) 1) else (some (([] : List Int), 0, 2))) = some (r1, r2, r3) := H
 have A2 := Aside0.mk A20
 clear A20
 by_cases c3 : t153 = 39
 ·rw [if_pos c3] at H
  have c3b0 : (t153 == 39) = true := beq_iff_eq.mpr c3
  have c3b1 : (t153 != 39) = false := bne_eq_false_iff_eq.mpr c3
  clear c3
  obtain ⟨y154, hy154⟩ : ∃ y_ : List Int, y_ = (([] : List Int)) := ⟨_, rfl⟩
  replace H : (tmesisref04_Take.l0 k l0 y154 1) = some (r1, r2, r3) := by first | (rw [hy154]; with_reducible exact H) | (have H2_ := (Option.bind_some _ _).symm.trans H; rw [hy154]; with_reducible exact H2_) | (have H2_ := (Option.bind_some _ _).symm.trans H; with_reducible exact H2_) | with_reducible exact H | (rw [hy154]; exact H) | exact H
  have Ny154 := Aside0.mk hy154
  clear hy154
  have H' := Aside0.mk H
  clear H
  go_enter Tryd.func11, Tryd.ntmps11
  go_wp2_with (first | ((with_reducible refine gate_callee (f := 16) rfl ?_); refine goesL_ (some 12) rfl rfl Tryd.func16 (by kernel_rfl) rfl #[.slice A0 l0.length c0, .int .i64 0] rfl (by (try simp only [List.map_toArray, List.map_cons, List.map_nil]); first | done | rfl | (simp only [List.length_drop, List.length_take]; rfl)) ?_; (with_reducible refine (tmesisref04_at.calls _ _ l0 0 t153 _ ?side1 ?side2 A2.out).mono ?_); (case side1 => repeat (first | exact HR0.out | (with_reducible refine Kd.C_alloc ?_ _) | (with_reducible refine Kd.C_drewN ?_ _) | (with_reducible refine Kd.C_drew ?_))); (case side2 => exact HC0.out); rintro e w' ⟨rfl, ⟨nd, rfl⟩⟩; refine ⟨_, rfl, ?_⟩) | ((with_reducible refine gate_dst (N := 14) rfl ?_); refine Kd.R_lit (Kd.int .u8) _ 5 ?hg (N := 14) ?hd (xs := ([] : List Int)) (inner := []) (ok := fun _ => True) (okp := fun _ => True) ?hr ?hp (fun _ hk => hk) trivial (Below.refl _ _) (Nat.le_refl _) (by simp) ?_; (case hd => rfl); (case hg => rfl); (case hr => first | (go_simp; done) | (go_simp; rfl)); (case hp => exact (Reps.none _ _)); intro v155 w4 ho5 hb hg_ hnew_; clear hg_ hnew_; (first | rw [← Ny154.out] at ho5 | (simp only [Int.reduceToNat] at ho5; rw [← Ny154.out] at ho5)); have n0_ := Aside0.mk (Kd.R_lower ho5 (below_size (by repeat (first | (with_reducible first | exact HB.out | apply below_alloc | apply pw_below_drewN | apply below_drew1) | exact HB.out)))); have n1_ := Aside0.mk (below_step (by repeat (first | (with_reducible first | exact HB.out | apply below_alloc | apply pw_below_drewN | apply below_drew1) | exact HB.out)) hb); clear HB; have HO156 := n0_; have HB := n1_; clear n0_ n1_; clear hb ho5))
  go_loopg [5, 6] k (fun kq v5 v6 w' => ∃ (x5_1 : List Int) (x6_1 : Int), v6 = .int .i64 x6_1 ∧ Aside0 (tmesisref04_Take.l0 kq l0 x5_1 x6_1 = some (r1, r2, r3)) ∧ Aside0 (kq ≤ k) ∧ Aside0 (Kd.R (Kd.int .u8) 5 w' w.heap.size (fun _ => True) v5 x5_1) ∧ Aside0 (Below w.heap.size w w'))
  case atStart => exact ⟨(y154), (1), (by first | rfl | (simp; done) | (simp [*]; done)), H', ⟨Nat.le_refl _⟩, ⟨by (with_reducible repeat (first | apply Kd.R_alloc | apply Kd.R_drewN | apply Kd.R_drew)); exact HO156.out⟩, ⟨by repeat (first | (with_reducible first | exact HB.out | apply below_alloc | apply pw_below_drewN | apply below_drew1) | exact HB.out)⟩⟩
  case round =>
   clear H'
   try clear c1
   try clear p2
   try clear c3
   try clear c3b0
   try clear c3b1
   obtain ⟨x5_1, x6_1, rfl, HA, HK1, HO_5, HB⟩ := hrel
   cases gk with
   | zero => exact absurd HA.out (by simp [tmesisref04_Take.l0])
   | succ k1 =>
    have H := HA.out
    clear HA
    simp only [tmesisref04_Take.l0] at H
    have HC6 := Aside0.mk H
    clear H
    go_upto_region 5 with (fail)
    go_cut [25] (fun v25 wc => ∃ (kq : Nat) (x25_5 : Bool), v25 = .bool x25_5 ∧ Aside0 (tmesisref04_Take.j1 kq l0 x5_1 x6_1 x25_5 = some (r1, r2, r3)) ∧ Aside0 (kq ≤ k1) ∧ Aside0 (Kd.R (Kd.int .u8) 5 wc w.heap.size (fun _ => True) u5 x5_1) ∧ Aside0 (Below w.heap.size w wc))
    case first =>
     have H := HC6.out
     clear HC6
     by_cases c7 : x6_1 < (l0.length : Int)
     ·rw [if_pos c7] at H
      have c7b0 : decide (x6_1 < (l0.length : Int)) = true := decide_eq_true c7
      clear c7
      (first | rw [c7b0] | (simp only [i64_w, i32_w]; rw [c7b0]) | skip)
      by_cases c8 : 0 ≤ x6_1
      ·rw [if_pos c8] at H
       have c8b0 : decide (0 ≤ x6_1) = true := decide_eq_true c8
       clear c8
       have H' := Aside0.mk H
       clear H
       have p157 : 0 ≤ (x6_1 : Int) := of_decide_eq_true (by first | (with_reducible assumption) | assumption)
       have q157 : x6_1 < (l0.length : Int) := of_decide_eq_true (by first | (with_reducible assumption) | assumption)
       obtain ⟨ad157, e157, hx157_0⟩ := Kd.at_int HR0.out x6_1 p157 q157
       cases e157
       replace hx157_0 := (HB.out.cell (World.block_lt_of_cell? w _ hx157_0)).trans hx157_0
       replace p157 := eq_true p157
       replace q157 := eq_true q157
       go_wp2
       go_meet
       case rel => exact ⟨_, (((rd l0 x6_1) != 10)), (by first | rfl | (simp; done) | (simp [*]; done)), H', ⟨by have := HK1.out; first | omega | exact Nat.le_refl _⟩, ⟨by (with_reducible repeat (first | apply Kd.R_alloc | apply Kd.R_drewN | apply Kd.R_drew)); exact HO_5.out⟩, ⟨by repeat (first | (with_reducible first | exact HB.out | apply below_alloc | apply pw_below_drewN | apply below_drew1) | exact HB.out)⟩⟩
      ·rw [if_neg c8] at H
       exact absurd H (by simp)
     ·rw [if_neg c7] at H
      have c7b0 : decide (x6_1 < (l0.length : Int)) = false := decide_eq_false c7
      clear c7
      (first | rw [c7b0] | (simp only [i64_w, i32_w]; rw [c7b0]) | skip)
      have H' := Aside0.mk H
      clear H
      go_wp2
      go_meet
      case rel => exact ⟨_, (false), (by first | rfl | (simp; done) | (simp [*]; done)), H', ⟨by have := HK1.out; first | omega | exact Nat.le_refl _⟩, ⟨by (with_reducible repeat (first | apply Kd.R_alloc | apply Kd.R_drewN | apply Kd.R_drew)); exact HO_5.out⟩, ⟨by repeat (first | (with_reducible first | exact HB.out | apply below_alloc | apply pw_below_drewN | apply below_drew1) | exact HB.out)⟩⟩
    case rest =>
     clear HC6
     try clear c1
     try clear p1
     try clear q1
     try clear hx1
     try clear p2
     try clear c3
     try clear c3b0
     try clear c3b1
     try clear c7
     try clear c7b0
     try clear c8
     try clear c8b0
     try clear hx157_0
     try clear p157
     try clear p2
     try clear q157
     obtain ⟨kq, x25_5, rfl, HA, HJ5, HO_5, HB⟩ := hcut
     cases kq with
     | zero => exact absurd HA.out (by simp [tmesisref04_Take.j1])
     | succ kj5 =>
      have H := HA.out
      clear HA
      simp only [tmesisref04_Take.j1] at H
      by_cases c9 : x25_5 = true
      ·subst c9
       have H1 : (if 0 ≤ x6_1 then (if x6_1 < (l0.length : Int) then ((tmesisref04_at.f l0 (wrap64 (x6_1 + 1))).bind fun t159 => (if (rd l0 x6_1) = 39 then (if t159 = 39 then (if x5_1.length < 140737488355328 then (tmesisref04_Take.l0 kj5 l0 (x5_1 ++ [39]) (wrap64 (x6_1 + 2))) else (none)) else (some (x5_1, wrap64 (x6_1 + 1), 0))) else (if (rd l0 x6_1) = 92 then (if t159 = 110 then (tmesisref04_Take.j2 kj5 l0 x5_1 x6_1 t159 false) else (if t159 = 92 then (tmesisref04_Take.j2 kj5 l0 x5_1 x6_1 t159 false) else (tmesisref04_Take.j2 kj5 l0 x5_1 x6_1 t159 (t159 != 39)))) else (if (rd l0 x6_1) < 32 then (tmesisref04_Take.j3 kj5 l0 x5_1 x6_1 true) else (tmesisref04_Take.j3 kj5 l0 x5_1 x6_1 ((rd l0 x6_1) == 127)))))) else (none)) else (none)) = some (r1, r2, r3) := by rw [if_pos rfl] at H; exact H
       clear H
       have H := H1
       clear H1
       by_cases c10 : 0 ≤ x6_1
       ·rw [if_pos c10] at H
        have c10b0 : decide (0 ≤ x6_1) = true := decide_eq_true c10
        clear c10
        by_cases c11 : x6_1 < (l0.length : Int)
        ·rw [if_pos c11] at H
         have c11b0 : decide (x6_1 < (l0.length : Int)) = true := decide_eq_true c11
         clear c11
         replace H := Option.bind_eq_some_iff.mp H
         obtain ⟨t159, A120, H⟩ := H
         replace H : (if (rd l0 x6_1) = 39 then (if t159 = 39 then (if x5_1.length < 140737488355328 then (tmesisref04_Take.l0 kj5 l0 (x5_1 ++ [39]) (wrap64 (x6_1 + 2))) else (none)) else (some (x5_1, wrap64 (x6_1 + 1), 0))) else (if (rd l0 x6_1) = 92 then (if t159 = 110 then (tmesisref04_Take.j2 kj5 l0 x5_1 x6_1 t159 false) else (if t159 = 92 then (tmesisref04_Take.j2 kj5 l0 x5_1 x6_1 t159 false) else (tmesisref04_Take.j2 kj5 l0 x5_1 x6_1 t159 (t159 != 39)))) else (if (rd l0 x6_1) < 32 then (tmesisref04_Take.j3 kj5 l0 x5_1 x6_1 true) else (tmesisref04_Take.j3 kj5 l0 x5_1 x6_1 ((rd l0 x6_1) == 127))))) = some (r1, r2, r3) := H
         have A12 := Aside0.mk A120
         clear A120
         by_cases c13 : (rd l0 x6_1) = 39
         ·rw [if_pos c13] at H
          have c13b0 : ((rd l0 x6_1) == 39) = true := beq_iff_eq.mpr c13
          have c13b1 : ((rd l0 x6_1) != 39) = false := bne_eq_false_iff_eq.mpr c13
          clear c13
          by_cases c14 : t159 = 39
          ·rw [if_pos c14] at H
           have c14b0 : (t159 == 39) = true := beq_iff_eq.mpr c14
           have c14b1 : (t159 != 39) = false := bne_eq_false_iff_eq.mpr c14
           clear c14
           by_cases c15 : x5_1.length < 140737488355328
           ·rw [if_pos c15] at H
            have LMc15 := Aside0.mk c15
            clear c15
            obtain ⟨y160, hy160⟩ : ∃ y_ : List Int, y_ = (x5_1 ++ [39]) := ⟨_, rfl⟩
            replace H : (tmesisref04_Take.l0 kj5 l0 y160 (wrap64 (x6_1 + 2))) = some (r1, r2, r3) := by first | (rw [hy160]; with_reducible exact H) | (have H2_ := (Option.bind_some _ _).symm.trans H; rw [hy160]; with_reducible exact H2_) | (have H2_ := (Option.bind_some _ _).symm.trans H; with_reducible exact H2_) | with_reducible exact H | (rw [hy160]; exact H) | exact H
            have Ny160 := Aside0.mk hy160
            clear hy160
            have H' := Aside0.mk H
            clear H
            have p158 : 0 ≤ (x6_1 : Int) := of_decide_eq_true (by first | (with_reducible assumption) | assumption)
            have q158 : x6_1 < (l0.length : Int) := of_decide_eq_true (by first | (with_reducible assumption) | assumption)
            obtain ⟨ad158, e158, hx158_0⟩ := Kd.at_int HR0.out x6_1 p158 q158
            cases e158
            replace hx158_0 := (HB.out.cell (World.block_lt_of_cell? w _ hx158_0)).trans hx158_0
            replace p158 := eq_true p158
            replace q158 := eq_true q158
            go_wp2_with (first | ((with_reducible refine gate_callee (f := 16) rfl ?_); refine goesL_ (some 33) rfl rfl Tryd.func16 (by kernel_rfl) rfl #[.slice (some ad158) l0.length c0, .int .i64 (wrap64 (x6_1 + 1))] rfl (by (try simp only [List.map_toArray, List.map_cons, List.map_nil]); first | done | rfl | (simp only [List.length_drop, List.length_take]; rfl)) ?_; (with_reducible refine (tmesisref04_at.calls _ _ l0 (wrap64 (x6_1 + 1)) t159 _ ?side1 ?side2 A12.out).mono ?_); (case side1 => repeat (first | exact (Kd.C_below HR0.out HB.out) | (with_reducible refine Kd.C_alloc ?_ _) | (with_reducible refine Kd.C_drewN ?_ _) | (with_reducible refine Kd.C_drew ?_))); (case side2 => exact HC0.out); rintro e w' ⟨rfl, ⟨nd, rfl⟩⟩; refine ⟨_, rfl, ?_⟩) | ((with_reducible refine gate_builtin (b := .append) (xs := #[.tmp 41, .tmp 42]) rfl ?_); at_builtin; refine Kd.R_append (Kd.int .u8) (w0 := w) w.heap.size rfl (.tmp 41) (.tmp 42) 22 5 (.int .u8 0) 1 rfl Tryd.underlying22 info5 rfl (by decide) (by omega) u5 x5_1 39 [.int .u8 39] (fun _ => True) (fun _ => False) rfl rfl ?aP (fun _ hk => hk.elim) ?aF ?aO ?aB ?aS ?aL ?_; (case aP => exact rfl); (case aB => exact (by repeat (first | (with_reducible first | exact HB.out | apply below_alloc | apply pw_below_drewN | apply below_drew1) | exact HB.out))); (case aF => exact (fun _ _ => trivial)); (case aO => exact (by (with_reducible repeat (first | apply Kd.R_alloc | apply Kd.R_drewN | apply Kd.R_drew)); exact HO_5.out)); (case aS => exact (below_size (by repeat (first | (with_reducible first | exact HB.out | apply below_alloc | apply pw_below_drewN | apply below_drew1) | exact HB.out)))); (case aL => have := LMc15.out; omega); intro v161 w16 ho hb hg hat; rw [← Ny160.out] at ho; have n0_ := Aside0.mk (hb); have n1_ := Aside0.mk (ho); clear HB; clear HO_5; have HB := n0_; have HO162 := n1_; clear n0_ n1_; clear ho hb hg hat))
            go_roundg kj5
            case measure => have := HK1.out; have := HJ5.out; omega
            case rel => exact ⟨(y160), (wrap64 (x6_1 + 2)), (by first | rfl | (simp; done) | (simp [*]; done)), H', ⟨by have := HK1.out; have := HJ5.out; omega⟩, ⟨by (with_reducible repeat (first | apply Kd.R_alloc | apply Kd.R_drewN | apply Kd.R_drew)); exact HO162.out⟩, ⟨by repeat (first | (with_reducible first | exact HB.out | apply below_alloc | apply pw_below_drewN | apply below_drew1) | exact HB.out)⟩⟩
           ·rw [if_neg c15] at H
            exact absurd H (by simp)
          ·rw [if_neg c14] at H
           have c14b0 : (t159 == 39) = false := beq_eq_false_iff_ne.mpr c14
           have c14b1 : (t159 != 39) = true := bne_iff_ne.mpr c14
           simp only [Option.some.injEq, Prod.mk.injEq] at H
           obtain ⟨rfl, rfl, rfl⟩ := H
           have p158 : 0 ≤ (x6_1 : Int) := of_decide_eq_true (by first | (with_reducible assumption) | assumption)
           have q158 : x6_1 < (l0.length : Int) := of_decide_eq_true (by first | (with_reducible assumption) | assumption)
           obtain ⟨ad158, e158, hx158_0⟩ := Kd.at_int HR0.out x6_1 p158 q158
           cases e158
           replace hx158_0 := (HB.out.cell (World.block_lt_of_cell? w _ hx158_0)).trans hx158_0
           replace p158 := eq_true p158
           replace q158 := eq_true q158
           go_wp2_with (first | ((with_reducible refine gate_callee (f := 16) rfl ?_); refine goesL_ (some 33) rfl rfl Tryd.func16 (by kernel_rfl) rfl #[.slice (some ad158) l0.length c0, .int .i64 (wrap64 (x6_1 + 1))] rfl (by (try simp only [List.map_toArray, List.map_cons, List.map_nil]); first | done | rfl | (simp only [List.length_drop, List.length_take]; rfl)) ?_; (with_reducible refine (tmesisref04_at.calls _ _ l0 (wrap64 (x6_1 + 1)) t159 _ ?side1 ?side2 A12.out).mono ?_); (case side1 => repeat (first | exact (Kd.C_below HR0.out HB.out) | (with_reducible refine Kd.C_alloc ?_ _) | (with_reducible refine Kd.C_drewN ?_ _) | (with_reducible refine Kd.C_drew ?_))); (case side2 => exact HC0.out); rintro e w' ⟨rfl, ⟨nd, rfl⟩⟩; refine ⟨_, rfl, ?_⟩))
           go_ret3
           exact ⟨_, by first | rfl | (simp [errW_none, errW_some] <;> rfl) | (simp [*, errW_none, errW_some] <;> rfl), by (with_reducible repeat (first | apply Kd.R_alloc | apply Kd.R_drewN | apply Kd.R_drew)); exact HO_5.out, by repeat (first | (with_reducible first | exact HB.out | apply below_alloc | apply pw_below_drewN | apply below_drew1) | exact HB.out)⟩
         ·rw [if_neg c13] at H
          have c13b0 : ((rd l0 x6_1) == 39) = false := beq_eq_false_iff_ne.mpr c13
          have c13b1 : ((rd l0 x6_1) != 39) = true := bne_iff_ne.mpr c13
          by_cases c17 : (rd l0 x6_1) = 92
          ·rw [if_pos c17] at H
           have c17b0 : ((rd l0 x6_1) == 92) = true := beq_iff_eq.mpr c17
           have c17b1 : ((rd l0 x6_1) != 92) = false := bne_eq_false_iff_eq.mpr c17
           clear c17
           have HC18 := Aside0.mk H
           clear H
           have p158 : 0 ≤ (x6_1 : Int) := of_decide_eq_true (by first | (with_reducible assumption) | assumption)
           have q158 : x6_1 < (l0.length : Int) := of_decide_eq_true (by first | (with_reducible assumption) | assumption)
           obtain ⟨ad158, e158, hx158_0⟩ := Kd.at_int HR0.out x6_1 p158 q158
           cases e158
           replace hx158_0 := (HB.out.cell (World.block_lt_of_cell? w _ hx158_0)).trans hx158_0
           replace p158 := eq_true p158
           replace q158 := eq_true q158
           go_upto_region 14 with (first | ((with_reducible refine gate_callee (f := 16) rfl ?_); refine goesL_ (some 33) rfl rfl Tryd.func16 (by kernel_rfl) rfl #[.slice (some ad158) l0.length c0, .int .i64 (wrap64 (x6_1 + 1))] rfl (by (try simp only [List.map_toArray, List.map_cons, List.map_nil]); first | done | rfl | (simp only [List.length_drop, List.length_take]; rfl)) ?_; (with_reducible refine (tmesisref04_at.calls _ _ l0 (wrap64 (x6_1 + 1)) t159 _ ?side1 ?side2 A12.out).mono ?_); (case side1 => repeat (first | exact (Kd.C_below HR0.out HB.out) | (with_reducible refine Kd.C_alloc ?_ _) | (with_reducible refine Kd.C_drewN ?_ _) | (with_reducible refine Kd.C_drew ?_))); (case side2 => exact HC0.out); rintro e w' ⟨rfl, ⟨nd, rfl⟩⟩; refine ⟨_, rfl, ?_⟩))
           (try simp only [Act.put, List.setIfInBounds_toArray, List.set_cons_zero, List.set_cons_succ])
           go_cut [57] (fun v57 wc => ∃ (kq : Nat) (x57_17 : Bool), v57 = .bool x57_17 ∧ Aside0 (tmesisref04_Take.j2 kq l0 x5_1 x6_1 t159 x57_17 = some (r1, r2, r3)) ∧ Aside0 (kq ≤ kj5) ∧ Aside0 (Kd.R (Kd.int .u8) 5 wc w.heap.size (fun _ => True) u5 x5_1) ∧ Aside0 (Below w.heap.size w wc))
           case first =>
            have H := HC18.out
            clear HC18
            by_cases c19 : t159 = 110
            ·rw [if_pos c19] at H
             have c19b0 : (t159 == 110) = true := beq_iff_eq.mpr c19
             have c19b1 : (t159 != 110) = false := bne_eq_false_iff_eq.mpr c19
             clear c19
             (first | rw [c19b0] | (simp only [i64_w, i32_w]; rw [c19b0]) | skip)
             have H' := Aside0.mk H
             clear H
             go_wp2
             go_meet
             case rel => exact ⟨_, (false), (by first | rfl | (simp; done) | (simp [*]; done)), H', ⟨by have := HK1.out; have := HJ5.out; first | omega | exact Nat.le_refl _⟩, ⟨by (with_reducible repeat (first | apply Kd.R_alloc | apply Kd.R_drewN | apply Kd.R_drew)); exact HO_5.out⟩, ⟨by repeat (first | (with_reducible first | exact HB.out | apply below_alloc | apply pw_below_drewN | apply below_drew1) | exact HB.out)⟩⟩
            ·rw [if_neg c19] at H
             have c19b0 : (t159 == 110) = false := beq_eq_false_iff_ne.mpr c19
             have c19b1 : (t159 != 110) = true := bne_iff_ne.mpr c19
             (first | rw [c19b0] | (simp only [i64_w, i32_w]; rw [c19b0]) | skip)
             by_cases c20 : t159 = 92
             ·rw [if_pos c20] at H
              have c20b0 : (t159 == 92) = true := beq_iff_eq.mpr c20
              have c20b1 : (t159 != 92) = false := bne_eq_false_iff_eq.mpr c20
              clear c20
              have H' := Aside0.mk H
              clear H
              go_wp2
              go_meet
              case rel => exact ⟨_, (false), (by first | rfl | (simp; done) | (simp [*]; done)), H', ⟨by have := HK1.out; have := HJ5.out; first | omega | exact Nat.le_refl _⟩, ⟨by (with_reducible repeat (first | apply Kd.R_alloc | apply Kd.R_drewN | apply Kd.R_drew)); exact HO_5.out⟩, ⟨by repeat (first | (with_reducible first | exact HB.out | apply below_alloc | apply pw_below_drewN | apply below_drew1) | exact HB.out)⟩⟩
             ·rw [if_neg c20] at H
              have c20b0 : (t159 == 92) = false := beq_eq_false_iff_ne.mpr c20
              have c20b1 : (t159 != 92) = true := bne_iff_ne.mpr c20
              have H' := Aside0.mk H
              clear H
              go_wp2
              go_meet
              case rel => exact ⟨_, ((t159 != 39)), (by first | rfl | (simp; done) | (simp [*]; done)), H', ⟨by have := HK1.out; have := HJ5.out; first | omega | exact Nat.le_refl _⟩, ⟨by (with_reducible repeat (first | apply Kd.R_alloc | apply Kd.R_drewN | apply Kd.R_drew)); exact HO_5.out⟩, ⟨by repeat (first | (with_reducible first | exact HB.out | apply below_alloc | apply pw_below_drewN | apply below_drew1) | exact HB.out)⟩⟩
           case rest =>
            clear HC18
            try clear c1
            try clear p1
            try clear q1
            try clear hx1
            try clear c2
            try clear p2
            try clear c3
            try clear c3b0
            try clear c3b1
            try clear p6
            try clear c7
            try clear c7b0
            try clear c8
            try clear c8b0
            try clear c9
            try clear c10
            try clear c10b0
            try clear c11
            try clear c11b0
            try clear c13
            try clear c13b0
            try clear c13b1
            try clear c14
            try clear c14b0
            try clear c14b1
            try clear c15
            try clear p15
            try clear q15
            try clear hx15
            try clear c16
            try clear c17
            try clear c17b0
            try clear c17b1
            try clear c19
            try clear c19b0
            try clear c19b1
            try clear c20
            try clear c20b0
            try clear c20b1
            try clear hx157_0
            try clear hx158_0
            try clear p1
            try clear p157
            try clear p158
            try clear p2
            try clear q1
            try clear q157
            try clear q158
            obtain ⟨kq, x57_17, rfl, HA, HJ17, HO_5, HB⟩ := hcut
            cases kq with
            | zero => exact absurd HA.out (by simp [tmesisref04_Take.j2])
            | succ kj17 =>
             have H := HA.out
             clear HA
             simp only [tmesisref04_Take.j2] at H
             by_cases c21 : x57_17 = true
             ·subst c21
              have H1 : (some (([] : List Int), x6_1, 13)) = some (r1, r2, r3) := by rw [if_pos rfl] at H; exact H
              clear H
              have H := H1
              clear H1
              simp only [Option.some.injEq, Prod.mk.injEq] at H
              obtain ⟨rfl, rfl, rfl⟩ := H
              go_wp2
              go_ret3
              exact ⟨_, by first | rfl | (simp [errW_none, errW_some] <;> rfl) | (simp [*, errW_none, errW_some] <;> rfl), by first | exact Kd.R_nil _ _ _ _ _ | exact Kd.N_nil _ _ _ _ _ | exact Kd.V_nil _ _ _ _ _ | exact Kd.Q_nil _ _ _ _ _ | exact Kd.S_nil _ _ _ _ _, by repeat (first | (with_reducible first | exact HB.out | apply below_alloc | apply pw_below_drewN | apply below_drew1) | exact HB.out)⟩
             ·replace c21 := Bool.eq_false_iff.mpr c21
              subst c21
              have H1 : (if t159 = 110 then (if x5_1.length < 140737488355328 then (tmesisref04_Take.l0 kj17 l0 (x5_1 ++ [10]) (wrap64 (x6_1 + 2))) else (none)) else (if x5_1.length < 140737488355328 then (tmesisref04_Take.l0 kj17 l0 (x5_1 ++ [t159]) (wrap64 (x6_1 + 2))) else (none))) = some (r1, r2, r3) := by rw [if_neg (show ¬ (false = true) by decide)] at H; exact H
              clear H
              have H := H1
              clear H1
              by_cases c22 : t159 = 110
              ·rw [if_pos c22] at H
               have c22b0 : (t159 == 110) = true := beq_iff_eq.mpr c22
               have c22b1 : (t159 != 110) = false := bne_eq_false_iff_eq.mpr c22
               clear c22
               by_cases c23 : x5_1.length < 140737488355328
               ·rw [if_pos c23] at H
                have LMc23 := Aside0.mk c23
                clear c23
                obtain ⟨y163, hy163⟩ : ∃ y_ : List Int, y_ = (x5_1 ++ [10]) := ⟨_, rfl⟩
                replace H : (tmesisref04_Take.l0 kj17 l0 y163 (wrap64 (x6_1 + 2))) = some (r1, r2, r3) := by first | (rw [hy163]; with_reducible exact H) | (have H2_ := (Option.bind_some _ _).symm.trans H; rw [hy163]; with_reducible exact H2_) | (have H2_ := (Option.bind_some _ _).symm.trans H; with_reducible exact H2_) | with_reducible exact H | (rw [hy163]; exact H) | exact H
                have Ny163 := Aside0.mk hy163
                clear hy163
                have H' := Aside0.mk H
                clear H
                go_wp2_with (first | ((with_reducible refine gate_builtin (b := .append) (xs := #[.tmp 61, .tmp 63]) rfl ?_); at_builtin; refine Kd.R_append (Kd.int .u8) (w0 := w) w.heap.size rfl (.tmp 61) (.tmp 63) 22 5 (.int .u8 0) 1 rfl Tryd.underlying22 info5 rfl (by decide) (by omega) u5 x5_1 10 [.int .u8 10] (fun _ => True) (fun _ => False) rfl rfl ?aP (fun _ hk => hk.elim) ?aF ?aO ?aB ?aS ?aL ?_; (case aP => exact rfl); (case aB => exact (by repeat (first | (with_reducible first | exact HB.out | apply below_alloc | apply pw_below_drewN | apply below_drew1) | exact HB.out))); (case aF => exact (fun _ _ => trivial)); (case aO => exact (by (with_reducible repeat (first | apply Kd.R_alloc | apply Kd.R_drewN | apply Kd.R_drew)); exact HO_5.out)); (case aS => exact (below_size (by repeat (first | (with_reducible first | exact HB.out | apply below_alloc | apply pw_below_drewN | apply below_drew1) | exact HB.out)))); (case aL => have := LMc23.out; omega); intro v164 w24 ho hb hg hat; rw [← Ny163.out] at ho; have n0_ := Aside0.mk (hb); have n1_ := Aside0.mk (ho); clear HB; clear HO_5; have HB := n0_; have HO165 := n1_; clear n0_ n1_; clear ho hb hg hat))
                go_roundg kj17
                case measure => have := HK1.out; have := HJ5.out; have := HJ17.out; omega
                case rel => exact ⟨(y163), (wrap64 (x6_1 + 2)), (by first | rfl | (simp; done) | (simp [*]; done)), H', ⟨by have := HK1.out; have := HJ5.out; have := HJ17.out; omega⟩, ⟨by (with_reducible repeat (first | apply Kd.R_alloc | apply Kd.R_drewN | apply Kd.R_drew)); exact HO165.out⟩, ⟨by repeat (first | (with_reducible first | exact HB.out | apply below_alloc | apply pw_below_drewN | apply below_drew1) | exact HB.out)⟩⟩
               ·rw [if_neg c23] at H
                exact absurd H (by simp)
              ·rw [if_neg c22] at H
               have c22b0 : (t159 == 110) = false := beq_eq_false_iff_ne.mpr c22
               have c22b1 : (t159 != 110) = true := bne_iff_ne.mpr c22
               by_cases c25 : x5_1.length < 140737488355328
               ·rw [if_pos c25] at H
                have LMc25 := Aside0.mk c25
                clear c25
                obtain ⟨y166, hy166⟩ : ∃ y_ : List Int, y_ = (x5_1 ++ [t159]) := ⟨_, rfl⟩
                replace H : (tmesisref04_Take.l0 kj17 l0 y166 (wrap64 (x6_1 + 2))) = some (r1, r2, r3) := by first | (rw [hy166]; with_reducible exact H) | (have H2_ := (Option.bind_some _ _).symm.trans H; rw [hy166]; with_reducible exact H2_) | (have H2_ := (Option.bind_some _ _).symm.trans H; with_reducible exact H2_) | with_reducible exact H | (rw [hy166]; exact H) | exact H
                have Ny166 := Aside0.mk hy166
                clear hy166
                have H' := Aside0.mk H
                clear H
                go_wp2_with (first | ((with_reducible refine gate_builtin (b := .append) (xs := #[.tmp 61, .tmp 63]) rfl ?_); at_builtin; refine Kd.R_append (Kd.int .u8) (w0 := w) w.heap.size rfl (.tmp 61) (.tmp 63) 22 5 (.int .u8 0) 1 rfl Tryd.underlying22 info5 rfl (by decide) (by omega) u5 x5_1 t159 [.int .u8 t159] (fun _ => True) (fun _ => False) rfl rfl ?aP (fun _ hk => hk.elim) ?aF ?aO ?aB ?aS ?aL ?_; (case aP => exact rfl); (case aB => exact (by repeat (first | (with_reducible first | exact HB.out | apply below_alloc | apply pw_below_drewN | apply below_drew1) | exact HB.out))); (case aF => exact (fun _ _ => trivial)); (case aO => exact (by (with_reducible repeat (first | apply Kd.R_alloc | apply Kd.R_drewN | apply Kd.R_drew)); exact HO_5.out)); (case aS => exact (below_size (by repeat (first | (with_reducible first | exact HB.out | apply below_alloc | apply pw_below_drewN | apply below_drew1) | exact HB.out)))); (case aL => have := LMc25.out; omega); intro v167 w26 ho hb hg hat; rw [← Ny166.out] at ho; have n0_ := Aside0.mk (hb); have n1_ := Aside0.mk (ho); clear HB; clear HO_5; have HB := n0_; have HO168 := n1_; clear n0_ n1_; clear ho hb hg hat))
                go_roundg kj17
                case measure => have := HK1.out; have := HJ5.out; have := HJ17.out; omega
                case rel => exact ⟨(y166), (wrap64 (x6_1 + 2)), (by first | rfl | (simp; done) | (simp [*]; done)), H', ⟨by have := HK1.out; have := HJ5.out; have := HJ17.out; omega⟩, ⟨by (with_reducible repeat (first | apply Kd.R_alloc | apply Kd.R_drewN | apply Kd.R_drew)); exact HO168.out⟩, ⟨by repeat (first | (with_reducible first | exact HB.out | apply below_alloc | apply pw_below_drewN | apply below_drew1) | exact HB.out)⟩⟩
               ·rw [if_neg c25] at H
                exact absurd H (by simp)
          ·rw [if_neg c17] at H
           have c17b0 : ((rd l0 x6_1) == 92) = false := beq_eq_false_iff_ne.mpr c17
           have c17b1 : ((rd l0 x6_1) != 92) = true := bne_iff_ne.mpr c17
           have HC27 := Aside0.mk H
           clear H
           have p158 : 0 ≤ (x6_1 : Int) := of_decide_eq_true (by first | (with_reducible assumption) | assumption)
           have q158 : x6_1 < (l0.length : Int) := of_decide_eq_true (by first | (with_reducible assumption) | assumption)
           obtain ⟨ad158, e158, hx158_0⟩ := Kd.at_int HR0.out x6_1 p158 q158
           cases e158
           replace hx158_0 := (HB.out.cell (World.block_lt_of_cell? w _ hx158_0)).trans hx158_0
           replace p158 := eq_true p158
           replace q158 := eq_true q158
           go_upto_region 20 with (first | ((with_reducible refine gate_callee (f := 16) rfl ?_); refine goesL_ (some 33) rfl rfl Tryd.func16 (by kernel_rfl) rfl #[.slice (some ad158) l0.length c0, .int .i64 (wrap64 (x6_1 + 1))] rfl (by (try simp only [List.map_toArray, List.map_cons, List.map_nil]); first | done | rfl | (simp only [List.length_drop, List.length_take]; rfl)) ?_; (with_reducible refine (tmesisref04_at.calls _ _ l0 (wrap64 (x6_1 + 1)) t159 _ ?side1 ?side2 A12.out).mono ?_); (case side1 => repeat (first | exact (Kd.C_below HR0.out HB.out) | (with_reducible refine Kd.C_alloc ?_ _) | (with_reducible refine Kd.C_drewN ?_ _) | (with_reducible refine Kd.C_drew ?_))); (case side2 => exact HC0.out); rintro e w' ⟨rfl, ⟨nd, rfl⟩⟩; refine ⟨_, rfl, ?_⟩))
           (try simp only [Act.put, List.setIfInBounds_toArray, List.set_cons_zero, List.set_cons_succ])
           go_cut [72] (fun v72 wc => ∃ (kq : Nat) (x72_26 : Bool), v72 = .bool x72_26 ∧ Aside0 (tmesisref04_Take.j3 kq l0 x5_1 x6_1 x72_26 = some (r1, r2, r3)) ∧ Aside0 (kq ≤ kj5) ∧ Aside0 (Kd.R (Kd.int .u8) 5 wc w.heap.size (fun _ => True) u5 x5_1) ∧ Aside0 (Below w.heap.size w wc))
           case first =>
            have H := HC27.out
            clear HC27
            by_cases c28 : (rd l0 x6_1) < 32
            ·rw [if_pos c28] at H
             have c28b0 : decide ((rd l0 x6_1) < 32) = true := decide_eq_true c28
             clear c28
             (first | rw [c28b0] | (simp only [i64_w, i32_w]; rw [c28b0]) | skip)
             have H' := Aside0.mk H
             clear H
             go_wp2
             go_meet
             case rel => exact ⟨_, (true), (by first | rfl | (simp; done) | (simp [*]; done)), H', ⟨by have := HK1.out; have := HJ5.out; first | omega | exact Nat.le_refl _⟩, ⟨by (with_reducible repeat (first | apply Kd.R_alloc | apply Kd.R_drewN | apply Kd.R_drew)); exact HO_5.out⟩, ⟨by repeat (first | (with_reducible first | exact HB.out | apply below_alloc | apply pw_below_drewN | apply below_drew1) | exact HB.out)⟩⟩
            ·rw [if_neg c28] at H
             have c28b0 : decide ((rd l0 x6_1) < 32) = false := decide_eq_false c28
             clear c28
             (first | rw [c28b0] | (simp only [i64_w, i32_w]; rw [c28b0]) | skip)
             have H' := Aside0.mk H
             clear H
             go_wp2
             go_meet
             case rel => exact ⟨_, (((rd l0 x6_1) == 127)), (by first | rfl | (simp; done) | (simp [*]; done)), H', ⟨by have := HK1.out; have := HJ5.out; first | omega | exact Nat.le_refl _⟩, ⟨by (with_reducible repeat (first | apply Kd.R_alloc | apply Kd.R_drewN | apply Kd.R_drew)); exact HO_5.out⟩, ⟨by repeat (first | (with_reducible first | exact HB.out | apply below_alloc | apply pw_below_drewN | apply below_drew1) | exact HB.out)⟩⟩
           case rest =>
            clear HC27
            try clear c1
            try clear p1
            try clear q1
            try clear hx1
            try clear c2
            try clear p2
            try clear c3
            try clear c3b0
            try clear c3b1
            try clear p6
            try clear c7
            try clear c7b0
            try clear c8
            try clear c8b0
            try clear c9
            try clear c10
            try clear c10b0
            try clear c11
            try clear c11b0
            try clear c13
            try clear c13b0
            try clear c13b1
            try clear c14
            try clear c14b0
            try clear c14b1
            try clear c15
            try clear p15
            try clear q15
            try clear hx15
            try clear c16
            try clear c17
            try clear c17b0
            try clear c17b1
            try clear c19
            try clear c19b0
            try clear c19b1
            try clear c20
            try clear c20b0
            try clear c20b1
            try clear c21
            try clear c22
            try clear c22b0
            try clear c22b1
            try clear c23
            try clear c25
            try clear c28
            try clear c28b0
            try clear hx157_0
            try clear hx158_0
            try clear p1
            try clear p15
            try clear p157
            try clear p158
            try clear p2
            try clear p6
            try clear q1
            try clear q15
            try clear q157
            try clear q158
            obtain ⟨kq, x72_26, rfl, HA, HJ26, HO_5, HB⟩ := hcut
            cases kq with
            | zero => exact absurd HA.out (by simp [tmesisref04_Take.j3])
            | succ kj26 =>
             have H := HA.out
             clear HA
             simp only [tmesisref04_Take.j3] at H
             by_cases c29 : x72_26 = true
             ·subst c29
              have H1 : (some (([] : List Int), x6_1, 11)) = some (r1, r2, r3) := by rw [if_pos rfl] at H; exact H
              clear H
              have H := H1
              clear H1
              simp only [Option.some.injEq, Prod.mk.injEq] at H
              obtain ⟨rfl, rfl, rfl⟩ := H
              go_wp2
              go_ret3
              exact ⟨_, by first | rfl | (simp [errW_none, errW_some] <;> rfl) | (simp [*, errW_none, errW_some] <;> rfl), by first | exact Kd.R_nil _ _ _ _ _ | exact Kd.N_nil _ _ _ _ _ | exact Kd.V_nil _ _ _ _ _ | exact Kd.Q_nil _ _ _ _ _ | exact Kd.S_nil _ _ _ _ _, by repeat (first | (with_reducible first | exact HB.out | apply below_alloc | apply pw_below_drewN | apply below_drew1) | exact HB.out)⟩
             ·replace c29 := Bool.eq_false_iff.mpr c29
              subst c29
              have H1 : (if 0 ≤ x6_1 then (if x6_1 ≤ (l0.length : Int) then ((tmesisref01_Take.f kj26 (l0.drop (x6_1 : Int).toNat)).bind fun bt170 => (if bt170.2 = true then (if x6_1 ≤ (wrap64 (x6_1 + bt170.1)) then (if (wrap64 (x6_1 + bt170.1)) ≤ (l0.length : Int) then (if x5_1.length + ((l0.take ((wrap64 (x6_1 + bt170.1)) : Int).toNat).drop (x6_1 : Int).toNat).length < 140737488355328 then (tmesisref04_Take.l0 kj26 l0 (x5_1 ++ ((l0.take ((wrap64 (x6_1 + bt170.1)) : Int).toNat).drop (x6_1 : Int).toNat)) (wrap64 (x6_1 + bt170.1))) else (none)) else (none)) else (none)) else (some (([] : List Int), x6_1, 10)))) else (none)) else (none)) = some (r1, r2, r3) := by rw [if_neg (show ¬ (false = true) by decide)] at H; exact H
              clear H
              have H := H1
              clear H1
              by_cases c30 : 0 ≤ x6_1
              ·rw [if_pos c30] at H
               have c30b0 := eq_true c30
               have c30b1 : decide (0 ≤ x6_1) = true := decide_eq_true c30
               clear c30
               by_cases c31 : x6_1 ≤ (l0.length : Int)
               ·rw [if_pos c31] at H
                have c31b0 := eq_true c31
                have c31b1 : decide (x6_1 ≤ (l0.length : Int)) = true := decide_eq_true c31
                clear c31
                replace H := Option.bind_eq_some_iff.mp H
                obtain ⟨⟨t170, t171⟩, A320, H⟩ := H
                replace H : (if t171 = true then (if x6_1 ≤ (wrap64 (x6_1 + t170)) then (if (wrap64 (x6_1 + t170)) ≤ (l0.length : Int) then (if x5_1.length + ((l0.take ((wrap64 (x6_1 + t170)) : Int).toNat).drop (x6_1 : Int).toNat).length < 140737488355328 then (tmesisref04_Take.l0 kj26 l0 (x5_1 ++ ((l0.take ((wrap64 (x6_1 + t170)) : Int).toNat).drop (x6_1 : Int).toNat)) (wrap64 (x6_1 + t170))) else (none)) else (none)) else (none)) else (some (([] : List Int), x6_1, 10))) = some (r1, r2, r3) := H
                have A32 := Aside0.mk A320
                clear A320
                by_cases c33 : t171 = true
                ·subst c33
                 have H1 : (if x6_1 ≤ (wrap64 (x6_1 + t170)) then (if (wrap64 (x6_1 + t170)) ≤ (l0.length : Int) then (if x5_1.length + ((l0.take ((wrap64 (x6_1 + t170)) : Int).toNat).drop (x6_1 : Int).toNat).length < 140737488355328 then (tmesisref04_Take.l0 kj26 l0 (x5_1 ++ ((l0.take ((wrap64 (x6_1 + t170)) : Int).toNat).drop (x6_1 : Int).toNat)) (wrap64 (x6_1 + t170))) else (none)) else (none)) else (none)) = some (r1, r2, r3) := by rw [if_pos rfl] at H; exact H
                 clear H
                 have H := H1
                 clear H1
                 have c34b0 := eq_true (of_decide_eq_true (by first | (with_reducible assumption) | assumption) : 0 ≤ x6_1)
                 by_cases c35 : x6_1 ≤ (wrap64 (x6_1 + t170))
                 ·rw [if_pos c35] at H
                  have c35b0 := eq_true c35
                  have c35b1 : decide (x6_1 ≤ (wrap64 (x6_1 + t170))) = true := decide_eq_true c35
                  by_cases c36 : (wrap64 (x6_1 + t170)) ≤ (l0.length : Int)
                  ·rw [if_pos c36] at H
                   have c36b0 := eq_true c36
                   have c36b1 : decide ((wrap64 (x6_1 + t170)) ≤ (l0.length : Int)) = true := decide_eq_true c36
                   by_cases c37 : x5_1.length + ((l0.take ((wrap64 (x6_1 + t170)) : Int).toNat).drop (x6_1 : Int).toNat).length < 140737488355328
                   ·rw [if_pos c37] at H
                    have LMc37 := Aside0.mk c37
                    clear c37
                    obtain ⟨y173, hy173⟩ : ∃ y_ : List Int, y_ = (x5_1 ++ ((l0.take ((wrap64 (x6_1 + t170)) : Int).toNat).drop (x6_1 : Int).toNat)) := ⟨_, rfl⟩
                    replace H : (tmesisref04_Take.l0 kj26 l0 y173 (wrap64 (x6_1 + t170))) = some (r1, r2, r3) := by first | (rw [hy173]; with_reducible exact H) | (have H2_ := (Option.bind_some _ _).symm.trans H; rw [hy173]; with_reducible exact H2_) | (have H2_ := (Option.bind_some _ _).symm.trans H; with_reducible exact H2_) | with_reducible exact H | (rw [hy173]; exact H) | exact H
                    have Ny173 := Aside0.mk hy173
                    clear hy173
                    have H' := Aside0.mk H
                    clear H
                    obtain ⟨i038, hi038, _, hsz38, _⟩ := info_parts info5
                    obtain ⟨A38, hcut38, hA38, hC38⟩ := print_drop_of (P := Tryd.prog) (Value.int .u8) 0 22 5 .i64 Tryd.underlying22 hi038 hsz38 (some ad158) c0 l0 x6_1 (of_decide_eq_true (by first | (with_reducible assumption) | assumption)) (of_decide_eq_true (by first | (with_reducible assumption) | assumption)) HC0.out
                    have HR169 := Aside0.mk (Kd.C_of_reads (h1 := fun _ => rfl) (hA38 _ (Kd.reads_of_C HR0.out)))
                    have HC169 := Aside0.mk hC38
                    clear hA38 hC38 hi038 hsz38
                    go_wp2_with (first | ((with_reducible refine gate_callee (f := 17) rfl ?_); refine goesL_ (some 78) rfl rfl Tryd.func17 (by kernel_rfl) rfl #[.slice A38 (l0.drop (x6_1 : Int).toNat).length (c0 - x6_1.toNat)] rfl (by (try simp only [List.map_toArray, List.map_cons, List.map_nil]); first | done | (rw [show (l0.drop (x6_1 : Int).toNat).length = (l0.length - x6_1.toNat) from List.length_drop] <;> rfl) | rfl | (simp only [List.length_drop, List.length_take]; rfl)) ?_; (with_reducible refine (tmesisref01_Take.calls kj26 _ _ (l0.drop (x6_1 : Int).toNat) t170 true _ ?side1 ?side2 A32.out).mono ?_); (case side1 => repeat (first | exact (Kd.C_below HR169.out HB.out) | (with_reducible refine Kd.C_alloc ?_ _) | (with_reducible refine Kd.C_drewN ?_ _) | (with_reducible refine Kd.C_drew ?_))); (case side2 => exact HC169.out); rintro e w' ⟨rfl, ⟨nd, rfl⟩⟩; refine ⟨_, rfl, ?_⟩; obtain ⟨i039, hi039, _, hsz39, _⟩ := info_parts info5; obtain ⟨A39, hcut39, hA39, hC39⟩ := print_mid_of (P := Tryd.prog) (Value.int .u8) 0 22 5 .i64 .i64 Tryd.underlying22 hi039 hsz39 (some ad158) c0 l0 x6_1 (wrap64 (x6_1 + t170)) (of_decide_eq_true (by first | (with_reducible assumption) | assumption)) (by first | omega | exact of_decide_eq_true (by first | (with_reducible assumption) | assumption)) (of_decide_eq_true (by first | (with_reducible assumption) | assumption)) HC0.out; have HR172 := Aside0.mk (Kd.C_of_reads (h1 := fun _ => rfl) (hA39 _ (Kd.reads_of_C HR0.out))); have HC172 := Aside0.mk hC39; clear hA39 hC39 hi039 hsz39) | ((with_reducible refine gate_builtin (b := .append) (xs := #[.tmp 84, .tmp 90]) rfl ?_); at_builtin; refine Kd.R_append_rows (Kd.int .u8) (w0 := w) w.heap.size rfl (.tmp 84) (.tmp 90) 22 5 (.int .u8 0) 1 rfl Tryd.underlying22 info5 rfl (by decide) (by omega) u5 x5_1 ((l0.take ((wrap64 (x6_1 + t170)) : Int).toNat).drop (x6_1 : Int).toNat) _ _ _ (fun _ => True) (fun _ => False) rfl rfl ?aO ?aR (fun _ _ h => h) (fun _ h => h.elim) ?aF ?aB ?aS ?aL ?_; (case aR => first | (refine C_cast (show ((l0.take ((wrap64 (x6_1 + t170)) : Int).toNat).drop (x6_1 : Int).toNat).length = ((wrap64 (x6_1 + t170)).toNat - x6_1.toNat) from (by rw [List.length_drop, List.length_take]; have h_ : ((wrap64 (x6_1 + t170)) : Int) ≤ (l0.length : Int) := of_decide_eq_true (by first | (with_reducible assumption) | assumption); omega)) ?_; repeat (first | exact (Kd.C_below HR172.out (by repeat (first | (with_reducible first | exact HB.out | apply below_alloc | apply pw_below_drewN | apply below_drew1) | exact HB.out))) | (with_reducible refine Kd.C_alloc ?_ _) | (with_reducible refine Kd.C_drewN ?_ _) | (with_reducible refine Kd.C_drew ?_))) | (rw [← show ((l0.take ((wrap64 (x6_1 + t170)) : Int).toNat).drop (x6_1 : Int).toNat).length = ((wrap64 (x6_1 + t170)).toNat - x6_1.toNat) from (by rw [List.length_drop, List.length_take]; have h_ : ((wrap64 (x6_1 + t170)) : Int) ≤ (l0.length : Int) := of_decide_eq_true (by first | (with_reducible assumption) | assumption); omega)]; repeat (first | exact (Kd.C_below HR172.out (by repeat (first | (with_reducible first | exact HB.out | apply below_alloc | apply pw_below_drewN | apply below_drew1) | exact HB.out))) | (with_reducible refine Kd.C_alloc ?_ _) | (with_reducible refine Kd.C_drewN ?_ _) | (with_reducible refine Kd.C_drew ?_))) | (repeat (first | exact (Kd.C_below HR172.out (by repeat (first | (with_reducible first | exact HB.out | apply below_alloc | apply pw_below_drewN | apply below_drew1) | exact HB.out))) | (with_reducible refine Kd.C_alloc ?_ _) | (with_reducible refine Kd.C_drewN ?_ _) | (with_reducible refine Kd.C_drew ?_)))); (case aB => exact (by repeat (first | (with_reducible first | exact HB.out | apply below_alloc | apply pw_below_drewN | apply below_drew1) | exact HB.out))); (case aF => exact (fun _ _ => trivial)); (case aO => exact (by (with_reducible repeat (first | apply Kd.R_alloc | apply Kd.R_drewN | apply Kd.R_drew)); exact HO_5.out)); (case aS => exact (below_size (by repeat (first | (with_reducible first | exact HB.out | apply below_alloc | apply pw_below_drewN | apply below_drew1) | exact HB.out)))); (case aL => have := LMc37.out; have hlx_ := (show ((l0.take ((wrap64 (x6_1 + t170)) : Int).toNat).drop (x6_1 : Int).toNat).length = ((wrap64 (x6_1 + t170)).toNat - x6_1.toNat) from (by rw [List.length_drop, List.length_take]; have h_ : ((wrap64 (x6_1 + t170)) : Int) ≤ (l0.length : Int) := of_decide_eq_true (by first | (with_reducible assumption) | assumption); omega)); omega); intro v174 w40 ho hb hg hat; rw [← Ny173.out] at ho; have n0_ := Aside0.mk (hb); have n1_ := Aside0.mk (ho); clear HB; clear HO_5; have HB := n0_; have HO175 := n1_; clear n0_ n1_; clear ho hb hg hat))
                    go_roundg kj26
                    case measure => have := HK1.out; have := HJ5.out; have := HJ26.out; omega
                    case rel => exact ⟨(y173), (wrap64 (x6_1 + t170)), (by first | rfl | (simp; done) | (simp [*]; done)), H', ⟨by have := HK1.out; have := HJ5.out; have := HJ26.out; omega⟩, ⟨by (with_reducible repeat (first | apply Kd.R_alloc | apply Kd.R_drewN | apply Kd.R_drew)); exact HO175.out⟩, ⟨by repeat (first | (with_reducible first | exact HB.out | apply below_alloc | apply pw_below_drewN | apply below_drew1) | exact HB.out)⟩⟩
                   ·rw [if_neg c37] at H
                    exact absurd H (by simp)
                  ·rw [if_neg c36] at H
                   exact absurd H (by simp)
                 ·rw [if_neg c35] at H
                  exact absurd H (by simp)
                ·replace c33 := Bool.eq_false_iff.mpr c33
                 subst c33
                 have H1 : (some (([] : List Int), x6_1, 10)) = some (r1, r2, r3) := by rw [if_neg (show ¬ (false = true) by decide)] at H; exact H
                 clear H
                 have H := H1
                 clear H1
                 simp only [Option.some.injEq, Prod.mk.injEq] at H
                 obtain ⟨rfl, rfl, rfl⟩ := H
                 obtain ⟨i041, hi041, _, hsz41, _⟩ := info_parts info5
                 obtain ⟨A41, hcut41, hA41, hC41⟩ := print_drop_of (P := Tryd.prog) (Value.int .u8) 0 22 5 .i64 Tryd.underlying22 hi041 hsz41 (some ad158) c0 l0 x6_1 (of_decide_eq_true (by first | (with_reducible assumption) | assumption)) (of_decide_eq_true (by first | (with_reducible assumption) | assumption)) HC0.out
                 have HR169 := Aside0.mk (Kd.C_of_reads (h1 := fun _ => rfl) (hA41 _ (Kd.reads_of_C HR0.out)))
                 have HC169 := Aside0.mk hC41
                 clear hA41 hC41 hi041 hsz41
                 go_wp2_with (first | ((with_reducible refine gate_callee (f := 17) rfl ?_); refine goesL_ (some 78) rfl rfl Tryd.func17 (by kernel_rfl) rfl #[.slice A41 (l0.drop (x6_1 : Int).toNat).length (c0 - x6_1.toNat)] rfl (by (try simp only [List.map_toArray, List.map_cons, List.map_nil]); first | done | (rw [show (l0.drop (x6_1 : Int).toNat).length = (l0.length - x6_1.toNat) from List.length_drop] <;> rfl) | rfl | (simp only [List.length_drop, List.length_take]; rfl)) ?_; (with_reducible refine (tmesisref01_Take.calls kj26 _ _ (l0.drop (x6_1 : Int).toNat) t170 false _ ?side1 ?side2 A32.out).mono ?_); (case side1 => repeat (first | exact (Kd.C_below HR169.out HB.out) | (with_reducible refine Kd.C_alloc ?_ _) | (with_reducible refine Kd.C_drewN ?_ _) | (with_reducible refine Kd.C_drew ?_))); (case side2 => exact HC169.out); rintro e w' ⟨rfl, ⟨nd, rfl⟩⟩; refine ⟨_, rfl, ?_⟩))
                 go_ret3
                 exact ⟨_, by first | rfl | (simp [errW_none, errW_some] <;> rfl) | (simp [*, errW_none, errW_some] <;> rfl), by first | exact Kd.R_nil _ _ _ _ _ | exact Kd.N_nil _ _ _ _ _ | exact Kd.V_nil _ _ _ _ _ | exact Kd.Q_nil _ _ _ _ _ | exact Kd.S_nil _ _ _ _ _, by repeat (first | (with_reducible first | exact HB.out | apply below_alloc | apply pw_below_drewN | apply below_drew1) | exact HB.out)⟩
               ·rw [if_neg c31] at H
                exact absurd H (by simp)
              ·rw [if_neg c30] at H
               exact absurd H (by simp)
        ·rw [if_neg c11] at H
         exact absurd H (by simp)
       ·rw [if_neg c10] at H
        exact absurd H (by simp)
      ·replace c9 := Bool.eq_false_iff.mpr c9
       subst c9
       have H1 : (some (([] : List Int), x6_1, 12)) = some (r1, r2, r3) := by rw [if_neg (show ¬ (false = true) by decide)] at H; exact H
       clear H
       have H := H1
       clear H1
       simp only [Option.some.injEq, Prod.mk.injEq] at H
       obtain ⟨rfl, rfl, rfl⟩ := H
       go_wp2
       go_ret3
       exact ⟨_, by first | rfl | (simp [errW_none, errW_some] <;> rfl) | (simp [*, errW_none, errW_some] <;> rfl), by first | exact Kd.R_nil _ _ _ _ _ | exact Kd.N_nil _ _ _ _ _ | exact Kd.V_nil _ _ _ _ _ | exact Kd.Q_nil _ _ _ _ _ | exact Kd.S_nil _ _ _ _ _, by repeat (first | (with_reducible first | exact HB.out | apply below_alloc | apply pw_below_drewN | apply below_drew1) | exact HB.out)⟩
 ·rw [if_neg c3] at H
  have c3b0 : (t153 == 39) = false := beq_eq_false_iff_ne.mpr c3
  have c3b1 : (t153 != 39) = true := bne_iff_ne.mpr c3
  simp only [Option.some.injEq, Prod.mk.injEq] at H
  obtain ⟨rfl, rfl, rfl⟩ := H
  go_enter Tryd.func11, Tryd.ntmps11
  go_wp2_with (first | ((with_reducible refine gate_callee (f := 16) rfl ?_); refine goesL_ (some 12) rfl rfl Tryd.func16 (by kernel_rfl) rfl #[.slice A0 l0.length c0, .int .i64 0] rfl (by (try simp only [List.map_toArray, List.map_cons, List.map_nil]); first | done | rfl | (simp only [List.length_drop, List.length_take]; rfl)) ?_; (with_reducible refine (tmesisref04_at.calls _ _ l0 0 t153 _ ?side1 ?side2 A2.out).mono ?_); (case side1 => repeat (first | exact HR0.out | (with_reducible refine Kd.C_alloc ?_ _) | (with_reducible refine Kd.C_drewN ?_ _) | (with_reducible refine Kd.C_drew ?_))); (case side2 => exact HC0.out); rintro e w' ⟨rfl, ⟨nd, rfl⟩⟩; refine ⟨_, rfl, ?_⟩))
  go_ret3
  exact ⟨_, by first | rfl | (simp [errW_none, errW_some] <;> rfl) | (simp [*, errW_none, errW_some] <;> rfl), by first | exact Kd.R_nil _ _ _ _ _ | exact Kd.N_nil _ _ _ _ _ | exact Kd.V_nil _ _ _ _ _ | exact Kd.Q_nil _ _ _ _ _ | exact Kd.S_nil _ _ _ _ _, by repeat (first | (with_reducible first | exact HB.out | apply below_alloc | apply pw_below_drewN | apply below_drew1) | exact HB.out)⟩
end Go.Proofs.YtkicabbgcopjdaaDoor.P
