/- Part of the proof: what the theorem needs of this text. -/
import Derived.Test.YtflekegjmjjdmaaDoorKPx0
import Derived.Test.YtflekegjmjjdmaaDoorKPx2
namespace Go.Proofs.YtflekegjmjjdmaaDoor.P
open Go.RowKit Go.Proofs.YtflekegjmjjdmaaDoorW.PrintWords Go.Proofs.YtflekegjmjjdmaaDoorW.PrintLast Go.Proofs.YtflekegjmjjdmaaDoorW.PrintMore
attribute [local go_sem] max2_int min2_int max_two min_two max_three min_three max_four min_four   -- for this text's walks alone
set_option linter.unusedVariables false
set_option linter.unusedSimpArgs false
mutual
def quote_Take.j0 : Nat → List Int → List Int → Bool → Option (List Int × Int × Int)
 | 0, _, _, _ => none
 | k + 1, x0, x2, x18 => if x18 = true then (some (([] : List Int), 0, 2)) else (quote_Take.l0 k x0 x2 1)
def quote_Take.l0 : Nat → List Int → List Int → Int → Option (List Int × Int × Int)
 | 0, _, _, _ => none
 | k + 1, x0, x2, x5 => if x5 < (x0.length : Int) then (if (wrap64 (x5 + 1)) < (x0.length : Int) then (if 0 ≤ (wrap64 (x5 + 1)) then (quote_Take.j2 k x0 x2 x5 (rd x0 (wrap64 (x5 + 1)))) else (none)) else (quote_Take.j2 k x0 x2 x5 0)) else (some (([] : List Int), x5, 12))
def quote_Take.j2 : Nat → List Int → List Int → Int → Int → Option (List Int × Int × Int)
 | 0, _, _, _, _ => none
 | k + 1, x0, x2, x5, x6 => if 0 ≤ x5 then (if x5 < (x0.length : Int) then (if (rd x0 x5) = 39 then (quote_Take.j3 k x0 x2 x5 x6 (rd x0 x5) (x6 != 39)) else (quote_Take.j3 k x0 x2 x5 x6 (rd x0 x5) false)) else (none)) else (none)
def quote_Take.j3 : Nat → List Int → List Int → Int → Int → Int → Bool → Option (List Int × Int × Int)
 | 0, _, _, _, _, _, _ => none
 | k + 1, x0, x2, x5, x6, x7, x37 => if x37 = true then (some (x2, wrap64 (x5 + 1), 0)) else (if x7 = 39 then (quote_Take.j4 k x0 x2 x5 x6 x7 (x7 == 39)) else (if x7 = 92 then (if x6 = 92 then (quote_Take.j4 k x0 x2 x5 x6 x7 true) else (quote_Take.j4 k x0 x2 x5 x6 x7 (x6 == 39))) else (quote_Take.j4 k x0 x2 x5 x6 x7 false)))
def quote_Take.j4 : Nat → List Int → List Int → Int → Int → Int → Bool → Option (List Int × Int × Int)
 | 0, _, _, _, _, _, _ => none
 | k + 1, x0, x2, x5, x6, x7, x47 => if x47 = true then (if x2.length < 140737488355328 then (quote_Take.l0 k x0 (x2 ++ [x6]) (wrap64 (x5 + 2))) else (none)) else (if x7 = 92 then (quote_Take.j5 k x0 x2 x5 x7 (x6 == 110)) else (quote_Take.j5 k x0 x2 x5 x7 false))
def quote_Take.j5 : Nat → List Int → List Int → Int → Int → Bool → Option (List Int × Int × Int)
 | 0, _, _, _, _, _ => none
 | k + 1, x0, x2, x5, x7, x66 => if x66 = true then (if x2.length < 140737488355328 then (quote_Take.l0 k x0 (x2 ++ [10]) (wrap64 (x5 + 2))) else (none)) else (if x7 = 92 then (some (([] : List Int), x5, 13)) else (if x7 = 10 then (some (([] : List Int), x5, 12)) else (if x7 < 32 then (quote_Take.j6 k x0 x2 x5 true) else (quote_Take.j6 k x0 x2 x5 (x7 == 127)))))
def quote_Take.j6 : Nat → List Int → List Int → Int → Bool → Option (List Int × Int × Int)
 | 0, _, _, _, _ => none
 | k + 1, x0, x2, x5, x85 => if x85 = true then (some (([] : List Int), x5, 11)) else (if 0 ≤ x5 then (if x5 ≤ (x0.length : Int) then ((utf_Take.f k (x0.drop (x5 : Int).toNat)).bind fun bt139 => (if bt139.2 = true then (if x5 ≤ (wrap64 (x5 + bt139.1)) then (if (wrap64 (x5 + bt139.1)) ≤ (x0.length : Int) then (if x2.length + ((x0.take ((wrap64 (x5 + bt139.1)) : Int).toNat).drop (x5 : Int).toNat).length < 140737488355328 then (quote_Take.l0 k x0 (x2 ++ ((x0.take ((wrap64 (x5 + bt139.1)) : Int).toNat).drop (x5 : Int).toNat)) (wrap64 (x5 + bt139.1))) else (none)) else (none)) else (none)) else (some (([] : List Int), x5, 10)))) else (none)) else (none))
end
def quote_Take.f (k : Nat) (l0 : List Int) : Option (List Int × Int × Int) := if (l0.length : Int) = 0 then (quote_Take.j0 k l0 ([] : List Int) true) else (if 0 < (l0.length : Int) then (quote_Take.j0 k l0 ([] : List Int) ((rd l0 0) != 39)) else (none))
theorem quote_Take.mono_l : ∀ k, (∀ y0 y1 y2, LeO (quote_Take.j0 k y0 y1 y2) (quote_Take.j0 (k + 1) y0 y1 y2)) ∧ (∀ y0 y1 y2, LeO (quote_Take.l0 k y0 y1 y2) (quote_Take.l0 (k + 1) y0 y1 y2)) ∧ (∀ y0 y1 y2 y3, LeO (quote_Take.j2 k y0 y1 y2 y3) (quote_Take.j2 (k + 1) y0 y1 y2 y3)) ∧ (∀ y0 y1 y2 y3 y4 y5, LeO (quote_Take.j3 k y0 y1 y2 y3 y4 y5) (quote_Take.j3 (k + 1) y0 y1 y2 y3 y4 y5)) ∧ (∀ y0 y1 y2 y3 y4 y5, LeO (quote_Take.j4 k y0 y1 y2 y3 y4 y5) (quote_Take.j4 (k + 1) y0 y1 y2 y3 y4 y5)) ∧ (∀ y0 y1 y2 y3 y4, LeO (quote_Take.j5 k y0 y1 y2 y3 y4) (quote_Take.j5 (k + 1) y0 y1 y2 y3 y4)) ∧ (∀ y0 y1 y2 y3, LeO (quote_Take.j6 k y0 y1 y2 y3) (quote_Take.j6 (k + 1) y0 y1 y2 y3))
 | 0 => ⟨fun _ _ _ r h => by simp [quote_Take.j0] at h, fun _ _ _ r h => by simp [quote_Take.l0] at h, fun _ _ _ _ r h => by simp [quote_Take.j2] at h, fun _ _ _ _ _ _ r h => by simp [quote_Take.j3] at h, fun _ _ _ _ _ _ r h => by simp [quote_Take.j4] at h, fun _ _ _ _ _ r h => by simp [quote_Take.j5] at h, fun _ _ _ _ r h => by simp [quote_Take.j6] at h⟩
 | k + 1 => by
  obtain ⟨ih0, ih1, ih2, ih3, ih4, ih5, ih6⟩ := quote_Take.mono_l k
  refine ⟨?_, ?_, ?_, ?_, ?_, ?_, ?_⟩
  ·intro y0 y1 y2
   unfold quote_Take.j0
   repeat' with_reducible first | exact ih0 _ _ _ | exact ih1 _ _ _ | exact ih2 _ _ _ _ | exact ih3 _ _ _ _ _ _ | exact ih4 _ _ _ _ _ _ | exact ih5 _ _ _ _ _ | exact ih6 _ _ _ _ | exact utf_Take.mono _ _ | exact LeO.refl _ | exact LeO.none _ | refine LeO.ite ?_ ?_ | refine LeO.bind ?_ (fun _ => ?_)
  ·intro y0 y1 y2
   unfold quote_Take.l0
   repeat' with_reducible first | exact ih0 _ _ _ | exact ih1 _ _ _ | exact ih2 _ _ _ _ | exact ih3 _ _ _ _ _ _ | exact ih4 _ _ _ _ _ _ | exact ih5 _ _ _ _ _ | exact ih6 _ _ _ _ | exact utf_Take.mono _ _ | exact LeO.refl _ | exact LeO.none _ | refine LeO.ite ?_ ?_ | refine LeO.bind ?_ (fun _ => ?_)
  ·intro y0 y1 y2 y3
   unfold quote_Take.j2
   repeat' with_reducible first | exact ih0 _ _ _ | exact ih1 _ _ _ | exact ih2 _ _ _ _ | exact ih3 _ _ _ _ _ _ | exact ih4 _ _ _ _ _ _ | exact ih5 _ _ _ _ _ | exact ih6 _ _ _ _ | exact utf_Take.mono _ _ | exact LeO.refl _ | exact LeO.none _ | refine LeO.ite ?_ ?_ | refine LeO.bind ?_ (fun _ => ?_)
  ·intro y0 y1 y2 y3 y4 y5
   unfold quote_Take.j3
   repeat' with_reducible first | exact ih0 _ _ _ | exact ih1 _ _ _ | exact ih2 _ _ _ _ | exact ih3 _ _ _ _ _ _ | exact ih4 _ _ _ _ _ _ | exact ih5 _ _ _ _ _ | exact ih6 _ _ _ _ | exact utf_Take.mono _ _ | exact LeO.refl _ | exact LeO.none _ | refine LeO.ite ?_ ?_ | refine LeO.bind ?_ (fun _ => ?_)
  ·intro y0 y1 y2 y3 y4 y5
   unfold quote_Take.j4
   repeat' with_reducible first | exact ih0 _ _ _ | exact ih1 _ _ _ | exact ih2 _ _ _ _ | exact ih3 _ _ _ _ _ _ | exact ih4 _ _ _ _ _ _ | exact ih5 _ _ _ _ _ | exact ih6 _ _ _ _ | exact utf_Take.mono _ _ | exact LeO.refl _ | exact LeO.none _ | refine LeO.ite ?_ ?_ | refine LeO.bind ?_ (fun _ => ?_)
  ·intro y0 y1 y2 y3 y4
   unfold quote_Take.j5
   repeat' with_reducible first | exact ih0 _ _ _ | exact ih1 _ _ _ | exact ih2 _ _ _ _ | exact ih3 _ _ _ _ _ _ | exact ih4 _ _ _ _ _ _ | exact ih5 _ _ _ _ _ | exact ih6 _ _ _ _ | exact utf_Take.mono _ _ | exact LeO.refl _ | exact LeO.none _ | refine LeO.ite ?_ ?_ | refine LeO.bind ?_ (fun _ => ?_)
  ·intro y0 y1 y2 y3
   unfold quote_Take.j6
   repeat' with_reducible first | exact ih0 _ _ _ | exact ih1 _ _ _ | exact ih2 _ _ _ _ | exact ih3 _ _ _ _ _ _ | exact ih4 _ _ _ _ _ _ | exact ih5 _ _ _ _ _ | exact ih6 _ _ _ _ | exact utf_Take.mono _ _ | exact LeO.refl _ | exact LeO.none _ | refine LeO.ite ?_ ?_ | refine LeO.bind ?_ (fun _ => ?_)
theorem quote_Take.mono : ∀ a0 k, LeO (quote_Take.f k a0) (quote_Take.f (k + 1) a0) := by
 intro a0 k
 obtain ⟨ih0, ih1, ih2, ih3, ih4, ih5, ih6⟩ := quote_Take.mono_l k
 unfold quote_Take.f
 repeat' with_reducible first | exact ih0 _ _ _ | exact ih1 _ _ _ | exact ih2 _ _ _ _ | exact ih3 _ _ _ _ _ _ | exact ih4 _ _ _ _ _ _ | exact ih5 _ _ _ _ _ | exact ih6 _ _ _ _ | exact utf_Take.mono _ _ | exact LeO.refl _ | exact LeO.none _ | refine LeO.ite ?_ ?_ | refine LeO.bind ?_ (fun _ => ?_)
set_option maxHeartbeats 8000000 in
set_option maxRecDepth 100000 in
theorem quote_Take.calls (k : Nat) (A0 : Option Addr) (c0 : Nat) (l0 : List Int) (r1 : List Int) (r2 : Int) (r3 : Int) (w : World) (hr0 : Kd.C (Kd.int .u8) w A0 l0.length l0) (hc0 : l0.length ≤ c0) (h : quote_Take.f k l0 = some (r1, r2, r3)) :
  Calls Tryd.prog 44 #[.slice A0 l0.length c0] w fun e w' => ∃ v0_ : Value, e = .returned (.tuple #[v0_, .int .i64 r2, .int .i64 r3]) ∧ Kd.R (Kd.int .u8) 5 w' w.heap.size (fun _ => True) v0_ r1 ∧ Below w.heap.size w w' := by
 have HR0 := Aside0.mk hr0
 have HC0 := Aside0.mk hc0
 clear hr0 hc0
 have HB := Aside0.mk (Below.refl w.heap.size w)
 have H : (if (l0.length : Int) = 0 then (quote_Take.j0 k l0 ([] : List Int) true) else (if 0 < (l0.length : Int) then (quote_Take.j0 k l0 ([] : List Int) ((rd l0 0) != 39)) else (none))) = some (r1, r2, r3) := h
 clear h
 have HC2 := Aside0.mk H
 clear H
 go_enter Tryd.func44, Tryd.ntmps44
 (first | go_step3 | (go_wp2; go_step3))
 go_upto_region 1 with (fail)
 go_cut [18] (fun v18 wc => ∃ (kq : Nat) (x18_1 : Bool), v18 = .bool x18_1 ∧ Aside0 (quote_Take.j0 kq l0 ([] : List Int) x18_1 = some (r1, r2, r3)) ∧ Aside0 (kq ≤ k) ∧ Aside0 (Kd.R (Kd.int .u8) 5 wc w.heap.size (fun _ => True) (.slice none 0 0) ([] : List Int)) ∧ Aside0 (Below w.heap.size w wc))
 case first =>
  have H := HC2.out
  clear HC2
  by_cases c3 : (l0.length : Int) = 0
  ·rw [if_pos c3] at H
   obtain ⟨c3b0, c3b1⟩ := eqB c3
   clear c3
   (first | rw [c3b0] | (simp only [i64_w, i32_w]; rw [c3b0]) | skip)
   have H' := Aside0.mk H
   clear H
   go_wp2
   (try (go_step3; (try (rename_i K_ hK_; refine hK_ _ _ ?_)); (try go_wp2); (try (go_step3; (try (rename_i K_ hK_; refine hK_ _ _ ?_)); (try go_wp2)))))
   go_meet
   case rel => exact ⟨_, (true), sR, H', ⟨by first | omega | exact Nat.le_refl _⟩, ⟨by first | exact Kd.R_nil _ _ _ _ _ | exact Kd.N_nil _ _ _ _ _ | exact Kd.V_nil _ _ _ _ _ | exact Kd.Q_nil _ _ _ _ _ | exact Kd.S_nil _ _ _ _ _⟩, ⟨bAt HB.out⟩⟩
  ·rw [if_neg c3] at H
   obtain ⟨c3b0, c3b1⟩ := neB c3
   have c3b2 : ¬ (l0 = []) := fun h_ => c3 (by rw [h_]; rfl)
   (first | rw [c3b0] | (simp only [i64_w, i32_w]; rw [c3b0]) | skip)
   by_cases c4 : 0 < (l0.length : Int)
   ·rw [if_pos c4] at H
    have c4b0 := decide_eq_true c4
    have c4b1 : decide (0 < l0.length) = true := decide_eq_true (by omega)
    clear c4
    have H' := Aside0.mk H
    clear H
    have p129 : 0 ≤ (0 : Int) := (by omega)
    have q129 : 0 < (l0.length : Int) := dt
    obtain ⟨ad129, e129, hx129_0⟩ := Kd.at_int HR0.out 0 p129 q129
    cases e129
    have qi129 : (0 < l0.length) = True := eq_true (by omega)
    (try rw [show ((0 : Int)).toNat = 0 from rfl] at hx129_0)
    (try rw [Addr.add_zero'] at hx129_0)
    replace hx129_0 := pw_cell_below HB.out hx129_0
    replace p129 := eq_true p129
    replace q129 := eq_true q129
    go_wp2
    (try (go_step3; (try (rename_i K_ hK_; refine hK_ _ _ ?_)); (try go_wp2); (try (go_step3; (try (rename_i K_ hK_; refine hK_ _ _ ?_)); (try go_wp2)))))
    go_meet
    case rel => exact ⟨_, (((rd l0 0) != 39)), sR, H', ⟨by first | omega | exact Nat.le_refl _⟩, ⟨by first | exact Kd.R_nil _ _ _ _ _ | exact Kd.N_nil _ _ _ _ _ | exact Kd.V_nil _ _ _ _ _ | exact Kd.Q_nil _ _ _ _ _ | exact Kd.S_nil _ _ _ _ _⟩, ⟨bAt HB.out⟩⟩
   ·exact nB H c4
 case rest =>
  clear HC2
  try clear p1
  try clear q1
  try clear hx1
  try clear qi1
  try clear p2
  try clear c3
  try clear c3b0 c3b1
  try clear c3b2
  try clear c4
  try clear c4b0 c4b1
  try clear hx129_0
  try clear p129
  try clear q129
  obtain ⟨kq, x18_1, rfl, HA, HJ1, HO_2, HB⟩ := hcut
  cases kq with
  | zero => exact absurd HA.out (by simp [quote_Take.j0])
  | succ kj1 =>
   have H := HA.out
   clear HA
   simp only [quote_Take.j0] at H
   by_cases c5 : x18_1 = true
   ·subst c5
    replace H := tP H
    simp only [Option.some.injEq, Prod.mk.injEq] at H
    obtain ⟨rfl, rfl, rfl⟩ := H
    go_wp2
    (try (go_step3; (try (rename_i K_ hK_; refine hK_ _ _ ?_)); (try go_wp2); (try (go_step3; (try (rename_i K_ hK_; refine hK_ _ _ ?_)); (try go_wp2)))))
    (try simp only [Exit.noGoto_ret])
    go_ret3
    exact ⟨_, eR, by first | exact Kd.R_nil _ _ _ _ _ | exact Kd.N_nil _ _ _ _ _ | exact Kd.V_nil _ _ _ _ _ | exact Kd.Q_nil _ _ _ _ _ | exact Kd.S_nil _ _ _ _ _, bAt HB.out⟩
   ·replace c5 := Bool.eq_false_iff.mpr c5
    subst c5
    replace H := fP H
    have H' := Aside0.mk H
    clear H
    go_wp2
    (try (go_step3; (try (rename_i K_ hK_; refine hK_ _ _ ?_)); (try go_wp2); (try (go_step3; (try (rename_i K_ hK_; refine hK_ _ _ ?_)); (try go_wp2)))))
    go_loopg [2, 5] kj1 (fun kq v2 v5 w' => ∃ (x2_2 : List Int) (x5_2 : Int), v5 = .int .i64 x5_2 ∧ Aside0 (quote_Take.l0 kq l0 x2_2 x5_2 = some (r1, r2, r3)) ∧ Aside0 (kq ≤ kj1) ∧ Aside0 (Kd.R (Kd.int .u8) 5 w' w.heap.size (fun _ => True) v2 x2_2) ∧ Aside0 (Below w.heap.size w w'))
    case atStart => exact ⟨(([] : List Int)), (1), sR, H', ⟨Nat.le_refl _⟩, ⟨RAt HO_2.out⟩, ⟨bAt HB.out⟩⟩
    case round =>
     clear H'
     try clear p1
     try clear q1
     try clear hx1
     try clear qi1
     try clear p2
     try clear c3
     try clear c3b0 c3b1
     try clear c3b2
     try clear c4
     try clear c4b0 c4b1
     try clear c5
     try clear hx129_0
     try clear p1
     try clear p129
     try clear p2
     try clear q1
     try clear q129
     obtain ⟨x2_2, x5_2, rfl, HA, HK2, HO_2, HB⟩ := hrel
     cases gk with
     | zero => exact absurd HA.out (by simp [quote_Take.l0])
     | succ k2 =>
      have H := HA.out
      clear HA
      simp only [quote_Take.l0] at H
      by_cases c6 : x5_2 < (l0.length : Int)
      ·rw [if_pos c6] at H
       have c6b0 := decide_eq_true c6
       clear c6
       have HC7 := Aside0.mk H
       clear H
       go_upto_if 27 with (fail)
       go_cut [6] (fun v6 wc => ∃ (kq : Nat) (x6_6 : Int), v6 = .int .u8 x6_6 ∧ Aside0 (quote_Take.j2 kq l0 x2_2 x5_2 x6_6 = some (r1, r2, r3)) ∧ Aside0 (kq ≤ k2) ∧ Aside0 (Kd.R (Kd.int .u8) 5 wc w.heap.size (fun _ => True) u2 x2_2) ∧ Aside0 (Below w.heap.size w wc))
       case first =>
        have H := HC7.out
        clear HC7
        by_cases c8 : (wrap64 (x5_2 + 1)) < (l0.length : Int)
        ·rw [if_pos c8] at H
         have c8b0 := decide_eq_true c8
         clear c8
         (first | rw [c8b0] | (simp only [i64_w, i32_w]; rw [c8b0]) | skip)
         obtain ⟨ji9, hji9⟩ : ∃ j_ : Int, (wrap64 (x5_2 + 1)) = j_ := ⟨_, rfl⟩
         replace H : (if 0 ≤ (ji9) then (quote_Take.j2 k2 l0 x2_2 x5_2 (rd l0 (ji9))) else (none)) = some (r1, r2, r3) := by first | (rw [hji9] at H; exact H) | (simp only [hji9] at H ⊢; exact H)
         (try rw [hji9] at c8b0)
         have hji9w : (IntKind.i64.wrap (x5_2 + 1)) = ji9 := (i64_w _).trans hji9
         by_cases c10 : 0 ≤ (ji9)
         ·rw [if_pos c10] at H
          have c10b0 := decide_eq_true c10
          clear c10
          have H' := Aside0.mk H
          clear H
          have p130 : 0 ≤ ((ji9) : Int) := dt
          have q130 : (ji9) < (l0.length : Int) := dt
          obtain ⟨ad130, e130, hx130_0⟩ := Kd.at_int HR0.out (ji9) p130 q130
          cases e130
          replace hx130_0 := pw_cell_below HB.out hx130_0
          replace p130 := eq_true p130
          replace q130 := eq_true q130
          go_wp2
          (try (go_step3; (try (rename_i K_ hK_; refine hK_ _ _ ?_)); (try go_wp2); (try (go_step3; (try (rename_i K_ hK_; refine hK_ _ _ ?_)); (try go_wp2)))))
          go_meet
          case rel => exact ⟨_, (rd l0 (ji9)), (by first | rfl | (simp; done) | (simp only [← hji9] <;> (first | rfl | simp)) | (simp [*]; done)), H', ⟨by have := HJ1.out; have := HK2.out; first | omega | exact Nat.le_refl _⟩, ⟨RAt HO_2.out⟩, ⟨bAt HB.out⟩⟩
         ·exact nB H c10
        ·rw [if_neg c8] at H
         have c8b0 := decide_eq_false c8
         clear c8
         (first | rw [c8b0] | (simp only [i64_w, i32_w]; rw [c8b0]) | skip)
         have H' := Aside0.mk H
         clear H
         go_wp2
         (try (go_step3; (try (rename_i K_ hK_; refine hK_ _ _ ?_)); (try go_wp2); (try (go_step3; (try (rename_i K_ hK_; refine hK_ _ _ ?_)); (try go_wp2)))))
         go_meet
         case rel => exact ⟨_, (0), sR, H', ⟨by have := HJ1.out; have := HK2.out; first | omega | exact Nat.le_refl _⟩, ⟨RAt HO_2.out⟩, ⟨bAt HB.out⟩⟩
       case rest =>
        clear HC7
        try clear c1
        try clear p1
        try clear q1
        try clear hx1
        try clear qi1
        try clear p2
        try clear c3
        try clear c3b0 c3b1
        try clear c3b2
        try clear c4
        try clear c4b0 c4b1
        try clear c5
        try clear c6
        try clear c6b0
        try clear p6
        try clear c8
        try clear c8b0
        try clear c10
        try clear c10b0
        try clear hx129_0
        try clear hx130_0
        try clear p1
        try clear p129
        try clear p130
        try clear p2
        try clear q1
        try clear q129
        try clear q130
        obtain ⟨kq, x6_6, rfl, HA, HJ6, HO_2, HB⟩ := hcut
        cases kq with
        | zero => exact absurd HA.out (by simp [quote_Take.j2])
        | succ kj6 =>
         have H := HA.out
         clear HA
         simp only [quote_Take.j2] at H
         by_cases c11 : 0 ≤ x5_2
         ·rw [if_pos c11] at H
          have c11b0 := decide_eq_true c11
          clear c11
          by_cases c12 : x5_2 < (l0.length : Int)
          ·rw [if_pos c12] at H
           have c12b0 := decide_eq_true c12
           clear c12
           have HC13 := Aside0.mk H
           clear H
           have p131 : 0 ≤ (x5_2 : Int) := dt
           have q131 : x5_2 < (l0.length : Int) := dt
           obtain ⟨ad131, e131, hx131_0⟩ := Kd.at_int HR0.out x5_2 p131 q131
           cases e131
           replace hx131_0 := pw_cell_below HB.out hx131_0
           replace p131 := eq_true p131
           replace q131 := eq_true q131
           go_upto_region 9 with (fail)
           go_cut [37] (fun v37 wc => ∃ (kq : Nat) (x37_12 : Bool), v37 = .bool x37_12 ∧ Aside0 (quote_Take.j3 kq l0 x2_2 x5_2 x6_6 (rd l0 x5_2) x37_12 = some (r1, r2, r3)) ∧ Aside0 (kq ≤ kj6) ∧ Aside0 (Kd.R (Kd.int .u8) 5 wc w.heap.size (fun _ => True) u2 x2_2) ∧ Aside0 (Below w.heap.size w wc))
           case first =>
            have H := HC13.out
            clear HC13
            by_cases c14 : (rd l0 x5_2) = 39
            ·rw [if_pos c14] at H
             obtain ⟨c14b0, c14b1⟩ := eqB c14
             clear c14
             (first | rw [c14b0] | (simp only [i64_w, i32_w]; rw [c14b0]) | skip)
             have H' := Aside0.mk H
             clear H
             go_wp2
             (try (go_step3; (try (rename_i K_ hK_; refine hK_ _ _ ?_)); (try go_wp2); (try (go_step3; (try (rename_i K_ hK_; refine hK_ _ _ ?_)); (try go_wp2)))))
             go_meet
             case rel => exact ⟨_, ((x6_6 != 39)), sR, H', ⟨by have := HJ1.out; have := HK2.out; have := HJ6.out; first | omega | exact Nat.le_refl _⟩, ⟨RAt HO_2.out⟩, ⟨bAt HB.out⟩⟩
            ·rw [if_neg c14] at H
             obtain ⟨c14b0, c14b1⟩ := neB c14
             (first | rw [c14b0] | (simp only [i64_w, i32_w]; rw [c14b0]) | skip)
             have H' := Aside0.mk H
             clear H
             go_wp2
             (try (go_step3; (try (rename_i K_ hK_; refine hK_ _ _ ?_)); (try go_wp2); (try (go_step3; (try (rename_i K_ hK_; refine hK_ _ _ ?_)); (try go_wp2)))))
             go_meet
             case rel => exact ⟨_, (false), sR, H', ⟨by have := HJ1.out; have := HK2.out; have := HJ6.out; first | omega | exact Nat.le_refl _⟩, ⟨RAt HO_2.out⟩, ⟨bAt HB.out⟩⟩
           case rest =>
            clear HC13
            try clear c1
            try clear p1
            try clear q1
            try clear hx1
            try clear qi1
            try clear p2
            try clear c3
            try clear c3b0 c3b1
            try clear c3b2
            try clear c4
            try clear c4b0 c4b1
            try clear c5
            try clear c6
            try clear c6b0
            try clear p6
            try clear c8
            try clear c8b0
            try clear c10
            try clear c10b0
            try clear c11
            try clear c11b0
            try clear c12
            try clear c12b0
            try clear p12
            try clear q12
            try clear hx12
            try clear qi12
            try clear p13
            try clear q13
            try clear hx13
            try clear c14
            try clear c14b0 c14b1
            try clear hx129_0
            try clear hx130_0
            try clear hx131_0
            try clear p1
            try clear p129
            try clear p130
            try clear p131
            try clear p2
            try clear p6
            try clear q1
            try clear q129
            try clear q130
            try clear q131
            obtain ⟨kq, x37_12, rfl, HA, HJ12, HO_2, HB⟩ := hcut
            cases kq with
            | zero => exact absurd HA.out (by simp [quote_Take.j3])
            | succ kj12 =>
             have H := HA.out
             clear HA
             simp only [quote_Take.j3] at H
             by_cases c15 : x37_12 = true
             ·subst c15
              replace H := tP H
              simp only [Option.some.injEq, Prod.mk.injEq] at H
              obtain ⟨rfl, rfl, rfl⟩ := H
              go_wp2
              (try (go_step3; (try (rename_i K_ hK_; refine hK_ _ _ ?_)); (try go_wp2); (try (go_step3; (try (rename_i K_ hK_; refine hK_ _ _ ?_)); (try go_wp2)))))
              (try simp only [Exit.noGoto_ret])
              go_ret3
              exact ⟨_, eR, RAt HO_2.out, bAt HB.out⟩
             ·replace c15 := Bool.eq_false_iff.mpr c15
              subst c15
              replace H := fP H
              have HC16 := Aside0.mk H
              clear H
              go_upto_if 47 with (fail)
              go_cut [47] (fun v47 wc => ∃ (kq : Nat) (x47_15 : Bool), v47 = .bool x47_15 ∧ Aside0 (quote_Take.j4 kq l0 x2_2 x5_2 x6_6 (rd l0 x5_2) x47_15 = some (r1, r2, r3)) ∧ Aside0 (kq ≤ kj12) ∧ Aside0 (Kd.R (Kd.int .u8) 5 wc w.heap.size (fun _ => True) u2 x2_2) ∧ Aside0 (Below w.heap.size w wc))
              case first =>
               have H := HC16.out
               clear HC16
               by_cases c17 : (rd l0 x5_2) = 39
               ·rw [if_pos c17] at H
                obtain ⟨c17b0, c17b1⟩ := eqB c17
                clear c17
                (first | rw [c17b0] | (simp only [i64_w, i32_w]; rw [c17b0]) | skip)
                have H' := Aside0.mk H
                clear H
                go_wp2
                (try (go_step3; (try (rename_i K_ hK_; refine hK_ _ _ ?_)); (try go_wp2); (try (go_step3; (try (rename_i K_ hK_; refine hK_ _ _ ?_)); (try go_wp2)))))
                go_meet
                case rel => exact ⟨_, (((rd l0 x5_2) == 39)), sR, H', ⟨by have := HJ1.out; have := HK2.out; have := HJ6.out; have := HJ12.out; first | omega | exact Nat.le_refl _⟩, ⟨RAt HO_2.out⟩, ⟨bAt HB.out⟩⟩
               ·rw [if_neg c17] at H
                obtain ⟨c17b0, c17b1⟩ := neB c17
                (first | rw [c17b0] | (simp only [i64_w, i32_w]; rw [c17b0]) | skip)
                by_cases c18 : (rd l0 x5_2) = 92
                ·rw [if_pos c18] at H
                 obtain ⟨c18b0, c18b1⟩ := eqB c18
                 clear c18
                 by_cases c19 : x6_6 = 92
                 ·rw [if_pos c19] at H
                  obtain ⟨c19b0, c19b1⟩ := eqB c19
                  clear c19
                  have H' := Aside0.mk H
                  clear H
                  go_wp2
                  (try (go_step3; (try (rename_i K_ hK_; refine hK_ _ _ ?_)); (try go_wp2); (try (go_step3; (try (rename_i K_ hK_; refine hK_ _ _ ?_)); (try go_wp2)))))
                  go_meet
                  case rel => exact ⟨_, (true), sR, H', ⟨by have := HJ1.out; have := HK2.out; have := HJ6.out; have := HJ12.out; first | omega | exact Nat.le_refl _⟩, ⟨RAt HO_2.out⟩, ⟨bAt HB.out⟩⟩
                 ·rw [if_neg c19] at H
                  obtain ⟨c19b0, c19b1⟩ := neB c19
                  have H' := Aside0.mk H
                  clear H
                  go_wp2
                  (try (go_step3; (try (rename_i K_ hK_; refine hK_ _ _ ?_)); (try go_wp2); (try (go_step3; (try (rename_i K_ hK_; refine hK_ _ _ ?_)); (try go_wp2)))))
                  go_meet
                  case rel => exact ⟨_, ((x6_6 == 39)), sR, H', ⟨by have := HJ1.out; have := HK2.out; have := HJ6.out; have := HJ12.out; first | omega | exact Nat.le_refl _⟩, ⟨RAt HO_2.out⟩, ⟨bAt HB.out⟩⟩
                ·rw [if_neg c18] at H
                 obtain ⟨c18b0, c18b1⟩ := neB c18
                 have H' := Aside0.mk H
                 clear H
                 go_wp2
                 (try (go_step3; (try (rename_i K_ hK_; refine hK_ _ _ ?_)); (try go_wp2); (try (go_step3; (try (rename_i K_ hK_; refine hK_ _ _ ?_)); (try go_wp2)))))
                 go_meet
                 case rel => exact ⟨_, (false), sR, H', ⟨by have := HJ1.out; have := HK2.out; have := HJ6.out; have := HJ12.out; first | omega | exact Nat.le_refl _⟩, ⟨RAt HO_2.out⟩, ⟨bAt HB.out⟩⟩
              case rest =>
               clear HC16
               try clear c1
               try clear p1
               try clear q1
               try clear hx1
               try clear qi1
               try clear p2
               try clear c3
               try clear c3b0 c3b1
               try clear c3b2
               try clear c4
               try clear c4b0 c4b1
               try clear c5
               try clear c6
               try clear c6b0
               try clear p6
               try clear c8
               try clear c8b0
               try clear c10
               try clear c10b0
               try clear c11
               try clear c11b0
               try clear c12
               try clear c12b0
               try clear p12
               try clear q12
               try clear hx12
               try clear qi12
               try clear p13
               try clear q13
               try clear hx13
               try clear c14
               try clear c14b0 c14b1
               try clear c15
               try clear c17
               try clear c17b0 c17b1
               try clear c18
               try clear c18b0 c18b1
               try clear c19
               try clear c19b0 c19b1
               try clear hx129_0
               try clear hx130_0
               try clear hx131_0
               try clear p1
               try clear p12
               try clear p129
               try clear p13
               try clear p130
               try clear p131
               try clear p2
               try clear p6
               try clear q1
               try clear q12
               try clear q129
               try clear q13
               try clear q130
               try clear q131
               obtain ⟨kq, x47_15, rfl, HA, HJ15, HO_2, HB⟩ := hcut
               cases kq with
               | zero => exact absurd HA.out (by simp [quote_Take.j4])
               | succ kj15 =>
                have H := HA.out
                clear HA
                simp only [quote_Take.j4] at H
                by_cases c20 : x47_15 = true
                ·subst c20
                 replace H := tP H
                 by_cases c21 : x2_2.length < 140737488355328
                 ·rw [if_pos c21] at H
                  have LMc21 := Aside0.mk c21
                  clear c21
                  obtain ⟨y132, hy132⟩ : ∃ y_ : List Int, y_ = (x2_2 ++ [x6_6]) := ⟨_, rfl⟩
                  replace H : (quote_Take.l0 kj15 l0 y132 (wrap64 (x5_2 + 2))) = some (r1, r2, r3) := by first | (rw [hy132]; with_reducible exact H) | (have H2_ := (Option.bind_some _ _).symm.trans H; rw [hy132]; with_reducible exact H2_) | (have H2_ := (Option.bind_some _ _).symm.trans H; with_reducible exact H2_) | with_reducible exact H | (rw [hy132]; exact H) | exact H
                  have Ny132 := Aside0.mk hy132
                  clear hy132
                  have H' := Aside0.mk H
                  clear H
                  go_wp2_with (first | ((with_reducible refine gate_builtin (b := .append) (xs := #[.tmp 60, .tmp 62]) rfl ?_); at_builtin; refine Kd.R_append (Kd.int .u8) (w0 := w) w.heap.size rfl (.tmp 60) (.tmp 62) 22 5 (.int .u8 0) 1 rfl Tryd.underlying22 info5 rfl (by decide) (by omega) u2 x2_2 x6_6 [.int .u8 x6_6] (fun _ => True) (fun _ => False) rfl rfl ?aP (fun _ hk => hk.elim) ?aF ?aO ?aB ?aS ?aL ?_; (case aP => exact rfl); (case aB => exact (bAt HB.out)); (case aF => exact (fun _ _ => trivial)); (case aO => exact (RAt HO_2.out)); (case aS => exact (below_size (bAt HB.out))); (case aL => have := LMc21.out; omega); intro v133 w22 ho hb hg hat; rw [← Ny132.out] at ho; replace HB := Aside0.mk (hb); have HO134 := Aside0.mk (ho); clear HO_2; clear ho hb hg hat))
                  go_roundg kj15
                  case measure => have := HJ1.out; have := HK2.out; have := HJ6.out; have := HJ12.out; have := HJ15.out; omega
                  case rel => exact ⟨(y132), (wrap64 (x5_2 + 2)), sR, H', ⟨by have := HJ1.out; have := HK2.out; have := HJ6.out; have := HJ12.out; have := HJ15.out; omega⟩, ⟨RAt HO134.out⟩, ⟨bAt HB.out⟩⟩
                 ·exact nB H c21
                ·replace c20 := Bool.eq_false_iff.mpr c20
                 subst c20
                 replace H := fP H
                 have HC23 := Aside0.mk H
                 clear H
                 go_upto_region 15 with (fail)
                 go_cut [66] (fun v66 wc => ∃ (kq : Nat) (x66_22 : Bool), v66 = .bool x66_22 ∧ Aside0 (quote_Take.j5 kq l0 x2_2 x5_2 (rd l0 x5_2) x66_22 = some (r1, r2, r3)) ∧ Aside0 (kq ≤ kj15) ∧ Aside0 (Kd.R (Kd.int .u8) 5 wc w.heap.size (fun _ => True) u2 x2_2) ∧ Aside0 (Below w.heap.size w wc))
                 case first =>
                  have H := HC23.out
                  clear HC23
                  by_cases c24 : (rd l0 x5_2) = 92
                  ·rw [if_pos c24] at H
                   obtain ⟨c24b0, c24b1⟩ := eqB c24
                   clear c24
                   (first | rw [c24b0] | (simp only [i64_w, i32_w]; rw [c24b0]) | skip)
                   have H' := Aside0.mk H
                   clear H
                   go_wp2
                   (try (go_step3; (try (rename_i K_ hK_; refine hK_ _ _ ?_)); (try go_wp2); (try (go_step3; (try (rename_i K_ hK_; refine hK_ _ _ ?_)); (try go_wp2)))))
                   go_meet
                   case rel => exact ⟨_, ((x6_6 == 110)), sR, H', ⟨by have := HJ1.out; have := HK2.out; have := HJ6.out; have := HJ12.out; have := HJ15.out; first | omega | exact Nat.le_refl _⟩, ⟨RAt HO_2.out⟩, ⟨bAt HB.out⟩⟩
                  ·rw [if_neg c24] at H
                   obtain ⟨c24b0, c24b1⟩ := neB c24
                   (first | rw [c24b0] | (simp only [i64_w, i32_w]; rw [c24b0]) | skip)
                   have H' := Aside0.mk H
                   clear H
                   go_wp2
                   (try (go_step3; (try (rename_i K_ hK_; refine hK_ _ _ ?_)); (try go_wp2); (try (go_step3; (try (rename_i K_ hK_; refine hK_ _ _ ?_)); (try go_wp2)))))
                   go_meet
                   case rel => exact ⟨_, (false), sR, H', ⟨by have := HJ1.out; have := HK2.out; have := HJ6.out; have := HJ12.out; have := HJ15.out; first | omega | exact Nat.le_refl _⟩, ⟨RAt HO_2.out⟩, ⟨bAt HB.out⟩⟩
                 case rest =>
                  clear HC23
                  try clear c1
                  try clear p1
                  try clear q1
                  try clear hx1
                  try clear qi1
                  try clear c2
                  try clear p2
                  try clear c3
                  try clear c3b0 c3b1
                  try clear c3b2
                  try clear c4
                  try clear c4b0 c4b1
                  try clear c5
                  try clear c6
                  try clear c6b0
                  try clear p6
                  try clear c8
                  try clear c8b0
                  try clear c10
                  try clear c10b0
                  try clear c11
                  try clear c11b0
                  try clear c12
                  try clear c12b0
                  try clear p12
                  try clear q12
                  try clear hx12
                  try clear qi12
                  try clear p13
                  try clear q13
                  try clear hx13
                  try clear c14
                  try clear c14b0 c14b1
                  try clear c15
                  try clear c17
                  try clear c17b0 c17b1
                  try clear c18
                  try clear c18b0 c18b1
                  try clear c19
                  try clear c19b0 c19b1
                  try clear c20
                  try clear c21
                  try clear c24
                  try clear c24b0 c24b1
                  try clear hx129_0
                  try clear hx130_0
                  try clear hx131_0
                  try clear p1
                  try clear p12
                  try clear p129
                  try clear p13
                  try clear p130
                  try clear p131
                  try clear p2
                  try clear p6
                  try clear q1
                  try clear q12
                  try clear q129
                  try clear q13
                  try clear q130
                  try clear q131
                  obtain ⟨kq, x66_22, rfl, HA, HJ22, HO_2, HB⟩ := hcut
                  cases kq with
                  | zero => exact absurd HA.out (by simp [quote_Take.j5])
                  | succ kj22 =>
                   have H := HA.out
                   clear HA
                   simp only [quote_Take.j5] at H
                   by_cases c25 : x66_22 = true
                   ·subst c25
                    replace H := tP H
                    by_cases c26 : x2_2.length < 140737488355328
                    ·rw [if_pos c26] at H
                     have LMc26 := Aside0.mk c26
                     clear c26
                     obtain ⟨y135, hy135⟩ : ∃ y_ : List Int, y_ = (x2_2 ++ [10]) := ⟨_, rfl⟩
                     replace H : (quote_Take.l0 kj22 l0 y135 (wrap64 (x5_2 + 2))) = some (r1, r2, r3) := by first | (rw [hy135]; with_reducible exact H) | (have H2_ := (Option.bind_some _ _).symm.trans H; rw [hy135]; with_reducible exact H2_) | (have H2_ := (Option.bind_some _ _).symm.trans H; with_reducible exact H2_) | with_reducible exact H | (rw [hy135]; exact H) | exact H
                     have Ny135 := Aside0.mk hy135
                     clear hy135
                     have H' := Aside0.mk H
                     clear H
                     go_wp2_with (first | ((with_reducible refine gate_builtin (b := .append) (xs := #[.tmp 73, .tmp 74]) rfl ?_); at_builtin; refine Kd.R_append (Kd.int .u8) (w0 := w) w.heap.size rfl (.tmp 73) (.tmp 74) 22 5 (.int .u8 0) 1 rfl Tryd.underlying22 info5 rfl (by decide) (by omega) u2 x2_2 10 [.int .u8 10] (fun _ => True) (fun _ => False) rfl rfl ?aP (fun _ hk => hk.elim) ?aF ?aO ?aB ?aS ?aL ?_; (case aP => exact rfl); (case aB => exact (bAt HB.out)); (case aF => exact (fun _ _ => trivial)); (case aO => exact (RAt HO_2.out)); (case aS => exact (below_size (bAt HB.out))); (case aL => have := LMc26.out; omega); intro v136 w27 ho hb hg hat; rw [← Ny135.out] at ho; replace HB := Aside0.mk (hb); have HO137 := Aside0.mk (ho); clear HO_2; clear ho hb hg hat))
                     go_roundg kj22
                     case measure => have := HJ1.out; have := HK2.out; have := HJ6.out; have := HJ12.out; have := HJ15.out; have := HJ22.out; omega
                     case rel => exact ⟨(y135), (wrap64 (x5_2 + 2)), sR, H', ⟨by have := HJ1.out; have := HK2.out; have := HJ6.out; have := HJ12.out; have := HJ15.out; have := HJ22.out; omega⟩, ⟨RAt HO137.out⟩, ⟨bAt HB.out⟩⟩
                    ·exact nB H c26
                   ·replace c25 := Bool.eq_false_iff.mpr c25
                    subst c25
                    replace H := fP H
                    by_cases c28 : (rd l0 x5_2) = 92
                    ·rw [if_pos c28] at H
                     obtain ⟨c28b0, c28b1⟩ := eqB c28
                     clear c28
                     simp only [Option.some.injEq, Prod.mk.injEq] at H
                     obtain ⟨rfl, rfl, rfl⟩ := H
                     go_wp2
                     (try (go_step3; (try (rename_i K_ hK_; refine hK_ _ _ ?_)); (try go_wp2); (try (go_step3; (try (rename_i K_ hK_; refine hK_ _ _ ?_)); (try go_wp2)))))
                     (try simp only [Exit.noGoto_ret])
                     go_ret3
                     exact ⟨_, eR, by first | exact Kd.R_nil _ _ _ _ _ | exact Kd.N_nil _ _ _ _ _ | exact Kd.V_nil _ _ _ _ _ | exact Kd.Q_nil _ _ _ _ _ | exact Kd.S_nil _ _ _ _ _, bAt HB.out⟩
                    ·rw [if_neg c28] at H
                     obtain ⟨c28b0, c28b1⟩ := neB c28
                     by_cases c29 : (rd l0 x5_2) = 10
                     ·rw [if_pos c29] at H
                      obtain ⟨c29b0, c29b1⟩ := eqB c29
                      clear c29
                      simp only [Option.some.injEq, Prod.mk.injEq] at H
                      obtain ⟨rfl, rfl, rfl⟩ := H
                      go_wp2
                      (try (go_step3; (try (rename_i K_ hK_; refine hK_ _ _ ?_)); (try go_wp2); (try (go_step3; (try (rename_i K_ hK_; refine hK_ _ _ ?_)); (try go_wp2)))))
                      (try simp only [Exit.noGoto_ret])
                      go_ret3
                      exact ⟨_, eR, by first | exact Kd.R_nil _ _ _ _ _ | exact Kd.N_nil _ _ _ _ _ | exact Kd.V_nil _ _ _ _ _ | exact Kd.Q_nil _ _ _ _ _ | exact Kd.S_nil _ _ _ _ _, bAt HB.out⟩
                     ·rw [if_neg c29] at H
                      obtain ⟨c29b0, c29b1⟩ := neB c29
                      have HC30 := Aside0.mk H
                      clear H
                      go_upto_region 21 with (fail)
                      go_cut [85] (fun v85 wc => ∃ (kq : Nat) (x85_29 : Bool), v85 = .bool x85_29 ∧ Aside0 (quote_Take.j6 kq l0 x2_2 x5_2 x85_29 = some (r1, r2, r3)) ∧ Aside0 (kq ≤ kj22) ∧ Aside0 (Kd.R (Kd.int .u8) 5 wc w.heap.size (fun _ => True) u2 x2_2) ∧ Aside0 (Below w.heap.size w wc))
                      case first =>
                       have H := HC30.out
                       clear HC30
                       by_cases c31 : (rd l0 x5_2) < 32
                       ·rw [if_pos c31] at H
                        have c31b0 := decide_eq_true c31
                        clear c31
                        (first | rw [c31b0] | (simp only [i64_w, i32_w]; rw [c31b0]) | skip)
                        have H' := Aside0.mk H
                        clear H
                        go_wp2
                        (try (go_step3; (try (rename_i K_ hK_; refine hK_ _ _ ?_)); (try go_wp2); (try (go_step3; (try (rename_i K_ hK_; refine hK_ _ _ ?_)); (try go_wp2)))))
                        go_meet
                        case rel => exact ⟨_, (true), sR, H', ⟨by have := HJ1.out; have := HK2.out; have := HJ6.out; have := HJ12.out; have := HJ15.out; have := HJ22.out; first | omega | exact Nat.le_refl _⟩, ⟨RAt HO_2.out⟩, ⟨bAt HB.out⟩⟩
                       ·rw [if_neg c31] at H
                        have c31b0 := decide_eq_false c31
                        clear c31
                        (first | rw [c31b0] | (simp only [i64_w, i32_w]; rw [c31b0]) | skip)
                        have H' := Aside0.mk H
                        clear H
                        go_wp2
                        (try (go_step3; (try (rename_i K_ hK_; refine hK_ _ _ ?_)); (try go_wp2); (try (go_step3; (try (rename_i K_ hK_; refine hK_ _ _ ?_)); (try go_wp2)))))
                        go_meet
                        case rel => exact ⟨_, (((rd l0 x5_2) == 127)), sR, H', ⟨by have := HJ1.out; have := HK2.out; have := HJ6.out; have := HJ12.out; have := HJ15.out; have := HJ22.out; first | omega | exact Nat.le_refl _⟩, ⟨RAt HO_2.out⟩, ⟨bAt HB.out⟩⟩
                      case rest =>
                       clear HC30
                       try clear c1
                       try clear p1
                       try clear q1
                       try clear hx1
                       try clear qi1
                       try clear c2
                       try clear p2
                       try clear c3
                       try clear c3b0 c3b1
                       try clear c3b2
                       try clear c4
                       try clear c4b0 c4b1
                       try clear c5
                       try clear c6
                       try clear c6b0
                       try clear p6
                       try clear c8
                       try clear c8b0
                       try clear c10
                       try clear c10b0
                       try clear c11
                       try clear c11b0
                       try clear c12
                       try clear c12b0
                       try clear p12
                       try clear q12
                       try clear hx12
                       try clear qi12
                       try clear p13
                       try clear q13
                       try clear hx13
                       try clear c14
                       try clear c14b0 c14b1
                       try clear c15
                       try clear c17
                       try clear c17b0 c17b1
                       try clear c18
                       try clear c18b0 c18b1
                       try clear c19
                       try clear c19b0 c19b1
                       try clear c20
                       try clear c21
                       try clear c24
                       try clear c24b0 c24b1
                       try clear c25
                       try clear c26
                       try clear c28
                       try clear c28b0 c28b1
                       try clear c29
                       try clear c29b0 c29b1
                       try clear c31
                       try clear c31b0
                       try clear hx129_0
                       try clear hx130_0
                       try clear hx131_0
                       try clear p1
                       try clear p12
                       try clear p129
                       try clear p13
                       try clear p130
                       try clear p131
                       try clear p2
                       try clear p6
                       try clear q1
                       try clear q12
                       try clear q129
                       try clear q13
                       try clear q130
                       try clear q131
                       obtain ⟨kq, x85_29, rfl, HA, HJ29, HO_2, HB⟩ := hcut
                       cases kq with
                       | zero => exact absurd HA.out (by simp [quote_Take.j6])
                       | succ kj29 =>
                        have H := HA.out
                        clear HA
                        simp only [quote_Take.j6] at H
                        by_cases c32 : x85_29 = true
                        ·subst c32
                         replace H := tP H
                         simp only [Option.some.injEq, Prod.mk.injEq] at H
                         obtain ⟨rfl, rfl, rfl⟩ := H
                         go_wp2
                         (try (go_step3; (try (rename_i K_ hK_; refine hK_ _ _ ?_)); (try go_wp2); (try (go_step3; (try (rename_i K_ hK_; refine hK_ _ _ ?_)); (try go_wp2)))))
                         (try simp only [Exit.noGoto_ret])
                         go_ret3
                         exact ⟨_, eR, by first | exact Kd.R_nil _ _ _ _ _ | exact Kd.N_nil _ _ _ _ _ | exact Kd.V_nil _ _ _ _ _ | exact Kd.Q_nil _ _ _ _ _ | exact Kd.S_nil _ _ _ _ _, bAt HB.out⟩
                        ·replace c32 := Bool.eq_false_iff.mpr c32
                         subst c32
                         replace H := fP H
                         by_cases c33 : 0 ≤ x5_2
                         ·rw [if_pos c33] at H
                          have c33b0 := eq_true c33
                          have c33b1 := decide_eq_true c33
                          clear c33
                          by_cases c34 : x5_2 ≤ (l0.length : Int)
                          ·rw [if_pos c34] at H
                           have c34b0 := eq_true c34
                           have c34b1 := decide_eq_true c34
                           clear c34
                           obtain ⟨⟨t139, t140⟩, A35, H⟩ := bE H
                           replace H : (if t140 = true then (if x5_2 ≤ (wrap64 (x5_2 + t139)) then (if (wrap64 (x5_2 + t139)) ≤ (l0.length : Int) then (if x2_2.length + ((l0.take ((wrap64 (x5_2 + t139)) : Int).toNat).drop (x5_2 : Int).toNat).length < 140737488355328 then (quote_Take.l0 kj29 l0 (x2_2 ++ ((l0.take ((wrap64 (x5_2 + t139)) : Int).toNat).drop (x5_2 : Int).toNat)) (wrap64 (x5_2 + t139))) else (none)) else (none)) else (none)) else (some (([] : List Int), x5_2, 10))) = some (r1, r2, r3) := H
                           by_cases c36 : t140 = true
                           ·subst c36
                            replace H := tP H
                            have c37b0 := eq_true (dt : 0 ≤ x5_2)
                            by_cases c38 : x5_2 ≤ (wrap64 (x5_2 + t139))
                            ·rw [if_pos c38] at H
                             have c38b0 := eq_true c38
                             have c38b1 := decide_eq_true c38
                             by_cases c39 : (wrap64 (x5_2 + t139)) ≤ (l0.length : Int)
                             ·rw [if_pos c39] at H
                              have c39b0 := eq_true c39
                              have c39b1 := decide_eq_true c39
                              by_cases c40 : x2_2.length + ((l0.take ((wrap64 (x5_2 + t139)) : Int).toNat).drop (x5_2 : Int).toNat).length < 140737488355328
                              ·rw [if_pos c40] at H
                               have LMc40 := Aside0.mk c40
                               clear c40
                               obtain ⟨y142, hy142⟩ : ∃ y_ : List Int, y_ = (x2_2 ++ ((l0.take ((wrap64 (x5_2 + t139)) : Int).toNat).drop (x5_2 : Int).toNat)) := ⟨_, rfl⟩
                               replace H : (quote_Take.l0 kj29 l0 y142 (wrap64 (x5_2 + t139))) = some (r1, r2, r3) := by first | (rw [hy142]; with_reducible exact H) | (have H2_ := (Option.bind_some _ _).symm.trans H; rw [hy142]; with_reducible exact H2_) | (have H2_ := (Option.bind_some _ _).symm.trans H; with_reducible exact H2_) | with_reducible exact H | (rw [hy142]; exact H) | exact H
                               have Ny142 := Aside0.mk hy142
                               clear hy142
                               have H' := Aside0.mk H
                               clear H
                               obtain ⟨i041, hi041, _, hsz41, _⟩ := info_parts info5
                               obtain ⟨A41, hcut41, hA41, hC41⟩ := print_drop_of (P := Tryd.prog) (Value.int .u8) 0 22 5 .i64 Tryd.underlying22 hi041 hsz41 (some ad131) c0 l0 x5_2 dt dt HC0.out
                               have HR138 := Aside0.mk (Kd.C_of_reads (h1 := fun _ => rfl) (hA41 _ (Kd.reads_of_C HR0.out)))
                               have HC138 := Aside0.mk hC41
                               clear hA41 hC41 hi041 hsz41
                               go_wp2_with (first | ((with_reducible refine gate_callee (f := 42) rfl ?_); refine gL (some 97) Tryd.func42 #[.slice A41 (l0.drop (x5_2 : Int).toNat).length (c0 - x5_2.toNat)] rfl (gD l0 (x5_2 : Int).toNat) ?_; (with_reducible refine (utf_Take.calls kj29 _ _ (l0.drop (x5_2 : Int).toNat) t139 true _ ?side1 ?side2 A35.out).mono ?_); (case side1 => exact CAt (Kd.C_below HR138.out HB.out)); (case side2 => exact HC138.out); rintro e w42 ⟨rfl, hb⟩; refine ⟨_, rfl, ?_⟩; replace HO_2 := Aside0.mk (Kd.R_below (RAt HO_2.out) hb); replace HB := Aside0.mk (below_step (bAt HB.out) hb); (try clear hb); (try clear hb2); (try clear hk); (try clear hi); obtain ⟨i043, hi043, _, hsz43, _⟩ := info_parts info5; obtain ⟨A43, hcut43, hA43, hC43⟩ := print_mid_of (P := Tryd.prog) (Value.int .u8) 0 22 5 .i64 .i64 Tryd.underlying22 hi043 hsz43 (some ad131) c0 l0 x5_2 (wrap64 (x5_2 + t139)) dt (by first | omega | exact dt) dt HC0.out; have HR141 := Aside0.mk (Kd.C_of_reads (h1 := fun _ => rfl) (hA43 _ (Kd.reads_of_C HR0.out))); have HC141 := Aside0.mk hC43; clear hA43 hC43 hi043 hsz43) | ((with_reducible refine gate_builtin (b := .append) (xs := #[.tmp 103, .tmp 109]) rfl ?_); at_builtin; refine Kd.R_append_rows (Kd.int .u8) (w0 := w) w.heap.size rfl (.tmp 103) (.tmp 109) 22 5 (.int .u8 0) 1 rfl Tryd.underlying22 info5 rfl (by decide) (by omega) u2 x2_2 ((l0.take ((wrap64 (x5_2 + t139)) : Int).toNat).drop (x5_2 : Int).toNat) _ _ _ (fun _ => True) (fun _ => False) rfl rfl ?aO ?aR (fun _ _ h => h) (fun _ h => h.elim) ?aF ?aB ?aS ?aL ?_; (case aR => first | (refine C_cast (show ((l0.take ((wrap64 (x5_2 + t139)) : Int).toNat).drop (x5_2 : Int).toNat).length = ((wrap64 (x5_2 + t139)).toNat - x5_2.toNat) from (by rw [List.length_drop, List.length_take]; have h_ : ((wrap64 (x5_2 + t139)) : Int) ≤ (l0.length : Int) := dt; omega)) ?_; repeat (first | exact (Kd.C_below HR141.out HB.out) | (with_reducible refine Kd.C_alloc ?_ _) | (with_reducible refine Kd.C_drewN ?_ _) | (with_reducible refine Kd.C_drew ?_))) | (rw [← show ((l0.take ((wrap64 (x5_2 + t139)) : Int).toNat).drop (x5_2 : Int).toNat).length = ((wrap64 (x5_2 + t139)).toNat - x5_2.toNat) from (by rw [List.length_drop, List.length_take]; have h_ : ((wrap64 (x5_2 + t139)) : Int) ≤ (l0.length : Int) := dt; omega)]; repeat (first | exact (Kd.C_below HR141.out HB.out) | (with_reducible refine Kd.C_alloc ?_ _) | (with_reducible refine Kd.C_drewN ?_ _) | (with_reducible refine Kd.C_drew ?_))) | (repeat (first | exact (Kd.C_below HR141.out HB.out) | (with_reducible refine Kd.C_alloc ?_ _) | (with_reducible refine Kd.C_drewN ?_ _) | (with_reducible refine Kd.C_drew ?_)))); (case aB => exact (bAt HB.out)); (case aF => exact (fun _ _ => trivial)); (case aO => exact (RAt HO_2.out)); (case aS => exact (below_size (bAt HB.out))); (case aL => have := LMc40.out; have hlx_ := (show ((l0.take ((wrap64 (x5_2 + t139)) : Int).toNat).drop (x5_2 : Int).toNat).length = ((wrap64 (x5_2 + t139)).toNat - x5_2.toNat) from (by rw [List.length_drop, List.length_take]; have h_ : ((wrap64 (x5_2 + t139)) : Int) ≤ (l0.length : Int) := dt; omega)); omega); intro v143 w44 ho hb hg hat; rw [← Ny142.out] at ho; replace HB := Aside0.mk (hb); have HO144 := Aside0.mk (ho); clear HO_2; clear ho hb hg hat))
                               go_roundg kj29
                               case measure => have := HJ1.out; have := HK2.out; have := HJ6.out; have := HJ12.out; have := HJ15.out; have := HJ22.out; have := HJ29.out; omega
                               case rel => exact ⟨(y142), (wrap64 (x5_2 + t139)), sR, H', ⟨by have := HJ1.out; have := HK2.out; have := HJ6.out; have := HJ12.out; have := HJ15.out; have := HJ22.out; have := HJ29.out; omega⟩, ⟨RAt HO144.out⟩, ⟨bAt HB.out⟩⟩
                              ·exact nB H c40
                             ·exact nB H c39
                            ·exact nB H c38
                           ·replace c36 := Bool.eq_false_iff.mpr c36
                            subst c36
                            replace H := fP H
                            simp only [Option.some.injEq, Prod.mk.injEq] at H
                            obtain ⟨rfl, rfl, rfl⟩ := H
                            obtain ⟨i045, hi045, _, hsz45, _⟩ := info_parts info5
                            obtain ⟨A45, hcut45, hA45, hC45⟩ := print_drop_of (P := Tryd.prog) (Value.int .u8) 0 22 5 .i64 Tryd.underlying22 hi045 hsz45 (some ad131) c0 l0 x5_2 dt dt HC0.out
                            have HR138 := Aside0.mk (Kd.C_of_reads (h1 := fun _ => rfl) (hA45 _ (Kd.reads_of_C HR0.out)))
                            have HC138 := Aside0.mk hC45
                            clear hA45 hC45 hi045 hsz45
                            go_wp2_with (first | ((with_reducible refine gate_callee (f := 42) rfl ?_); refine gL (some 97) Tryd.func42 #[.slice A45 (l0.drop (x5_2 : Int).toNat).length (c0 - x5_2.toNat)] rfl (gD l0 (x5_2 : Int).toNat) ?_; (with_reducible refine (utf_Take.calls kj29 _ _ (l0.drop (x5_2 : Int).toNat) t139 false _ ?side1 ?side2 A35.out).mono ?_); (case side1 => exact CAt (Kd.C_below HR138.out HB.out)); (case side2 => exact HC138.out); rintro e w46 ⟨rfl, hb⟩; refine ⟨_, rfl, ?_⟩; replace HO_2 := Aside0.mk (Kd.R_below (RAt HO_2.out) hb); replace HB := Aside0.mk (below_step (bAt HB.out) hb); (try clear hb); (try clear hb2); (try clear hk); (try clear hi)))
                            (try simp only [Exit.noGoto_ret])
                            go_ret3
                            exact ⟨_, eR, by first | exact Kd.R_nil _ _ _ _ _ | exact Kd.N_nil _ _ _ _ _ | exact Kd.V_nil _ _ _ _ _ | exact Kd.Q_nil _ _ _ _ _ | exact Kd.S_nil _ _ _ _ _, bAt HB.out⟩
                          ·exact nB H c34
                         ·exact nB H c33
          ·exact nB H c12
         ·exact nB H c11
      ·rw [if_neg c6] at H
       have c6b0 := decide_eq_false c6
       clear c6
       simp only [Option.some.injEq, Prod.mk.injEq] at H
       obtain ⟨rfl, rfl, rfl⟩ := H
       go_wp2
       (try (go_step3; (try (rename_i K_ hK_; refine hK_ _ _ ?_)); (try go_wp2); (try (go_step3; (try (rename_i K_ hK_; refine hK_ _ _ ?_)); (try go_wp2)))))
       (try simp only [Exit.noGoto_ret])
       go_ret3
       exact ⟨_, eR, by first | exact Kd.R_nil _ _ _ _ _ | exact Kd.N_nil _ _ _ _ _ | exact Kd.V_nil _ _ _ _ _ | exact Kd.Q_nil _ _ _ _ _ | exact Kd.S_nil _ _ _ _ _, bAt HB.out⟩
def token_quoted.f (k : Nat) (l0 : List Int) : Option (Int × Int × ByteArray × Int) := (quote_Take.f k l0).bind fun bt145 => (some (5, bt145.2.1, strOfNums bt145.1, bt145.2.2))
theorem token_quoted.mono : ∀ a0 k, LeO (token_quoted.f k a0) (token_quoted.f (k + 1) a0) := by
 intro a0 k
 unfold token_quoted.f
 repeat' with_reducible first | exact quote_Take.mono _ _ | exact LeO.refl _ | exact LeO.none _ | refine LeO.ite ?_ ?_ | refine LeO.bind ?_ (fun _ => ?_)
set_option maxHeartbeats 8000000 in
set_option maxRecDepth 100000 in
theorem token_quoted.calls (k : Nat) (A0 : Option Addr) (c0 : Nat) (l0 : List Int) (r1 : Int) (r2 : Int) (r3 : ByteArray) (r4 : Int) (w : World) (hr0 : Kd.C (Kd.int .u8) w A0 l0.length l0) (hc0 : l0.length ≤ c0) (h : token_quoted.f k l0 = some (r1, r2, r3, r4)) :
  Calls Tryd.prog 27 #[.slice A0 l0.length c0] w fun e w' => e = .returned (.tuple #[.int .i64 r1, .int .i64 r2, .string r3, .int .i64 r4]) ∧ Below w.heap.size w w' := by
 have HR0 := Aside0.mk hr0
 have HC0 := Aside0.mk hc0
 clear hr0 hc0
 have HB := Aside0.mk (Below.refl w.heap.size w)
 have H : ((quote_Take.f k l0).bind fun bt145 => (some (5, bt145.2.1, strOfNums bt145.1, bt145.2.2))) = some (r1, r2, r3, r4) := h
 clear h
 obtain ⟨⟨t145, t146, t147⟩, A2, H⟩ := bE H
 replace H : (some (5, t146, strOfNums t145, t147)) = some (r1, r2, r3, r4) := H
 simp only [Option.some.injEq, Prod.mk.injEq] at H
 obtain ⟨rfl, rfl, rfl, rfl⟩ := H
 go_enter Tryd.func27, Tryd.ntmps27
 go_wp2_with (first | (go_at_call 44; (with_reducible refine (quote_Take.calls k _ _ l0 t145 t146 t147 _ ?side1 ?side2 A2.out).mono ?_); (case side1 => exact CAt HR0.out); (case side2 => exact HC0.out); rintro e w3 ⟨v148, rfl, ho0, hb⟩; have HO149 := Aside0.mk (Kd.R_lower ho0 (below_size (bAt HB.out))); replace HB := Aside0.mk (below_step (bAt HB.out) hb); (try clear hb); (try clear hb2); (try clear hk); (try clear hi); (try clear ho0); (first | (have hcv4 := own_string (P := Tryd.prog) Tryd.underlying22 Tryd.underlying5 Tryd.underlying9 (Kd.own_of_R HO149.out); have hcv4q := fun (q_ : Nat) => own_string (P := Tryd.prog) Tryd.underlying22 Tryd.underlying5 Tryd.underlying9 (pw_own_drewN (Kd.own_of_R HO149.out) q_)) | (have hcv4 := V_string (P := Tryd.prog) Tryd.underlying22 Tryd.underlying5 Tryd.underlying9 HO149.out; have hcv4q := fun (q_ : Nat) => V_string (P := Tryd.prog) Tryd.underlying22 Tryd.underlying5 Tryd.underlying9 (Kd.V_drewN HO149.out q_)))))
 repeat (go_quiet (first | (go_at_call 44; (with_reducible refine (quote_Take.calls k _ _ l0 t145 t146 t147 _ ?side1 ?side2 A2.out).mono ?_); (case side1 => exact CAt HR0.out); (case side2 => exact HC0.out); rintro e w3 ⟨v148, rfl, ho0, hb⟩; have HO149 := Aside0.mk (Kd.R_lower ho0 (below_size (bAt HB.out))); replace HB := Aside0.mk (below_step (bAt HB.out) hb); (try clear hb); (try clear hb2); (try clear hk); (try clear hi); (try clear ho0); (first | (have hcv4 := own_string (P := Tryd.prog) Tryd.underlying22 Tryd.underlying5 Tryd.underlying9 (Kd.own_of_R HO149.out); have hcv4q := fun (q_ : Nat) => own_string (P := Tryd.prog) Tryd.underlying22 Tryd.underlying5 Tryd.underlying9 (pw_own_drewN (Kd.own_of_R HO149.out) q_)) | (have hcv4 := V_string (P := Tryd.prog) Tryd.underlying22 Tryd.underlying5 Tryd.underlying9 HO149.out; have hcv4q := fun (q_ : Nat) => V_string (P := Tryd.prog) Tryd.underlying22 Tryd.underlying5 Tryd.underlying9 (Kd.V_drewN HO149.out q_))))); try go_wp2_with (first | (go_at_call 44; (with_reducible refine (quote_Take.calls k _ _ l0 t145 t146 t147 _ ?side1 ?side2 A2.out).mono ?_); (case side1 => exact CAt HR0.out); (case side2 => exact HC0.out); rintro e w3 ⟨v148, rfl, ho0, hb⟩; have HO149 := Aside0.mk (Kd.R_lower ho0 (below_size (bAt HB.out))); replace HB := Aside0.mk (below_step (bAt HB.out) hb); (try clear hb); (try clear hb2); (try clear hk); (try clear hi); (try clear ho0); (first | (have hcv4 := own_string (P := Tryd.prog) Tryd.underlying22 Tryd.underlying5 Tryd.underlying9 (Kd.own_of_R HO149.out); have hcv4q := fun (q_ : Nat) => own_string (P := Tryd.prog) Tryd.underlying22 Tryd.underlying5 Tryd.underlying9 (pw_own_drewN (Kd.own_of_R HO149.out) q_)) | (have hcv4 := V_string (P := Tryd.prog) Tryd.underlying22 Tryd.underlying5 Tryd.underlying9 HO149.out; have hcv4q := fun (q_ : Nat) => V_string (P := Tryd.prog) Tryd.underlying22 Tryd.underlying5 Tryd.underlying9 (Kd.V_drewN HO149.out q_))))))
 refine bodyPost_ret (results_list (rs := [.tmp 2, .tmp 3, .tmp 4, .tmp 5]) rfl (by simp) (.tmp (.tmp (.tmp (.tmp .nil))))) rfl ?_
 exact ⟨eR, bAt HB.out⟩
end Go.Proofs.YtflekegjmjjdmaaDoor.P
