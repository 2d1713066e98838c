-- Written by a program of this session (wip/xprint.py), out of the translation.
import Derived.Test.YtihgfoekjelkbaaDoorPx0
import Derived.Test.YtihgfoekjelkbaaDoorPx1
import Derived.Test.YtihgfoekjelkbaaDoorHG
namespace Go.Proofs.YtihgfoekjelkbaaDoor.P
open Go.RowKit Go.Proofs.YtihgfoekjelkbaaDoorW.PrintWords Go.Proofs.YtihgfoekjelkbaaDoorW.PrintLast Go.Proofs.YtihgfoekjelkbaaDoorW.PrintMore
attribute [local go_sem] max2_int min2_int max_two min_two max_three min_three max_four min_four   -- for this text's walks alone
set_option linter.unusedVariables false
set_option linter.unusedSimpArgs false

/-! ### tmesislaw02_ClassNames: function 5 -/
mutual
def tmesislaw02_ClassNames.j0 : Nat → Int → Bool → Int → Bool → Option (Bool)
  | 0, _, _, _, _ => none
  | k + 1, x0, x3, x4, x5 => if x0 ≥ 65 then (if x0 ≤ 90 then (tmesislaw02_ClassNames.j1 k x0 x3 x4 x5 true) else (tmesislaw02_ClassNames.j1 k x0 x3 x4 x5 (x0 == 95))) else (tmesislaw02_ClassNames.j1 k x0 x3 x4 x5 (x0 == 95))
def tmesislaw02_ClassNames.j1 : Nat → Int → Bool → Int → Bool → Bool → Option (Bool)
  | 0, _, _, _, _, _ => none
  | k + 1, x0, x3, x4, x5, x6 => if x0 ≥ 48 then (tmesislaw02_ClassNames.j2 k x0 x3 x4 x5 x6 (decide (x0 ≤ 57))) else (tmesislaw02_ClassNames.j2 k x0 x3 x4 x5 x6 false)
def tmesislaw02_ClassNames.j2 : Nat → Int → Bool → Int → Bool → Bool → Bool → Option (Bool)
  | 0, _, _, _, _, _, _ => none
  | k + 1, x0, x3, x4, x5, x6, x7 => if x3 = true then (if x4 ≥ 0 then (if x4 ≤ 9 then ((class_Name.f x0).bind fun t158 => (if x5 = true then (if (t158 == true) = true then (if ((x4 == 2) == x5) = true then (if ((x4 == 3) == x6) = true then (if ((x4 == 4) == x7) = true then (if ((x4 == 9) == (decide (x0 > 127))) = true then (if ((x4 == 7) == (x0 == 39)) = true then (some ((x4 == 8) == (x0 == 37))) else (some false)) else (some false)) else (some false)) else (some false)) else (some false)) else (some false)) else (if x6 = true then (if (t158 == true) = true then (if ((x4 == 2) == x5) = true then (if ((x4 == 3) == x6) = true then (if ((x4 == 4) == x7) = true then (if ((x4 == 9) == (decide (x0 > 127))) = true then (if ((x4 == 7) == (x0 == 39)) = true then (some ((x4 == 8) == (x0 == 37))) else (some false)) else (some false)) else (some false)) else (some false)) else (some false)) else (some false)) else (if (t158 == x7) = true then (if ((x4 == 2) == x5) = true then (if ((x4 == 3) == x6) = true then (if ((x4 == 4) == x7) = true then (if ((x4 == 9) == (decide (x0 > 127))) = true then (if ((x4 == 7) == (x0 == 39)) = true then (some ((x4 == 8) == (x0 == 37))) else (some false)) else (some false)) else (some false)) else (some false)) else (some false)) else (some false))))) else (some false)) else (some false)) else (some false)
end
def tmesislaw02_ClassNames.f (k : Nat) (a0 : Int) : Option (Bool) := (tmesislaw02_shown.f k).bind fun t156 => ((class_Of.f a0).bind fun t157 => (if a0 ≥ 97 then (tmesislaw02_ClassNames.j0 k a0 t156 t157 (decide (a0 ≤ 122))) else (tmesislaw02_ClassNames.j0 k a0 t156 t157 false)))
theorem tmesislaw02_ClassNames.mono_l : ∀ k, (∀ y0 y1 y2 y3, LeO (tmesislaw02_ClassNames.j0 k y0 y1 y2 y3) (tmesislaw02_ClassNames.j0 (k + 1) y0 y1 y2 y3)) ∧ (∀ y0 y1 y2 y3 y4, LeO (tmesislaw02_ClassNames.j1 k y0 y1 y2 y3 y4) (tmesislaw02_ClassNames.j1 (k + 1) y0 y1 y2 y3 y4)) ∧ (∀ y0 y1 y2 y3 y4 y5, LeO (tmesislaw02_ClassNames.j2 k y0 y1 y2 y3 y4 y5) (tmesislaw02_ClassNames.j2 (k + 1) y0 y1 y2 y3 y4 y5))
  | 0 => ⟨fun _ _ _ _ r h => by simp [tmesislaw02_ClassNames.j0] at h, fun _ _ _ _ _ r h => by simp [tmesislaw02_ClassNames.j1] at h, fun _ _ _ _ _ _ r h => by simp [tmesislaw02_ClassNames.j2] at h⟩
  | k + 1 => by
    obtain ⟨ih0, ih1, ih2⟩ := tmesislaw02_ClassNames.mono_l k
    refine ⟨?_, ?_, ?_⟩
    · intro y0 y1 y2 y3
      unfold tmesislaw02_ClassNames.j0
      repeat' first
      | (with_reducible exact ih0 _ _ _ _)
      | (with_reducible exact ih1 _ _ _ _ _)
      | (with_reducible exact ih2 _ _ _ _ _ _)
      | (with_reducible exact tmesislaw02_shown.mono _)
      | (with_reducible exact LeO.refl _)
      | (with_reducible exact LeO.none _)
      | (with_reducible refine LeO.ite ?_ ?_)
      | (with_reducible refine LeO.bind ?_ (fun _ => ?_))
      | exact ih0 _ _ _ _
      | exact ih1 _ _ _ _ _
      | exact ih2 _ _ _ _ _ _
      | exact tmesislaw02_shown.mono _
      | exact LeO.none _
      | refine LeO.ite ?_ ?_
      | refine LeO.bind ?_ (fun _ => ?_)
    · intro y0 y1 y2 y3 y4
      unfold tmesislaw02_ClassNames.j1
      repeat' first
      | (with_reducible exact ih0 _ _ _ _)
      | (with_reducible exact ih1 _ _ _ _ _)
      | (with_reducible exact ih2 _ _ _ _ _ _)
      | (with_reducible exact tmesislaw02_shown.mono _)
      | (with_reducible exact LeO.refl _)
      | (with_reducible exact LeO.none _)
      | (with_reducible refine LeO.ite ?_ ?_)
      | (with_reducible refine LeO.bind ?_ (fun _ => ?_))
      | exact ih0 _ _ _ _
      | exact ih1 _ _ _ _ _
      | exact ih2 _ _ _ _ _ _
      | exact tmesislaw02_shown.mono _
      | exact LeO.none _
      | refine LeO.ite ?_ ?_
      | refine LeO.bind ?_ (fun _ => ?_)
    · intro y0 y1 y2 y3 y4 y5
      unfold tmesislaw02_ClassNames.j2
      repeat' first
      | (with_reducible exact ih0 _ _ _ _)
      | (with_reducible exact ih1 _ _ _ _ _)
      | (with_reducible exact ih2 _ _ _ _ _ _)
      | (with_reducible exact tmesislaw02_shown.mono _)
      | (with_reducible exact LeO.refl _)
      | (with_reducible exact LeO.none _)
      | (with_reducible refine LeO.ite ?_ ?_)
      | (with_reducible refine LeO.bind ?_ (fun _ => ?_))
      | exact ih0 _ _ _ _
      | exact ih1 _ _ _ _ _
      | exact ih2 _ _ _ _ _ _
      | exact tmesislaw02_shown.mono _
      | exact LeO.none _
      | refine LeO.ite ?_ ?_
      | refine LeO.bind ?_ (fun _ => ?_)
theorem tmesislaw02_ClassNames.mono : ∀ a0 k, LeO (tmesislaw02_ClassNames.f k a0) (tmesislaw02_ClassNames.f (k + 1) a0) := by
  intro a0 k
  obtain ⟨ih0, ih1, ih2⟩ := tmesislaw02_ClassNames.mono_l k
  unfold tmesislaw02_ClassNames.f
  repeat' first
      | (with_reducible exact ih0 _ _ _ _)
      | (with_reducible exact ih1 _ _ _ _ _)
      | (with_reducible exact ih2 _ _ _ _ _ _)
      | (with_reducible exact tmesislaw02_shown.mono _)
      | (with_reducible exact LeO.refl _)
      | (with_reducible exact LeO.none _)
      | (with_reducible refine LeO.ite ?_ ?_)
      | (with_reducible refine LeO.bind ?_ (fun _ => ?_))
      | exact ih0 _ _ _ _
      | exact ih1 _ _ _ _ _
      | exact ih2 _ _ _ _ _ _
      | exact tmesislaw02_shown.mono _
      | exact LeO.none _
      | refine LeO.ite ?_ ?_
      | refine LeO.bind ?_ (fun _ => ?_)
set_option maxHeartbeats 8000000 in
set_option maxRecDepth 100000 in
theorem tmesislaw02_ClassNames.calls (k : Nat) (a0 : Int) (r : Bool) (w : World) (hG : Gl w) (h : tmesislaw02_ClassNames.f k a0 = some r) :
    Calls Tryd.prog 5 #[.int .u8 a0] w fun e w' => e = .returned (.bool r) ∧ Below w.heap.size w w' := by
  have HB := Aside0.mk (Below.refl w.heap.size w)
  have HG := Aside0.mk hG
  clear hG
  have H : ((tmesislaw02_shown.f k).bind fun t156 => ((class_Of.f a0).bind fun t157 => (if a0 ≥ 97 then (tmesislaw02_ClassNames.j0 k a0 t156 t157 (decide (a0 ≤ 122))) else (tmesislaw02_ClassNames.j0 k a0 t156 t157 false)))) = some r := h
  clear h
  replace H := Option.bind_eq_some_iff.mp H
  obtain ⟨t156, A20, H⟩ := H
  replace H : ((class_Of.f a0).bind fun t157 => (if a0 ≥ 97 then (tmesislaw02_ClassNames.j0 k a0 t156 t157 (decide (a0 ≤ 122))) else (tmesislaw02_ClassNames.j0 k a0 t156 t157 false))) = some r := H
  have A2 := Aside0.mk A20
  clear A20
  replace H := Option.bind_eq_some_iff.mp H
  obtain ⟨t157, A30, H⟩ := H
  replace H : (if a0 ≥ 97 then (tmesislaw02_ClassNames.j0 k a0 t156 t157 (decide (a0 ≤ 122))) else (tmesislaw02_ClassNames.j0 k a0 t156 t157 false)) = some r := H
  have A3 := Aside0.mk A30
  clear A30
  have HC4 := Aside0.mk H
  clear H
  go_enter Tryd.func5, Tryd.ntmps5
  go_upto_region 3 with (first | ((with_reducible refine gate_callee (f := 7) rfl ?_); refine goesL_ (some 8) rfl rfl Tryd.func7 (by kernel_rfl) rfl #[] rfl (by (try simp only [List.map_toArray, List.map_cons, List.map_nil]); first | done | rfl | (simp only [List.length_drop, List.length_take]; rfl)) ?_; (with_reducible refine (tmesislaw02_shown.calls k  t156 _ ?side1 A2.out).mono ?_); (case side1 => exact Gl.below HG.out (by repeat (first | (with_reducible first | exact HB.out | apply below_alloc | apply pw_below_drewN | apply below_drew1) | exact HB.out))); rintro e w5 ⟨rfl, hb⟩; refine ⟨_, rfl, ?_⟩; have n0_ := Aside0.mk (below_step (by repeat (first | (with_reducible first | exact HB.out | apply below_alloc | apply pw_below_drewN | apply below_drew1) | exact HB.out)) hb); clear HB; have HB := n0_; clear n0_; (try clear hb); (try clear hb2); (try clear hk); (try clear hi)) | ((with_reducible refine gate_callee (f := 8) rfl ?_); refine goesL_ (some 10) rfl rfl Tryd.func8 (by kernel_rfl) rfl #[.int .u8 a0] rfl (by (try simp only [List.map_toArray, List.map_cons, List.map_nil]); first | done | rfl | (simp only [List.length_drop, List.length_take]; rfl)) ?_; (with_reducible refine (class_Of.calls a0 t157 _ ?side1 A3.out).mono ?_); (case side1 => exact Gl.below HG.out (by repeat (first | (with_reducible first | exact HB.out | apply below_alloc | apply pw_below_drewN | apply below_drew1) | exact HB.out))); rintro e w6 ⟨rfl, hb⟩; refine ⟨_, rfl, ?_⟩; have n0_ := Aside0.mk (below_step (by repeat (first | (with_reducible first | exact HB.out | apply below_alloc | apply pw_below_drewN | apply below_drew1) | exact HB.out)) hb); clear HB; have HB := n0_; clear n0_; (try clear hb); (try clear hb2); (try clear hk); (try clear hi)))
  (try simp only [Act.put, List.setIfInBounds_toArray, List.set_cons_zero, List.set_cons_succ])
  go_cut [5] (fun v5 wc => ∃ (kq : Nat) (x5_3 : Bool), v5 = .bool x5_3 ∧ Aside0 (tmesislaw02_ClassNames.j0 kq a0 t156 t157 x5_3 = some r) ∧ Aside0 (kq ≤ k) ∧ Aside0 (Below w.heap.size w wc))
  case first =>
    have H := HC4.out
    clear HC4
    by_cases c7 : a0 ≥ 97
    · rw [if_pos c7] at H
      have c7b0 : decide (97 ≤ a0) = true := decide_eq_true c7
      clear c7
      (first | rw [c7b0] | (simp only [i64_w, i32_w]; rw [c7b0]) | skip)
      have H' := Aside0.mk H
      clear H
      go_wp2
      go_meet
      case rel => exact ⟨_, (decide (a0 ≤ 122)), (by first | rfl | (simp; done) | (simp [*]; done)), H', ⟨by first | omega | exact Nat.le_refl _⟩, ⟨by repeat (first | (with_reducible first | exact HB.out | apply below_alloc | apply pw_below_drewN | apply below_drew1) | exact HB.out)⟩⟩
    · rw [if_neg c7] at H
      have c7b0 : decide (97 ≤ a0) = false := decide_eq_false c7
      clear c7
      (first | rw [c7b0] | (simp only [i64_w, i32_w]; rw [c7b0]) | skip)
      have H' := Aside0.mk H
      clear H
      go_wp2
      go_meet
      case rel => exact ⟨_, (false), (by first | rfl | (simp; done) | (simp [*]; done)), H', ⟨by first | omega | exact Nat.le_refl _⟩, ⟨by repeat (first | (with_reducible first | exact HB.out | apply below_alloc | apply pw_below_drewN | apply below_drew1) | exact HB.out)⟩⟩
  case rest =>
    clear HC4
    try clear p2
    try clear c5
    try clear c7
    try clear c7b0
    obtain ⟨kq, x5_3, rfl, HA, HJ3, HB⟩ := hcut
    cases kq with
    | zero => exact absurd HA.out (by simp [tmesislaw02_ClassNames.j0])
    | succ kj3 =>
      have H := HA.out
      clear HA
      simp only [tmesislaw02_ClassNames.j0] at H
      have HC8 := Aside0.mk H
      clear H
      go_upto_region 4 with (fail)
      go_cut [6] (fun v6 wc => ∃ (kq : Nat) (x6_7 : Bool), v6 = .bool x6_7 ∧ Aside0 (tmesislaw02_ClassNames.j1 kq a0 t156 t157 x5_3 x6_7 = some r) ∧ Aside0 (kq ≤ kj3) ∧ Aside0 (Below w.heap.size w wc))
      case first =>
        have H := HC8.out
        clear HC8
        by_cases c9 : a0 ≥ 65
        · rw [if_pos c9] at H
          have c9b0 : decide (65 ≤ a0) = true := decide_eq_true c9
          clear c9
          (first | rw [c9b0] | (simp only [i64_w, i32_w]; rw [c9b0]) | skip)
          by_cases c10 : a0 ≤ 90
          · rw [if_pos c10] at H
            have c10b0 : decide (a0 ≤ 90) = true := decide_eq_true c10
            clear c10
            have H' := Aside0.mk H
            clear H
            go_wp2
            go_meet
            case rel => exact ⟨_, (true), (by first | rfl | (simp; done) | (simp [*]; done)), H', ⟨by have := HJ3.out; first | omega | exact Nat.le_refl _⟩, ⟨by repeat (first | (with_reducible first | exact HB.out | apply below_alloc | apply pw_below_drewN | apply below_drew1) | exact HB.out)⟩⟩
          · rw [if_neg c10] at H
            have c10b0 : decide (a0 ≤ 90) = false := decide_eq_false c10
            clear c10
            have H' := Aside0.mk H
            clear H
            go_wp2
            go_meet
            case rel => exact ⟨_, ((a0 == 95)), (by first | rfl | (simp; done) | (simp [*]; done)), H', ⟨by have := HJ3.out; first | omega | exact Nat.le_refl _⟩, ⟨by repeat (first | (with_reducible first | exact HB.out | apply below_alloc | apply pw_below_drewN | apply below_drew1) | exact HB.out)⟩⟩
        · rw [if_neg c9] at H
          have c9b0 : decide (65 ≤ a0) = false := decide_eq_false c9
          clear c9
          (first | rw [c9b0] | (simp only [i64_w, i32_w]; rw [c9b0]) | skip)
          have H' := Aside0.mk H
          clear H
          go_wp2
          go_meet
          case rel => exact ⟨_, ((a0 == 95)), (by first | rfl | (simp; done) | (simp [*]; done)), H', ⟨by have := HJ3.out; first | omega | exact Nat.le_refl _⟩, ⟨by repeat (first | (with_reducible first | exact HB.out | apply below_alloc | apply pw_below_drewN | apply below_drew1) | exact HB.out)⟩⟩
      case rest =>
        clear HC8
        try clear c1
        try clear p2
        try clear c5
        try clear c7
        try clear c7b0
        try clear c8
        try clear c9
        try clear c9b0
        try clear c10
        try clear c10b0
        try clear p2
        obtain ⟨kq, x6_7, rfl, HA, HJ7, HB⟩ := hcut
        cases kq with
        | zero => exact absurd HA.out (by simp [tmesislaw02_ClassNames.j1])
        | succ kj7 =>
          have H := HA.out
          clear HA
          simp only [tmesislaw02_ClassNames.j1] at H
          have HC11 := Aside0.mk H
          clear H
          go_upto_region 5 with (fail)
          go_cut [7] (fun v7 wc => ∃ (kq : Nat) (x7_10 : Bool), v7 = .bool x7_10 ∧ Aside0 (tmesislaw02_ClassNames.j2 kq a0 t156 t157 x5_3 x6_7 x7_10 = some r) ∧ Aside0 (kq ≤ kj7) ∧ Aside0 (Below w.heap.size w wc))
          case first =>
            have H := HC11.out
            clear HC11
            by_cases c12 : a0 ≥ 48
            · rw [if_pos c12] at H
              have c12b0 : decide (48 ≤ a0) = true := decide_eq_true c12
              clear c12
              (first | rw [c12b0] | (simp only [i64_w, i32_w]; rw [c12b0]) | skip)
              have H' := Aside0.mk H
              clear H
              go_wp2
              go_meet
              case rel => exact ⟨_, (decide (a0 ≤ 57)), (by first | rfl | (simp; done) | (simp [*]; done)), H', ⟨by have := HJ3.out; have := HJ7.out; first | omega | exact Nat.le_refl _⟩, ⟨by repeat (first | (with_reducible first | exact HB.out | apply below_alloc | apply pw_below_drewN | apply below_drew1) | exact HB.out)⟩⟩
            · rw [if_neg c12] at H
              have c12b0 : decide (48 ≤ a0) = false := decide_eq_false c12
              clear c12
              (first | rw [c12b0] | (simp only [i64_w, i32_w]; rw [c12b0]) | skip)
              have H' := Aside0.mk H
              clear H
              go_wp2
              go_meet
              case rel => exact ⟨_, (false), (by first | rfl | (simp; done) | (simp [*]; done)), H', ⟨by have := HJ3.out; have := HJ7.out; first | omega | exact Nat.le_refl _⟩, ⟨by repeat (first | (with_reducible first | exact HB.out | apply below_alloc | apply pw_below_drewN | apply below_drew1) | exact HB.out)⟩⟩
          case rest =>
            clear HC11
            try clear c1
            try clear p2
            try clear c5
            try clear c7
            try clear c7b0
            try clear c8
            try clear c9
            try clear c9b0
            try clear c10
            try clear c10b0
            try clear c12
            try clear c12b0
            try clear p2
            obtain ⟨kq, x7_10, rfl, HA, HJ10, HB⟩ := hcut
            cases kq with
            | zero => exact absurd HA.out (by simp [tmesislaw02_ClassNames.j2])
            | succ kj10 =>
              have H := HA.out
              clear HA
              simp only [tmesislaw02_ClassNames.j2] at H
              by_cases c13 : t156 = true
              · subst c13
                have H1 : (if t157 ≥ 0 then (if t157 ≤ 9 then ((class_Name.f a0).bind fun t158 => (if x5_3 = true then (if (t158 == true) = true then (if ((t157 == 2) == x5_3) = true then (if ((t157 == 3) == x6_7) = true then (if ((t157 == 4) == x7_10) = true then (if ((t157 == 9) == (decide (a0 > 127))) = true then (if ((t157 == 7) == (a0 == 39)) = true then (some ((t157 == 8) == (a0 == 37))) else (some false)) else (some false)) else (some false)) else (some false)) else (some false)) else (some false)) else (if x6_7 = true then (if (t158 == true) = true then (if ((t157 == 2) == x5_3) = true then (if ((t157 == 3) == x6_7) = true then (if ((t157 == 4) == x7_10) = true then (if ((t157 == 9) == (decide (a0 > 127))) = true then (if ((t157 == 7) == (a0 == 39)) = true then (some ((t157 == 8) == (a0 == 37))) else (some false)) else (some false)) else (some false)) else (some false)) else (some false)) else (some false)) else (if (t158 == x7_10) = true then (if ((t157 == 2) == x5_3) = true then (if ((t157 == 3) == x6_7) = true then (if ((t157 == 4) == x7_10) = true then (if ((t157 == 9) == (decide (a0 > 127))) = true then (if ((t157 == 7) == (a0 == 39)) = true then (some ((t157 == 8) == (a0 == 37))) else (some false)) else (some false)) else (some false)) else (some false)) else (some false)) else (some false))))) else (some false)) else (some false)) = some r := by rw [if_pos rfl] at H; exact H
                clear H
                have H := H1
                clear H1
                by_cases c14 : t157 ≥ 0
                · rw [if_pos c14] at H
                  have c14b0 : decide (0 ≤ t157) = true := decide_eq_true c14
                  clear c14
                  by_cases c15 : t157 ≤ 9
                  · rw [if_pos c15] at H
                    have c15b0 : decide (t157 ≤ 9) = true := decide_eq_true c15
                    clear c15
                    replace H := Option.bind_eq_some_iff.mp H
                    obtain ⟨t158, A160, H⟩ := H
                    replace H : (if x5_3 = true then (if (t158 == true) = true then (if ((t157 == 2) == x5_3) = true then (if ((t157 == 3) == x6_7) = true then (if ((t157 == 4) == x7_10) = true then (if ((t157 == 9) == (decide (a0 > 127))) = true then (if ((t157 == 7) == (a0 == 39)) = true then (some ((t157 == 8) == (a0 == 37))) else (some false)) else (some false)) else (some false)) else (some false)) else (some false)) else (some false)) else (if x6_7 = true then (if (t158 == true) = true then (if ((t157 == 2) == x5_3) = true then (if ((t157 == 3) == x6_7) = true then (if ((t157 == 4) == x7_10) = true then (if ((t157 == 9) == (decide (a0 > 127))) = true then (if ((t157 == 7) == (a0 == 39)) = true then (some ((t157 == 8) == (a0 == 37))) else (some false)) else (some false)) else (some false)) else (some false)) else (some false)) else (some false)) else (if (t158 == x7_10) = true then (if ((t157 == 2) == x5_3) = true then (if ((t157 == 3) == x6_7) = true then (if ((t157 == 4) == x7_10) = true then (if ((t157 == 9) == (decide (a0 > 127))) = true then (if ((t157 == 7) == (a0 == 39)) = true then (some ((t157 == 8) == (a0 == 37))) else (some false)) else (some false)) else (some false)) else (some false)) else (some false)) else (some false)))) = some r := H
                    have A16 := Aside0.mk A160
                    clear A160
                    by_cases c17 : x5_3 = true
                    · subst c17
                      have H1 : (if (t158 == true) = true then (if ((t157 == 2) == true) = true then (if ((t157 == 3) == x6_7) = true then (if ((t157 == 4) == x7_10) = true then (if ((t157 == 9) == (decide (a0 > 127))) = true then (if ((t157 == 7) == (a0 == 39)) = true then (some ((t157 == 8) == (a0 == 37))) else (some false)) else (some false)) else (some false)) else (some false)) else (some false)) else (some false)) = some r := by rw [if_pos rfl] at H; exact H
                      clear H
                      have H := H1
                      clear H1
                      by_cases c18 : (t158 == true) = true
                      · rw [if_pos c18] at H
                        have c18b0 : (t158 == true) = true := c18
                        (try (have c18b1 : decide (t158 = true) = true := by simpa using c18))
                        (try (have c18b2 : (t158 == true) = true := by simpa using c18))
                        clear c18
                        by_cases c19 : ((t157 == 2) == true) = true
                        · rw [if_pos c19] at H
                          have c19b0 : ((t157 == 2) == true) = true := c19
                          (try (have c19b1 : decide ((t157 == 2) = true) = true := by simpa using c19))
                          (try (have c19b2 : ((t157 == 2) == true) = true := by simpa using c19))
                          clear c19
                          by_cases c20 : ((t157 == 3) == x6_7) = true
                          · rw [if_pos c20] at H
                            have c20b0 : ((t157 == 3) == x6_7) = true := c20
                            (try (have c20b1 : decide ((t157 == 3) = x6_7) = true := by simpa using c20))
                            (try (have c20b2 : ((t157 == 3) == x6_7) = true := by simpa using c20))
                            clear c20
                            by_cases c21 : ((t157 == 4) == x7_10) = true
                            · rw [if_pos c21] at H
                              have c21b0 : ((t157 == 4) == x7_10) = true := c21
                              (try (have c21b1 : decide ((t157 == 4) = x7_10) = true := by simpa using c21))
                              (try (have c21b2 : ((t157 == 4) == x7_10) = true := by simpa using c21))
                              clear c21
                              by_cases c22 : ((t157 == 9) == (decide (a0 > 127))) = true
                              · rw [if_pos c22] at H
                                have c22b0 : ((t157 == 9) == (decide (a0 > 127))) = true := c22
                                (try (have c22b1 : decide ((t157 == 9) = (decide (a0 > 127))) = true := by simpa using c22))
                                (try (have c22b2 : ((t157 == 9) == (decide (a0 > 127))) = true := by simpa using c22))
                                clear c22
                                by_cases c23 : ((t157 == 7) == (a0 == 39)) = true
                                · rw [if_pos c23] at H
                                  have c23b0 : ((t157 == 7) == (a0 == 39)) = true := c23
                                  (try (have c23b1 : decide ((t157 == 7) = (a0 == 39)) = true := by simpa using c23))
                                  (try (have c23b2 : ((t157 == 7) == (a0 == 39)) = true := by simpa using c23))
                                  clear c23
                                  obtain rfl := Option.some.inj H
                                  go_wp2_with (first | ((with_reducible refine gate_callee (f := 10) rfl ?_); (try (refine gate_guard (by rfl) ?_; dsimp only)); refine goesL_ (some 44) rfl rfl Tryd.func10 (by kernel_rfl) rfl #[.int .u8 a0] rfl (by (try simp only [List.map_toArray, List.map_cons, List.map_nil]); first | done | rfl | (simp only [List.length_drop, List.length_take]; rfl)) ?_; (with_reducible refine (class_Name.calls a0 t158 _ ?side1 A16.out).mono ?_); (case side1 => exact Gl.below HG.out (by repeat (first | (with_reducible first | exact HB.out | apply below_alloc | apply pw_below_drewN | apply below_drew1) | exact HB.out))); rintro e w24 ⟨rfl, hb⟩; refine ⟨_, rfl, ?_⟩; have n0_ := Aside0.mk (below_step (by repeat (first | (with_reducible first | exact HB.out | apply below_alloc | apply pw_below_drewN | apply below_drew1) | exact HB.out)) hb); clear HB; have HB := n0_; clear n0_; (try clear hb); (try clear hb2); (try clear hk); (try clear hi)))
                                  go_ret
                                  exact ⟨by first | rfl | (simp [errW_none, errW_some] <;> rfl) | (simp [*, errW_none, errW_some] <;> rfl), by repeat (first | (with_reducible first | exact HB.out | apply below_alloc | apply pw_below_drewN | apply below_drew1) | exact HB.out)⟩
                                · rw [if_neg c23] at H
                                  have c23b0 : ((t157 == 7) == (a0 == 39)) = false := by simpa using c23
                                  (try (have c23b1 : decide ((t157 == 7) = (a0 == 39)) = false := by simpa using c23))
                                  (try (have c23b2 : ((t157 == 7) == (a0 == 39)) = false := by simpa using c23))
                                  (try (have c23b3 : ¬ ((t157 == 7) = (a0 == 39)) := by simpa using c23))
                                  clear c23
                                  obtain rfl := Option.some.inj H
                                  go_wp2_with (first | ((with_reducible refine gate_callee (f := 10) rfl ?_); (try (refine gate_guard (by rfl) ?_; dsimp only)); refine goesL_ (some 44) rfl rfl Tryd.func10 (by kernel_rfl) rfl #[.int .u8 a0] rfl (by (try simp only [List.map_toArray, List.map_cons, List.map_nil]); first | done | rfl | (simp only [List.length_drop, List.length_take]; rfl)) ?_; (with_reducible refine (class_Name.calls a0 t158 _ ?side1 A16.out).mono ?_); (case side1 => exact Gl.below HG.out (by repeat (first | (with_reducible first | exact HB.out | apply below_alloc | apply pw_below_drewN | apply below_drew1) | exact HB.out))); rintro e w25 ⟨rfl, hb⟩; refine ⟨_, rfl, ?_⟩; have n0_ := Aside0.mk (below_step (by repeat (first | (with_reducible first | exact HB.out | apply below_alloc | apply pw_below_drewN | apply below_drew1) | exact HB.out)) hb); clear HB; have HB := n0_; clear n0_; (try clear hb); (try clear hb2); (try clear hk); (try clear hi)))
                                  go_ret
                                  exact ⟨by first | rfl | (simp [errW_none, errW_some] <;> rfl) | (simp [*, errW_none, errW_some] <;> rfl), by repeat (first | (with_reducible first | exact HB.out | apply below_alloc | apply pw_below_drewN | apply below_drew1) | exact HB.out)⟩
                              · rw [if_neg c22] at H
                                have c22b0 : ((t157 == 9) == (decide (a0 > 127))) = false := by simpa using c22
                                (try (have c22b1 : decide ((t157 == 9) = (decide (a0 > 127))) = false := by simpa using c22))
                                (try (have c22b2 : ((t157 == 9) == (decide (a0 > 127))) = false := by simpa using c22))
                                (try (have c22b3 : ¬ ((t157 == 9) = (decide (a0 > 127))) := by simpa using c22))
                                clear c22
                                obtain rfl := Option.some.inj H
                                go_wp2_with (first | ((with_reducible refine gate_callee (f := 10) rfl ?_); (try (refine gate_guard (by rfl) ?_; dsimp only)); refine goesL_ (some 44) rfl rfl Tryd.func10 (by kernel_rfl) rfl #[.int .u8 a0] rfl (by (try simp only [List.map_toArray, List.map_cons, List.map_nil]); first | done | rfl | (simp only [List.length_drop, List.length_take]; rfl)) ?_; (with_reducible refine (class_Name.calls a0 t158 _ ?side1 A16.out).mono ?_); (case side1 => exact Gl.below HG.out (by repeat (first | (with_reducible first | exact HB.out | apply below_alloc | apply pw_below_drewN | apply below_drew1) | exact HB.out))); rintro e w26 ⟨rfl, hb⟩; refine ⟨_, rfl, ?_⟩; have n0_ := Aside0.mk (below_step (by repeat (first | (with_reducible first | exact HB.out | apply below_alloc | apply pw_below_drewN | apply below_drew1) | exact HB.out)) hb); clear HB; have HB := n0_; clear n0_; (try clear hb); (try clear hb2); (try clear hk); (try clear hi)))
                                go_ret
                                exact ⟨by first | rfl | (simp [errW_none, errW_some] <;> rfl) | (simp [*, errW_none, errW_some] <;> rfl), by repeat (first | (with_reducible first | exact HB.out | apply below_alloc | apply pw_below_drewN | apply below_drew1) | exact HB.out)⟩
                            · rw [if_neg c21] at H
                              have c21b0 : ((t157 == 4) == x7_10) = false := by simpa using c21
                              (try (have c21b1 : decide ((t157 == 4) = x7_10) = false := by simpa using c21))
                              (try (have c21b2 : ((t157 == 4) == x7_10) = false := by simpa using c21))
                              (try (have c21b3 : ¬ ((t157 == 4) = x7_10) := by simpa using c21))
                              clear c21
                              obtain rfl := Option.some.inj H
                              go_wp2_with (first | ((with_reducible refine gate_callee (f := 10) rfl ?_); (try (refine gate_guard (by rfl) ?_; dsimp only)); refine goesL_ (some 44) rfl rfl Tryd.func10 (by kernel_rfl) rfl #[.int .u8 a0] rfl (by (try simp only [List.map_toArray, List.map_cons, List.map_nil]); first | done | rfl | (simp only [List.length_drop, List.length_take]; rfl)) ?_; (with_reducible refine (class_Name.calls a0 t158 _ ?side1 A16.out).mono ?_); (case side1 => exact Gl.below HG.out (by repeat (first | (with_reducible first | exact HB.out | apply below_alloc | apply pw_below_drewN | apply below_drew1) | exact HB.out))); rintro e w27 ⟨rfl, hb⟩; refine ⟨_, rfl, ?_⟩; have n0_ := Aside0.mk (below_step (by repeat (first | (with_reducible first | exact HB.out | apply below_alloc | apply pw_below_drewN | apply below_drew1) | exact HB.out)) hb); clear HB; have HB := n0_; clear n0_; (try clear hb); (try clear hb2); (try clear hk); (try clear hi)))
                              go_ret
                              exact ⟨by first | rfl | (simp [errW_none, errW_some] <;> rfl) | (simp [*, errW_none, errW_some] <;> rfl), by repeat (first | (with_reducible first | exact HB.out | apply below_alloc | apply pw_below_drewN | apply below_drew1) | exact HB.out)⟩
                          · rw [if_neg c20] at H
                            have c20b0 : ((t157 == 3) == x6_7) = false := by simpa using c20
                            (try (have c20b1 : decide ((t157 == 3) = x6_7) = false := by simpa using c20))
                            (try (have c20b2 : ((t157 == 3) == x6_7) = false := by simpa using c20))
                            (try (have c20b3 : ¬ ((t157 == 3) = x6_7) := by simpa using c20))
                            clear c20
                            obtain rfl := Option.some.inj H
                            go_wp2_with (first | ((with_reducible refine gate_callee (f := 10) rfl ?_); (try (refine gate_guard (by rfl) ?_; dsimp only)); refine goesL_ (some 44) rfl rfl Tryd.func10 (by kernel_rfl) rfl #[.int .u8 a0] rfl (by (try simp only [List.map_toArray, List.map_cons, List.map_nil]); first | done | rfl | (simp only [List.length_drop, List.length_take]; rfl)) ?_; (with_reducible refine (class_Name.calls a0 t158 _ ?side1 A16.out).mono ?_); (case side1 => exact Gl.below HG.out (by repeat (first | (with_reducible first | exact HB.out | apply below_alloc | apply pw_below_drewN | apply below_drew1) | exact HB.out))); rintro e w28 ⟨rfl, hb⟩; refine ⟨_, rfl, ?_⟩; have n0_ := Aside0.mk (below_step (by repeat (first | (with_reducible first | exact HB.out | apply below_alloc | apply pw_below_drewN | apply below_drew1) | exact HB.out)) hb); clear HB; have HB := n0_; clear n0_; (try clear hb); (try clear hb2); (try clear hk); (try clear hi)))
                            go_ret
                            exact ⟨by first | rfl | (simp [errW_none, errW_some] <;> rfl) | (simp [*, errW_none, errW_some] <;> rfl), by repeat (first | (with_reducible first | exact HB.out | apply below_alloc | apply pw_below_drewN | apply below_drew1) | exact HB.out)⟩
                        · rw [if_neg c19] at H
                          have c19b0 : ((t157 == 2) == true) = false := by simpa using c19
                          (try (have c19b1 : decide ((t157 == 2) = true) = false := by simpa using c19))
                          (try (have c19b2 : ((t157 == 2) == true) = false := by simpa using c19))
                          (try (have c19b3 : ¬ ((t157 == 2) = true) := by simpa using c19))
                          clear c19
                          obtain rfl := Option.some.inj H
                          go_wp2_with (first | ((with_reducible refine gate_callee (f := 10) rfl ?_); (try (refine gate_guard (by rfl) ?_; dsimp only)); refine goesL_ (some 44) rfl rfl Tryd.func10 (by kernel_rfl) rfl #[.int .u8 a0] rfl (by (try simp only [List.map_toArray, List.map_cons, List.map_nil]); first | done | rfl | (simp only [List.length_drop, List.length_take]; rfl)) ?_; (with_reducible refine (class_Name.calls a0 t158 _ ?side1 A16.out).mono ?_); (case side1 => exact Gl.below HG.out (by repeat (first | (with_reducible first | exact HB.out | apply below_alloc | apply pw_below_drewN | apply below_drew1) | exact HB.out))); rintro e w29 ⟨rfl, hb⟩; refine ⟨_, rfl, ?_⟩; have n0_ := Aside0.mk (below_step (by repeat (first | (with_reducible first | exact HB.out | apply below_alloc | apply pw_below_drewN | apply below_drew1) | exact HB.out)) hb); clear HB; have HB := n0_; clear n0_; (try clear hb); (try clear hb2); (try clear hk); (try clear hi)))
                          go_ret
                          exact ⟨by first | rfl | (simp [errW_none, errW_some] <;> rfl) | (simp [*, errW_none, errW_some] <;> rfl), by repeat (first | (with_reducible first | exact HB.out | apply below_alloc | apply pw_below_drewN | apply below_drew1) | exact HB.out)⟩
                      · rw [if_neg c18] at H
                        have c18b0 : (t158 == true) = false := by simpa using c18
                        (try (have c18b1 : decide (t158 = true) = false := by simpa using c18))
                        (try (have c18b2 : (t158 == true) = false := by simpa using c18))
                        (try (have c18b3 : ¬ (t158 = true) := by simpa using c18))
                        clear c18
                        obtain rfl := Option.some.inj H
                        go_wp2_with (first | ((with_reducible refine gate_callee (f := 10) rfl ?_); (try (refine gate_guard (by rfl) ?_; dsimp only)); refine goesL_ (some 44) rfl rfl Tryd.func10 (by kernel_rfl) rfl #[.int .u8 a0] rfl (by (try simp only [List.map_toArray, List.map_cons, List.map_nil]); first | done | rfl | (simp only [List.length_drop, List.length_take]; rfl)) ?_; (with_reducible refine (class_Name.calls a0 t158 _ ?side1 A16.out).mono ?_); (case side1 => exact Gl.below HG.out (by repeat (first | (with_reducible first | exact HB.out | apply below_alloc | apply pw_below_drewN | apply below_drew1) | exact HB.out))); rintro e w30 ⟨rfl, hb⟩; refine ⟨_, rfl, ?_⟩; have n0_ := Aside0.mk (below_step (by repeat (first | (with_reducible first | exact HB.out | apply below_alloc | apply pw_below_drewN | apply below_drew1) | exact HB.out)) hb); clear HB; have HB := n0_; clear n0_; (try clear hb); (try clear hb2); (try clear hk); (try clear hi)))
                        go_ret
                        exact ⟨by first | rfl | (simp [errW_none, errW_some] <;> rfl) | (simp [*, errW_none, errW_some] <;> rfl), by repeat (first | (with_reducible first | exact HB.out | apply below_alloc | apply pw_below_drewN | apply below_drew1) | exact HB.out)⟩
                    · replace c17 := Bool.eq_false_iff.mpr c17
                      subst c17
                      have H1 : (if x6_7 = true then (if (t158 == true) = true then (if ((t157 == 2) == false) = true then (if ((t157 == 3) == x6_7) = true then (if ((t157 == 4) == x7_10) = true then (if ((t157 == 9) == (decide (a0 > 127))) = true then (if ((t157 == 7) == (a0 == 39)) = true then (some ((t157 == 8) == (a0 == 37))) else (some false)) else (some false)) else (some false)) else (some false)) else (some false)) else (some false)) else (if (t158 == x7_10) = true then (if ((t157 == 2) == false) = true then (if ((t157 == 3) == x6_7) = true then (if ((t157 == 4) == x7_10) = true then (if ((t157 == 9) == (decide (a0 > 127))) = true then (if ((t157 == 7) == (a0 == 39)) = true then (some ((t157 == 8) == (a0 == 37))) else (some false)) else (some false)) else (some false)) else (some false)) else (some false)) else (some false))) = some r := by rw [if_neg (show ¬ (false = true) by decide)] at H; exact H
                      clear H
                      have H := H1
                      clear H1
                      by_cases c31 : x6_7 = true
                      · subst c31
                        have H1 : (if (t158 == true) = true then (if ((t157 == 2) == false) = true then (if ((t157 == 3) == true) = true then (if ((t157 == 4) == x7_10) = true then (if ((t157 == 9) == (decide (a0 > 127))) = true then (if ((t157 == 7) == (a0 == 39)) = true then (some ((t157 == 8) == (a0 == 37))) else (some false)) else (some false)) else (some false)) else (some false)) else (some false)) else (some false)) = some r := by rw [if_pos rfl] at H; exact H
                        clear H
                        have H := H1
                        clear H1
                        by_cases c32 : (t158 == true) = true
                        · rw [if_pos c32] at H
                          have c32b0 : (t158 == true) = true := c32
                          (try (have c32b1 : decide (t158 = true) = true := by simpa using c32))
                          (try (have c32b2 : (t158 == true) = true := by simpa using c32))
                          clear c32
                          by_cases c33 : ((t157 == 2) == false) = true
                          · rw [if_pos c33] at H
                            have c33b0 : ((t157 == 2) == false) = true := c33
                            (try (have c33b1 : decide ((t157 == 2) = false) = true := by simpa using c33))
                            (try (have c33b2 : ((t157 == 2) == false) = true := by simpa using c33))
                            clear c33
                            by_cases c34 : ((t157 == 3) == true) = true
                            · rw [if_pos c34] at H
                              have c34b0 : ((t157 == 3) == true) = true := c34
                              (try (have c34b1 : decide ((t157 == 3) = true) = true := by simpa using c34))
                              (try (have c34b2 : ((t157 == 3) == true) = true := by simpa using c34))
                              clear c34
                              by_cases c35 : ((t157 == 4) == x7_10) = true
                              · rw [if_pos c35] at H
                                have c35b0 : ((t157 == 4) == x7_10) = true := c35
                                (try (have c35b1 : decide ((t157 == 4) = x7_10) = true := by simpa using c35))
                                (try (have c35b2 : ((t157 == 4) == x7_10) = true := by simpa using c35))
                                clear c35
                                by_cases c36 : ((t157 == 9) == (decide (a0 > 127))) = true
                                · rw [if_pos c36] at H
                                  have c36b0 : ((t157 == 9) == (decide (a0 > 127))) = true := c36
                                  (try (have c36b1 : decide ((t157 == 9) = (decide (a0 > 127))) = true := by simpa using c36))
                                  (try (have c36b2 : ((t157 == 9) == (decide (a0 > 127))) = true := by simpa using c36))
                                  clear c36
                                  by_cases c37 : ((t157 == 7) == (a0 == 39)) = true
                                  · rw [if_pos c37] at H
                                    have c37b0 : ((t157 == 7) == (a0 == 39)) = true := c37
                                    (try (have c37b1 : decide ((t157 == 7) = (a0 == 39)) = true := by simpa using c37))
                                    (try (have c37b2 : ((t157 == 7) == (a0 == 39)) = true := by simpa using c37))
                                    clear c37
                                    obtain rfl := Option.some.inj H
                                    go_wp2_with (first | ((with_reducible refine gate_callee (f := 10) rfl ?_); (try (refine gate_guard (by rfl) ?_; dsimp only)); refine goesL_ (some 44) rfl rfl Tryd.func10 (by kernel_rfl) rfl #[.int .u8 a0] rfl (by (try simp only [List.map_toArray, List.map_cons, List.map_nil]); first | done | rfl | (simp only [List.length_drop, List.length_take]; rfl)) ?_; (with_reducible refine (class_Name.calls a0 t158 _ ?side1 A16.out).mono ?_); (case side1 => exact Gl.below HG.out (by repeat (first | (with_reducible first | exact HB.out | apply below_alloc | apply pw_below_drewN | apply below_drew1) | exact HB.out))); rintro e w38 ⟨rfl, hb⟩; refine ⟨_, rfl, ?_⟩; have n0_ := Aside0.mk (below_step (by repeat (first | (with_reducible first | exact HB.out | apply below_alloc | apply pw_below_drewN | apply below_drew1) | exact HB.out)) hb); clear HB; have HB := n0_; clear n0_; (try clear hb); (try clear hb2); (try clear hk); (try clear hi)))
                                    go_ret
                                    exact ⟨by first | rfl | (simp [errW_none, errW_some] <;> rfl) | (simp [*, errW_none, errW_some] <;> rfl), by repeat (first | (with_reducible first | exact HB.out | apply below_alloc | apply pw_below_drewN | apply below_drew1) | exact HB.out)⟩
                                  · rw [if_neg c37] at H
                                    have c37b0 : ((t157 == 7) == (a0 == 39)) = false := by simpa using c37
                                    (try (have c37b1 : decide ((t157 == 7) = (a0 == 39)) = false := by simpa using c37))
                                    (try (have c37b2 : ((t157 == 7) == (a0 == 39)) = false := by simpa using c37))
                                    (try (have c37b3 : ¬ ((t157 == 7) = (a0 == 39)) := by simpa using c37))
                                    clear c37
                                    obtain rfl := Option.some.inj H
                                    go_wp2_with (first | ((with_reducible refine gate_callee (f := 10) rfl ?_); (try (refine gate_guard (by rfl) ?_; dsimp only)); refine goesL_ (some 44) rfl rfl Tryd.func10 (by kernel_rfl) rfl #[.int .u8 a0] rfl (by (try simp only [List.map_toArray, List.map_cons, List.map_nil]); first | done | rfl | (simp only [List.length_drop, List.length_take]; rfl)) ?_; (with_reducible refine (class_Name.calls a0 t158 _ ?side1 A16.out).mono ?_); (case side1 => exact Gl.below HG.out (by repeat (first | (with_reducible first | exact HB.out | apply below_alloc | apply pw_below_drewN | apply below_drew1) | exact HB.out))); rintro e w39 ⟨rfl, hb⟩; refine ⟨_, rfl, ?_⟩; have n0_ := Aside0.mk (below_step (by repeat (first | (with_reducible first | exact HB.out | apply below_alloc | apply pw_below_drewN | apply below_drew1) | exact HB.out)) hb); clear HB; have HB := n0_; clear n0_; (try clear hb); (try clear hb2); (try clear hk); (try clear hi)))
                                    go_ret
                                    exact ⟨by first | rfl | (simp [errW_none, errW_some] <;> rfl) | (simp [*, errW_none, errW_some] <;> rfl), by repeat (first | (with_reducible first | exact HB.out | apply below_alloc | apply pw_below_drewN | apply below_drew1) | exact HB.out)⟩
                                · rw [if_neg c36] at H
                                  have c36b0 : ((t157 == 9) == (decide (a0 > 127))) = false := by simpa using c36
                                  (try (have c36b1 : decide ((t157 == 9) = (decide (a0 > 127))) = false := by simpa using c36))
                                  (try (have c36b2 : ((t157 == 9) == (decide (a0 > 127))) = false := by simpa using c36))
                                  (try (have c36b3 : ¬ ((t157 == 9) = (decide (a0 > 127))) := by simpa using c36))
                                  clear c36
                                  obtain rfl := Option.some.inj H
                                  go_wp2_with (first | ((with_reducible refine gate_callee (f := 10) rfl ?_); (try (refine gate_guard (by rfl) ?_; dsimp only)); refine goesL_ (some 44) rfl rfl Tryd.func10 (by kernel_rfl) rfl #[.int .u8 a0] rfl (by (try simp only [List.map_toArray, List.map_cons, List.map_nil]); first | done | rfl | (simp only [List.length_drop, List.length_take]; rfl)) ?_; (with_reducible refine (class_Name.calls a0 t158 _ ?side1 A16.out).mono ?_); (case side1 => exact Gl.below HG.out (by repeat (first | (with_reducible first | exact HB.out | apply below_alloc | apply pw_below_drewN | apply below_drew1) | exact HB.out))); rintro e w40 ⟨rfl, hb⟩; refine ⟨_, rfl, ?_⟩; have n0_ := Aside0.mk (below_step (by repeat (first | (with_reducible first | exact HB.out | apply below_alloc | apply pw_below_drewN | apply below_drew1) | exact HB.out)) hb); clear HB; have HB := n0_; clear n0_; (try clear hb); (try clear hb2); (try clear hk); (try clear hi)))
                                  go_ret
                                  exact ⟨by first | rfl | (simp [errW_none, errW_some] <;> rfl) | (simp [*, errW_none, errW_some] <;> rfl), by repeat (first | (with_reducible first | exact HB.out | apply below_alloc | apply pw_below_drewN | apply below_drew1) | exact HB.out)⟩
                              · rw [if_neg c35] at H
                                have c35b0 : ((t157 == 4) == x7_10) = false := by simpa using c35
                                (try (have c35b1 : decide ((t157 == 4) = x7_10) = false := by simpa using c35))
                                (try (have c35b2 : ((t157 == 4) == x7_10) = false := by simpa using c35))
                                (try (have c35b3 : ¬ ((t157 == 4) = x7_10) := by simpa using c35))
                                clear c35
                                obtain rfl := Option.some.inj H
                                go_wp2_with (first | ((with_reducible refine gate_callee (f := 10) rfl ?_); (try (refine gate_guard (by rfl) ?_; dsimp only)); refine goesL_ (some 44) rfl rfl Tryd.func10 (by kernel_rfl) rfl #[.int .u8 a0] rfl (by (try simp only [List.map_toArray, List.map_cons, List.map_nil]); first | done | rfl | (simp only [List.length_drop, List.length_take]; rfl)) ?_; (with_reducible refine (class_Name.calls a0 t158 _ ?side1 A16.out).mono ?_); (case side1 => exact Gl.below HG.out (by repeat (first | (with_reducible first | exact HB.out | apply below_alloc | apply pw_below_drewN | apply below_drew1) | exact HB.out))); rintro e w41 ⟨rfl, hb⟩; refine ⟨_, rfl, ?_⟩; have n0_ := Aside0.mk (below_step (by repeat (first | (with_reducible first | exact HB.out | apply below_alloc | apply pw_below_drewN | apply below_drew1) | exact HB.out)) hb); clear HB; have HB := n0_; clear n0_; (try clear hb); (try clear hb2); (try clear hk); (try clear hi)))
                                go_ret
                                exact ⟨by first | rfl | (simp [errW_none, errW_some] <;> rfl) | (simp [*, errW_none, errW_some] <;> rfl), by repeat (first | (with_reducible first | exact HB.out | apply below_alloc | apply pw_below_drewN | apply below_drew1) | exact HB.out)⟩
                            · rw [if_neg c34] at H
                              have c34b0 : ((t157 == 3) == true) = false := by simpa using c34
                              (try (have c34b1 : decide ((t157 == 3) = true) = false := by simpa using c34))
                              (try (have c34b2 : ((t157 == 3) == true) = false := by simpa using c34))
                              (try (have c34b3 : ¬ ((t157 == 3) = true) := by simpa using c34))
                              clear c34
                              obtain rfl := Option.some.inj H
                              go_wp2_with (first | ((with_reducible refine gate_callee (f := 10) rfl ?_); (try (refine gate_guard (by rfl) ?_; dsimp only)); refine goesL_ (some 44) rfl rfl Tryd.func10 (by kernel_rfl) rfl #[.int .u8 a0] rfl (by (try simp only [List.map_toArray, List.map_cons, List.map_nil]); first | done | rfl | (simp only [List.length_drop, List.length_take]; rfl)) ?_; (with_reducible refine (class_Name.calls a0 t158 _ ?side1 A16.out).mono ?_); (case side1 => exact Gl.below HG.out (by repeat (first | (with_reducible first | exact HB.out | apply below_alloc | apply pw_below_drewN | apply below_drew1) | exact HB.out))); rintro e w42 ⟨rfl, hb⟩; refine ⟨_, rfl, ?_⟩; have n0_ := Aside0.mk (below_step (by repeat (first | (with_reducible first | exact HB.out | apply below_alloc | apply pw_below_drewN | apply below_drew1) | exact HB.out)) hb); clear HB; have HB := n0_; clear n0_; (try clear hb); (try clear hb2); (try clear hk); (try clear hi)))
                              go_ret
                              exact ⟨by first | rfl | (simp [errW_none, errW_some] <;> rfl) | (simp [*, errW_none, errW_some] <;> rfl), by repeat (first | (with_reducible first | exact HB.out | apply below_alloc | apply pw_below_drewN | apply below_drew1) | exact HB.out)⟩
                          · rw [if_neg c33] at H
                            have c33b0 : ((t157 == 2) == false) = false := by simpa using c33
                            (try (have c33b1 : decide ((t157 == 2) = false) = false := by simpa using c33))
                            (try (have c33b2 : ((t157 == 2) == false) = false := by simpa using c33))
                            (try (have c33b3 : ¬ ((t157 == 2) = false) := by simpa using c33))
                            clear c33
                            obtain rfl := Option.some.inj H
                            go_wp2_with (first | ((with_reducible refine gate_callee (f := 10) rfl ?_); (try (refine gate_guard (by rfl) ?_; dsimp only)); refine goesL_ (some 44) rfl rfl Tryd.func10 (by kernel_rfl) rfl #[.int .u8 a0] rfl (by (try simp only [List.map_toArray, List.map_cons, List.map_nil]); first | done | rfl | (simp only [List.length_drop, List.length_take]; rfl)) ?_; (with_reducible refine (class_Name.calls a0 t158 _ ?side1 A16.out).mono ?_); (case side1 => exact Gl.below HG.out (by repeat (first | (with_reducible first | exact HB.out | apply below_alloc | apply pw_below_drewN | apply below_drew1) | exact HB.out))); rintro e w43 ⟨rfl, hb⟩; refine ⟨_, rfl, ?_⟩; have n0_ := Aside0.mk (below_step (by repeat (first | (with_reducible first | exact HB.out | apply below_alloc | apply pw_below_drewN | apply below_drew1) | exact HB.out)) hb); clear HB; have HB := n0_; clear n0_; (try clear hb); (try clear hb2); (try clear hk); (try clear hi)))
                            go_ret
                            exact ⟨by first | rfl | (simp [errW_none, errW_some] <;> rfl) | (simp [*, errW_none, errW_some] <;> rfl), by repeat (first | (with_reducible first | exact HB.out | apply below_alloc | apply pw_below_drewN | apply below_drew1) | exact HB.out)⟩
                        · rw [if_neg c32] at H
                          have c32b0 : (t158 == true) = false := by simpa using c32
                          (try (have c32b1 : decide (t158 = true) = false := by simpa using c32))
                          (try (have c32b2 : (t158 == true) = false := by simpa using c32))
                          (try (have c32b3 : ¬ (t158 = true) := by simpa using c32))
                          clear c32
                          obtain rfl := Option.some.inj H
                          go_wp2_with (first | ((with_reducible refine gate_callee (f := 10) rfl ?_); (try (refine gate_guard (by rfl) ?_; dsimp only)); refine goesL_ (some 44) rfl rfl Tryd.func10 (by kernel_rfl) rfl #[.int .u8 a0] rfl (by (try simp only [List.map_toArray, List.map_cons, List.map_nil]); first | done | rfl | (simp only [List.length_drop, List.length_take]; rfl)) ?_; (with_reducible refine (class_Name.calls a0 t158 _ ?side1 A16.out).mono ?_); (case side1 => exact Gl.below HG.out (by repeat (first | (with_reducible first | exact HB.out | apply below_alloc | apply pw_below_drewN | apply below_drew1) | exact HB.out))); rintro e w44 ⟨rfl, hb⟩; refine ⟨_, rfl, ?_⟩; have n0_ := Aside0.mk (below_step (by repeat (first | (with_reducible first | exact HB.out | apply below_alloc | apply pw_below_drewN | apply below_drew1) | exact HB.out)) hb); clear HB; have HB := n0_; clear n0_; (try clear hb); (try clear hb2); (try clear hk); (try clear hi)))
                          go_ret
                          exact ⟨by first | rfl | (simp [errW_none, errW_some] <;> rfl) | (simp [*, errW_none, errW_some] <;> rfl), by repeat (first | (with_reducible first | exact HB.out | apply below_alloc | apply pw_below_drewN | apply below_drew1) | exact HB.out)⟩
                      · replace c31 := Bool.eq_false_iff.mpr c31
                        subst c31
                        have H1 : (if (t158 == x7_10) = true then (if ((t157 == 2) == false) = true then (if ((t157 == 3) == false) = true then (if ((t157 == 4) == x7_10) = true then (if ((t157 == 9) == (decide (a0 > 127))) = true then (if ((t157 == 7) == (a0 == 39)) = true then (some ((t157 == 8) == (a0 == 37))) else (some false)) else (some false)) else (some false)) else (some false)) else (some false)) else (some false)) = some r := by rw [if_neg (show ¬ (false = true) by decide)] at H; exact H
                        clear H
                        have H := H1
                        clear H1
                        by_cases c45 : (t158 == x7_10) = true
                        · rw [if_pos c45] at H
                          have c45b0 : (t158 == x7_10) = true := c45
                          (try (have c45b1 : decide (t158 = x7_10) = true := by simpa using c45))
                          (try (have c45b2 : (t158 == x7_10) = true := by simpa using c45))
                          clear c45
                          by_cases c46 : ((t157 == 2) == false) = true
                          · rw [if_pos c46] at H
                            have c46b0 : ((t157 == 2) == false) = true := c46
                            (try (have c46b1 : decide ((t157 == 2) = false) = true := by simpa using c46))
                            (try (have c46b2 : ((t157 == 2) == false) = true := by simpa using c46))
                            clear c46
                            by_cases c47 : ((t157 == 3) == false) = true
                            · rw [if_pos c47] at H
                              have c47b0 : ((t157 == 3) == false) = true := c47
                              (try (have c47b1 : decide ((t157 == 3) = false) = true := by simpa using c47))
                              (try (have c47b2 : ((t157 == 3) == false) = true := by simpa using c47))
                              clear c47
                              by_cases c48 : ((t157 == 4) == x7_10) = true
                              · rw [if_pos c48] at H
                                have c48b0 : ((t157 == 4) == x7_10) = true := c48
                                (try (have c48b1 : decide ((t157 == 4) = x7_10) = true := by simpa using c48))
                                (try (have c48b2 : ((t157 == 4) == x7_10) = true := by simpa using c48))
                                clear c48
                                by_cases c49 : ((t157 == 9) == (decide (a0 > 127))) = true
                                · rw [if_pos c49] at H
                                  have c49b0 : ((t157 == 9) == (decide (a0 > 127))) = true := c49
                                  (try (have c49b1 : decide ((t157 == 9) = (decide (a0 > 127))) = true := by simpa using c49))
                                  (try (have c49b2 : ((t157 == 9) == (decide (a0 > 127))) = true := by simpa using c49))
                                  clear c49
                                  by_cases c50 : ((t157 == 7) == (a0 == 39)) = true
                                  · rw [if_pos c50] at H
                                    have c50b0 : ((t157 == 7) == (a0 == 39)) = true := c50
                                    (try (have c50b1 : decide ((t157 == 7) = (a0 == 39)) = true := by simpa using c50))
                                    (try (have c50b2 : ((t157 == 7) == (a0 == 39)) = true := by simpa using c50))
                                    clear c50
                                    obtain rfl := Option.some.inj H
                                    go_wp2_with (first | ((with_reducible refine gate_callee (f := 10) rfl ?_); (try (refine gate_guard (by rfl) ?_; dsimp only)); refine goesL_ (some 44) rfl rfl Tryd.func10 (by kernel_rfl) rfl #[.int .u8 a0] rfl (by (try simp only [List.map_toArray, List.map_cons, List.map_nil]); first | done | rfl | (simp only [List.length_drop, List.length_take]; rfl)) ?_; (with_reducible refine (class_Name.calls a0 t158 _ ?side1 A16.out).mono ?_); (case side1 => exact Gl.below HG.out (by repeat (first | (with_reducible first | exact HB.out | apply below_alloc | apply pw_below_drewN | apply below_drew1) | exact HB.out))); rintro e w51 ⟨rfl, hb⟩; refine ⟨_, rfl, ?_⟩; have n0_ := Aside0.mk (below_step (by repeat (first | (with_reducible first | exact HB.out | apply below_alloc | apply pw_below_drewN | apply below_drew1) | exact HB.out)) hb); clear HB; have HB := n0_; clear n0_; (try clear hb); (try clear hb2); (try clear hk); (try clear hi)))
                                    go_ret
                                    exact ⟨by first | rfl | (simp [errW_none, errW_some] <;> rfl) | (simp [*, errW_none, errW_some] <;> rfl), by repeat (first | (with_reducible first | exact HB.out | apply below_alloc | apply pw_below_drewN | apply below_drew1) | exact HB.out)⟩
                                  · rw [if_neg c50] at H
                                    have c50b0 : ((t157 == 7) == (a0 == 39)) = false := by simpa using c50
                                    (try (have c50b1 : decide ((t157 == 7) = (a0 == 39)) = false := by simpa using c50))
                                    (try (have c50b2 : ((t157 == 7) == (a0 == 39)) = false := by simpa using c50))
                                    (try (have c50b3 : ¬ ((t157 == 7) = (a0 == 39)) := by simpa using c50))
                                    clear c50
                                    obtain rfl := Option.some.inj H
                                    go_wp2_with (first | ((with_reducible refine gate_callee (f := 10) rfl ?_); (try (refine gate_guard (by rfl) ?_; dsimp only)); refine goesL_ (some 44) rfl rfl Tryd.func10 (by kernel_rfl) rfl #[.int .u8 a0] rfl (by (try simp only [List.map_toArray, List.map_cons, List.map_nil]); first | done | rfl | (simp only [List.length_drop, List.length_take]; rfl)) ?_; (with_reducible refine (class_Name.calls a0 t158 _ ?side1 A16.out).mono ?_); (case side1 => exact Gl.below HG.out (by repeat (first | (with_reducible first | exact HB.out | apply below_alloc | apply pw_below_drewN | apply below_drew1) | exact HB.out))); rintro e w52 ⟨rfl, hb⟩; refine ⟨_, rfl, ?_⟩; have n0_ := Aside0.mk (below_step (by repeat (first | (with_reducible first | exact HB.out | apply below_alloc | apply pw_below_drewN | apply below_drew1) | exact HB.out)) hb); clear HB; have HB := n0_; clear n0_; (try clear hb); (try clear hb2); (try clear hk); (try clear hi)))
                                    go_ret
                                    exact ⟨by first | rfl | (simp [errW_none, errW_some] <;> rfl) | (simp [*, errW_none, errW_some] <;> rfl), by repeat (first | (with_reducible first | exact HB.out | apply below_alloc | apply pw_below_drewN | apply below_drew1) | exact HB.out)⟩
                                · rw [if_neg c49] at H
                                  have c49b0 : ((t157 == 9) == (decide (a0 > 127))) = false := by simpa using c49
                                  (try (have c49b1 : decide ((t157 == 9) = (decide (a0 > 127))) = false := by simpa using c49))
                                  (try (have c49b2 : ((t157 == 9) == (decide (a0 > 127))) = false := by simpa using c49))
                                  (try (have c49b3 : ¬ ((t157 == 9) = (decide (a0 > 127))) := by simpa using c49))
                                  clear c49
                                  obtain rfl := Option.some.inj H
                                  go_wp2_with (first | ((with_reducible refine gate_callee (f := 10) rfl ?_); (try (refine gate_guard (by rfl) ?_; dsimp only)); refine goesL_ (some 44) rfl rfl Tryd.func10 (by kernel_rfl) rfl #[.int .u8 a0] rfl (by (try simp only [List.map_toArray, List.map_cons, List.map_nil]); first | done | rfl | (simp only [List.length_drop, List.length_take]; rfl)) ?_; (with_reducible refine (class_Name.calls a0 t158 _ ?side1 A16.out).mono ?_); (case side1 => exact Gl.below HG.out (by repeat (first | (with_reducible first | exact HB.out | apply below_alloc | apply pw_below_drewN | apply below_drew1) | exact HB.out))); rintro e w53 ⟨rfl, hb⟩; refine ⟨_, rfl, ?_⟩; have n0_ := Aside0.mk (below_step (by repeat (first | (with_reducible first | exact HB.out | apply below_alloc | apply pw_below_drewN | apply below_drew1) | exact HB.out)) hb); clear HB; have HB := n0_; clear n0_; (try clear hb); (try clear hb2); (try clear hk); (try clear hi)))
                                  go_ret
                                  exact ⟨by first | rfl | (simp [errW_none, errW_some] <;> rfl) | (simp [*, errW_none, errW_some] <;> rfl), by repeat (first | (with_reducible first | exact HB.out | apply below_alloc | apply pw_below_drewN | apply below_drew1) | exact HB.out)⟩
                              · rw [if_neg c48] at H
                                have c48b0 : ((t157 == 4) == x7_10) = false := by simpa using c48
                                (try (have c48b1 : decide ((t157 == 4) = x7_10) = false := by simpa using c48))
                                (try (have c48b2 : ((t157 == 4) == x7_10) = false := by simpa using c48))
                                (try (have c48b3 : ¬ ((t157 == 4) = x7_10) := by simpa using c48))
                                clear c48
                                obtain rfl := Option.some.inj H
                                go_wp2_with (first | ((with_reducible refine gate_callee (f := 10) rfl ?_); (try (refine gate_guard (by rfl) ?_; dsimp only)); refine goesL_ (some 44) rfl rfl Tryd.func10 (by kernel_rfl) rfl #[.int .u8 a0] rfl (by (try simp only [List.map_toArray, List.map_cons, List.map_nil]); first | done | rfl | (simp only [List.length_drop, List.length_take]; rfl)) ?_; (with_reducible refine (class_Name.calls a0 t158 _ ?side1 A16.out).mono ?_); (case side1 => exact Gl.below HG.out (by repeat (first | (with_reducible first | exact HB.out | apply below_alloc | apply pw_below_drewN | apply below_drew1) | exact HB.out))); rintro e w54 ⟨rfl, hb⟩; refine ⟨_, rfl, ?_⟩; have n0_ := Aside0.mk (below_step (by repeat (first | (with_reducible first | exact HB.out | apply below_alloc | apply pw_below_drewN | apply below_drew1) | exact HB.out)) hb); clear HB; have HB := n0_; clear n0_; (try clear hb); (try clear hb2); (try clear hk); (try clear hi)))
                                go_ret
                                exact ⟨by first | rfl | (simp [errW_none, errW_some] <;> rfl) | (simp [*, errW_none, errW_some] <;> rfl), by repeat (first | (with_reducible first | exact HB.out | apply below_alloc | apply pw_below_drewN | apply below_drew1) | exact HB.out)⟩
                            · rw [if_neg c47] at H
                              have c47b0 : ((t157 == 3) == false) = false := by simpa using c47
                              (try (have c47b1 : decide ((t157 == 3) = false) = false := by simpa using c47))
                              (try (have c47b2 : ((t157 == 3) == false) = false := by simpa using c47))
                              (try (have c47b3 : ¬ ((t157 == 3) = false) := by simpa using c47))
                              clear c47
                              obtain rfl := Option.some.inj H
                              go_wp2_with (first | ((with_reducible refine gate_callee (f := 10) rfl ?_); (try (refine gate_guard (by rfl) ?_; dsimp only)); refine goesL_ (some 44) rfl rfl Tryd.func10 (by kernel_rfl) rfl #[.int .u8 a0] rfl (by (try simp only [List.map_toArray, List.map_cons, List.map_nil]); first | done | rfl | (simp only [List.length_drop, List.length_take]; rfl)) ?_; (with_reducible refine (class_Name.calls a0 t158 _ ?side1 A16.out).mono ?_); (case side1 => exact Gl.below HG.out (by repeat (first | (with_reducible first | exact HB.out | apply below_alloc | apply pw_below_drewN | apply below_drew1) | exact HB.out))); rintro e w55 ⟨rfl, hb⟩; refine ⟨_, rfl, ?_⟩; have n0_ := Aside0.mk (below_step (by repeat (first | (with_reducible first | exact HB.out | apply below_alloc | apply pw_below_drewN | apply below_drew1) | exact HB.out)) hb); clear HB; have HB := n0_; clear n0_; (try clear hb); (try clear hb2); (try clear hk); (try clear hi)))
                              go_ret
                              exact ⟨by first | rfl | (simp [errW_none, errW_some] <;> rfl) | (simp [*, errW_none, errW_some] <;> rfl), by repeat (first | (with_reducible first | exact HB.out | apply below_alloc | apply pw_below_drewN | apply below_drew1) | exact HB.out)⟩
                          · rw [if_neg c46] at H
                            have c46b0 : ((t157 == 2) == false) = false := by simpa using c46
                            (try (have c46b1 : decide ((t157 == 2) = false) = false := by simpa using c46))
                            (try (have c46b2 : ((t157 == 2) == false) = false := by simpa using c46))
                            (try (have c46b3 : ¬ ((t157 == 2) = false) := by simpa using c46))
                            clear c46
                            obtain rfl := Option.some.inj H
                            go_wp2_with (first | ((with_reducible refine gate_callee (f := 10) rfl ?_); (try (refine gate_guard (by rfl) ?_; dsimp only)); refine goesL_ (some 44) rfl rfl Tryd.func10 (by kernel_rfl) rfl #[.int .u8 a0] rfl (by (try simp only [List.map_toArray, List.map_cons, List.map_nil]); first | done | rfl | (simp only [List.length_drop, List.length_take]; rfl)) ?_; (with_reducible refine (class_Name.calls a0 t158 _ ?side1 A16.out).mono ?_); (case side1 => exact Gl.below HG.out (by repeat (first | (with_reducible first | exact HB.out | apply below_alloc | apply pw_below_drewN | apply below_drew1) | exact HB.out))); rintro e w56 ⟨rfl, hb⟩; refine ⟨_, rfl, ?_⟩; have n0_ := Aside0.mk (below_step (by repeat (first | (with_reducible first | exact HB.out | apply below_alloc | apply pw_below_drewN | apply below_drew1) | exact HB.out)) hb); clear HB; have HB := n0_; clear n0_; (try clear hb); (try clear hb2); (try clear hk); (try clear hi)))
                            go_ret
                            exact ⟨by first | rfl | (simp [errW_none, errW_some] <;> rfl) | (simp [*, errW_none, errW_some] <;> rfl), by repeat (first | (with_reducible first | exact HB.out | apply below_alloc | apply pw_below_drewN | apply below_drew1) | exact HB.out)⟩
                        · rw [if_neg c45] at H
                          have c45b0 : (t158 == x7_10) = false := by simpa using c45
                          (try (have c45b1 : decide (t158 = x7_10) = false := by simpa using c45))
                          (try (have c45b2 : (t158 == x7_10) = false := by simpa using c45))
                          (try (have c45b3 : ¬ (t158 = x7_10) := by simpa using c45))
                          clear c45
                          obtain rfl := Option.some.inj H
                          go_wp2_with (first | ((with_reducible refine gate_callee (f := 10) rfl ?_); (try (refine gate_guard (by rfl) ?_; dsimp only)); refine goesL_ (some 44) rfl rfl Tryd.func10 (by kernel_rfl) rfl #[.int .u8 a0] rfl (by (try simp only [List.map_toArray, List.map_cons, List.map_nil]); first | done | rfl | (simp only [List.length_drop, List.length_take]; rfl)) ?_; (with_reducible refine (class_Name.calls a0 t158 _ ?side1 A16.out).mono ?_); (case side1 => exact Gl.below HG.out (by repeat (first | (with_reducible first | exact HB.out | apply below_alloc | apply pw_below_drewN | apply below_drew1) | exact HB.out))); rintro e w57 ⟨rfl, hb⟩; refine ⟨_, rfl, ?_⟩; have n0_ := Aside0.mk (below_step (by repeat (first | (with_reducible first | exact HB.out | apply below_alloc | apply pw_below_drewN | apply below_drew1) | exact HB.out)) hb); clear HB; have HB := n0_; clear n0_; (try clear hb); (try clear hb2); (try clear hk); (try clear hi)))
                          go_ret
                          exact ⟨by first | rfl | (simp [errW_none, errW_some] <;> rfl) | (simp [*, errW_none, errW_some] <;> rfl), by repeat (first | (with_reducible first | exact HB.out | apply below_alloc | apply pw_below_drewN | apply below_drew1) | exact HB.out)⟩
                  · rw [if_neg c15] at H
                    have c15b0 : decide (t157 ≤ 9) = false := decide_eq_false c15
                    clear c15
                    obtain rfl := Option.some.inj H
                    go_wp2
                    go_ret
                    exact ⟨by first | rfl | (simp [errW_none, errW_some] <;> rfl) | (simp [*, errW_none, errW_some] <;> rfl), by repeat (first | (with_reducible first | exact HB.out | apply below_alloc | apply pw_below_drewN | apply below_drew1) | exact HB.out)⟩
                · rw [if_neg c14] at H
                  have c14b0 : decide (0 ≤ t157) = false := decide_eq_false c14
                  clear c14
                  obtain rfl := Option.some.inj H
                  go_wp2
                  go_ret
                  exact ⟨by first | rfl | (simp [errW_none, errW_some] <;> rfl) | (simp [*, errW_none, errW_some] <;> rfl), by repeat (first | (with_reducible first | exact HB.out | apply below_alloc | apply pw_below_drewN | apply below_drew1) | exact HB.out)⟩
              · replace c13 := Bool.eq_false_iff.mpr c13
                subst c13
                have H1 : (some false) = some r := by rw [if_neg (show ¬ (false = true) by decide)] at H; exact H
                clear H
                have H := H1
                clear H1
                obtain rfl := Option.some.inj H
                go_wp2
                go_ret
                exact ⟨by first | rfl | (simp [errW_none, errW_some] <;> rfl) | (simp [*, errW_none, errW_some] <;> rfl), by repeat (first | (with_reducible first | exact HB.out | apply below_alloc | apply pw_below_drewN | apply below_drew1) | exact HB.out)⟩

/-- THE ONE PURE STATEMENT of tmesislaw02_ClassNames: yours. -/
def tmesislaw02_ClassNames.Pure : Prop := ∀ (a0 : Int), (Lit.int .u8 a0).wf = true → ∃ k, tmesislaw02_ClassNames.f k a0 = some true
theorem tmesislaw02_ClassNames.walk (P : tmesislaw02_ClassNames.Pure) (a0 : Int) (w : World) (hG : Gl w) (w0 : (Lit.int .u8 a0).wf = true) :
    Calls Tryd.prog 5 #[.int .u8 a0] w fun e w' => e = .returned (.bool true) ∧ Below w.heap.size w w' := by
  obtain ⟨k, h⟩ := P a0 w0
  refine (tmesislaw02_ClassNames.calls k a0 true w hG h).mono ?_
  rintro e w' ⟨rfl, hd⟩
  exact ⟨rfl, hd⟩

-- NOT PRINTED: function 6 (tmesislaw02_ClassCount)

end Go.Proofs.YtihgfoekjelkbaaDoor.P
