-- Written by a program of this session (wip/xprint.py), out of the translation.
import Derived.Test.YtfmhhjimnhfbaaaDoorPx0
import Derived.Test.YtfmhhjimnhfbaaaDoorPx3
import Derived.Test.YtfmhhjimnhfbaaaDoorHG
namespace Go.Proofs.YtfmhhjimnhfbaaaDoor.P
open Go.RowKit Go.Proofs.YtfmhhjimnhfbaaaDoorW.PrintWords Go.Proofs.YtfmhhjimnhfbaaaDoorW.PrintLast Go.Proofs.YtfmhhjimnhfbaaaDoorW.PrintMore
attribute [local go_sem] max2_int min2_int max_two min_two max_three min_three max_four min_four   -- for this text's walks alone
set_option linter.unusedVariables false
set_option linter.unusedSimpArgs false

/-! ### tmesislaw05_LayoutEnds: function 4 -/
mutual
def tmesislaw05_LayoutEnds.j0 : Nat → List Int → Int → Int → Bool → Option (Bool)
  | 0, _, _, _, _ => none
  | k + 1, x4, x5, x6, x29 => if x29 = true then (some false) else (if 0 ≤ x5 then (if x5 ≤ (x4.length : Int) then ((layout_Skip.f k (x4.drop (x5 : Int).toNat)).bind fun bt164 => (if bt164.1 = 0 then (tmesislaw05_LayoutEnds.j1 k x4 x5 x6 (bt164.2 != x6)) else (tmesislaw05_LayoutEnds.j1 k x4 x5 x6 true))) else (none)) else (none))
def tmesislaw05_LayoutEnds.j1 : Nat → List Int → Int → Int → Bool → Option (Bool)
  | 0, _, _, _, _ => none
  | k + 1, x4, x5, x6, x43 => if x43 = true then (some false) else (if 0 ≤ x5 then (if x5 ≤ (mn (wrap64 (x5 + 2)) (x4.length : Int)) then (if (mn (wrap64 (x5 + 2)) (x4.length : Int)) ≤ (x4.length : Int) then ((some ((x4.take ((mn (wrap64 (x5 + 2)) (x4.length : Int)) : Int).toNat).drop (x5 : Int).toNat : List Int)).bind fun y166 => (if x6 = 14 then (some ((strOfNums y166).toList == ([47, 42] : List UInt8))) else (if x6 = 0 then (if x5 = (x4.length : Int) then (some true) else (if x5 < (x4.length : Int) then (if (rd x4 x5) = 37 then (some false) else (if (rd x4 x5) = 32 then (some false) else (if (rd x4 x5) = 9 then (some false) else (if (rd x4 x5) = 10 then (some false) else (if (rd x4 x5) = 13 then (some false) else (some ((strOfNums y166).toList != ([47, 42] : List UInt8)))))))) else (none))) else (some false)))) else (none)) else (none)) else (none))
end
def tmesislaw05_LayoutEnds.f (k : Nat) (l0 : List Int) : Option (Bool) := (tmesislaw05_shown.f k).bind fun t153 => ((tmesislaw05_few.f l0).bind fun t154 => ((layout_Skip.f k t154).bind fun bt157 => (if t153 = true then (if bt157.1 < 0 then (tmesislaw05_LayoutEnds.j0 k t154 bt157.1 bt157.2 true) else (tmesislaw05_LayoutEnds.j0 k t154 bt157.1 bt157.2 (decide (bt157.1 > (t154.length : Int))))) else (tmesislaw05_LayoutEnds.j0 k t154 bt157.1 bt157.2 true))))
theorem tmesislaw05_LayoutEnds.mono_l : ∀ k, (∀ y0 y1 y2 y3, LeO (tmesislaw05_LayoutEnds.j0 k y0 y1 y2 y3) (tmesislaw05_LayoutEnds.j0 (k + 1) y0 y1 y2 y3)) ∧ (∀ y0 y1 y2 y3, LeO (tmesislaw05_LayoutEnds.j1 k y0 y1 y2 y3) (tmesislaw05_LayoutEnds.j1 (k + 1) y0 y1 y2 y3))
  | 0 => ⟨fun _ _ _ _ r h => by simp [tmesislaw05_LayoutEnds.j0] at h, fun _ _ _ _ r h => by simp [tmesislaw05_LayoutEnds.j1] at h⟩
  | k + 1 => by
    obtain ⟨ih0, ih1⟩ := tmesislaw05_LayoutEnds.mono_l k
    refine ⟨?_, ?_⟩
    · intro y0 y1 y2 y3
      unfold tmesislaw05_LayoutEnds.j0
      repeat' first
      | (with_reducible exact ih0 _ _ _ _)
      | (with_reducible exact ih1 _ _ _ _)
      | (with_reducible exact layout_Skip.mono _ _)
      | (with_reducible exact tmesislaw05_shown.mono _)
      | (with_reducible exact LeO.refl _)
      | (with_reducible exact LeO.none _)
      | (with_reducible refine LeO.ite ?_ ?_)
      | (with_reducible refine LeO.bind ?_ (fun _ => ?_))
      | exact ih0 _ _ _ _
      | exact ih1 _ _ _ _
      | exact layout_Skip.mono _ _
      | exact tmesislaw05_shown.mono _
      | exact LeO.none _
      | refine LeO.ite ?_ ?_
      | refine LeO.bind ?_ (fun _ => ?_)
    · intro y0 y1 y2 y3
      unfold tmesislaw05_LayoutEnds.j1
      repeat' first
      | (with_reducible exact ih0 _ _ _ _)
      | (with_reducible exact ih1 _ _ _ _)
      | (with_reducible exact layout_Skip.mono _ _)
      | (with_reducible exact tmesislaw05_shown.mono _)
      | (with_reducible exact LeO.refl _)
      | (with_reducible exact LeO.none _)
      | (with_reducible refine LeO.ite ?_ ?_)
      | (with_reducible refine LeO.bind ?_ (fun _ => ?_))
      | exact ih0 _ _ _ _
      | exact ih1 _ _ _ _
      | exact layout_Skip.mono _ _
      | exact tmesislaw05_shown.mono _
      | exact LeO.none _
      | refine LeO.ite ?_ ?_
      | refine LeO.bind ?_ (fun _ => ?_)
theorem tmesislaw05_LayoutEnds.mono : ∀ a0 k, LeO (tmesislaw05_LayoutEnds.f k a0) (tmesislaw05_LayoutEnds.f (k + 1) a0) := by
  intro a0 k
  obtain ⟨ih0, ih1⟩ := tmesislaw05_LayoutEnds.mono_l k
  unfold tmesislaw05_LayoutEnds.f
  repeat' first
      | (with_reducible exact ih0 _ _ _ _)
      | (with_reducible exact ih1 _ _ _ _)
      | (with_reducible exact layout_Skip.mono _ _)
      | (with_reducible exact tmesislaw05_shown.mono _)
      | (with_reducible exact LeO.refl _)
      | (with_reducible exact LeO.none _)
      | (with_reducible refine LeO.ite ?_ ?_)
      | (with_reducible refine LeO.bind ?_ (fun _ => ?_))
      | exact ih0 _ _ _ _
      | exact ih1 _ _ _ _
      | exact layout_Skip.mono _ _
      | exact tmesislaw05_shown.mono _
      | exact LeO.none _
      | refine LeO.ite ?_ ?_
      | refine LeO.bind ?_ (fun _ => ?_)
set_option maxHeartbeats 8000000 in
set_option maxRecDepth 100000 in
theorem tmesislaw05_LayoutEnds.calls (k : Nat) (A0 : Option Addr) (c0 : Nat) (l0 : List Int) (r : Bool) (w : World) (hG : Gl w) (hr0 : Kd.C (Kd.int .u8) w A0 l0.length l0) (hc0 : l0.length ≤ c0) (h : tmesislaw05_LayoutEnds.f k l0 = some r) :
    Calls Tryd.prog 4 #[.slice A0 l0.length c0] w fun e w' => e = .returned (.bool r) ∧ Below w.heap.size w w' := by
  have HR0 := Aside0.mk hr0
  have HC0 := Aside0.mk hc0
  clear hr0 hc0
  have HB := Aside0.mk (Below.refl w.heap.size w)
  have HG := Aside0.mk hG
  clear hG
  have H : ((tmesislaw05_shown.f k).bind fun t153 => ((tmesislaw05_few.f l0).bind fun t154 => ((layout_Skip.f k t154).bind fun bt157 => (if t153 = true then (if bt157.1 < 0 then (tmesislaw05_LayoutEnds.j0 k t154 bt157.1 bt157.2 true) else (tmesislaw05_LayoutEnds.j0 k t154 bt157.1 bt157.2 (decide (bt157.1 > (t154.length : Int))))) else (tmesislaw05_LayoutEnds.j0 k t154 bt157.1 bt157.2 true))))) = some r := h
  clear h
  replace H := Option.bind_eq_some_iff.mp H
  obtain ⟨t153, A20, H⟩ := H
  replace H : ((tmesislaw05_few.f l0).bind fun t154 => ((layout_Skip.f k t154).bind fun bt157 => (if t153 = true then (if bt157.1 < 0 then (tmesislaw05_LayoutEnds.j0 k t154 bt157.1 bt157.2 true) else (tmesislaw05_LayoutEnds.j0 k t154 bt157.1 bt157.2 (decide (bt157.1 > (t154.length : Int))))) else (tmesislaw05_LayoutEnds.j0 k t154 bt157.1 bt157.2 true)))) = some r := H
  have A2 := Aside0.mk A20
  clear A20
  replace H := Option.bind_eq_some_iff.mp H
  obtain ⟨t154, A30, H⟩ := H
  replace H : ((layout_Skip.f k t154).bind fun bt157 => (if t153 = true then (if bt157.1 < 0 then (tmesislaw05_LayoutEnds.j0 k t154 bt157.1 bt157.2 true) else (tmesislaw05_LayoutEnds.j0 k t154 bt157.1 bt157.2 (decide (bt157.1 > (t154.length : Int))))) else (tmesislaw05_LayoutEnds.j0 k t154 bt157.1 bt157.2 true))) = some r := H
  have A3 := Aside0.mk A30
  clear A30
  replace H := Option.bind_eq_some_iff.mp H
  obtain ⟨⟨t157, t158⟩, A40, H⟩ := H
  replace H : (if t153 = true then (if t157 < 0 then (tmesislaw05_LayoutEnds.j0 k t154 t157 t158 true) else (tmesislaw05_LayoutEnds.j0 k t154 t157 t158 (decide (t157 > (t154.length : Int))))) else (tmesislaw05_LayoutEnds.j0 k t154 t157 t158 true)) = some r := H
  have A4 := Aside0.mk A40
  clear A40
  have HC5 := Aside0.mk H
  clear H
  go_enter Tryd.func4, Tryd.ntmps4
  go_upto_region 4 with (first | ((with_reducible refine gate_callee (f := 7) rfl ?_); refine goesL_ (some 10) rfl rfl Tryd.func7 (by kernel_rfl) rfl #[] rfl (by (try simp only [List.map_toArray, List.map_cons, List.map_nil]); first | done | rfl | (simp only [List.length_drop, List.length_take]; rfl)) ?_; (with_reducible refine (tmesislaw05_shown.calls k  t153 _ ?side1 A2.out).mono ?_); (case side1 => exact Gl.below HG.out (by repeat (first | (with_reducible first | exact HB.out | apply below_alloc | apply pw_below_drewN | apply below_drew1) | exact HB.out))); rintro e w6 ⟨rfl, hb⟩; refine ⟨_, rfl, ?_⟩; have n0_ := Aside0.mk (below_step (by repeat (first | (with_reducible first | exact HB.out | apply below_alloc | apply pw_below_drewN | apply below_drew1) | exact HB.out)) hb); clear HB; have HB := n0_; clear n0_; (try clear hb); (try clear hb2); (try clear hk); (try clear hi)) | ((with_reducible refine gate_callee (f := 9) rfl ?_); refine goesL_ (some 12) rfl rfl Tryd.func9 (by kernel_rfl) rfl #[.slice A0 l0.length c0] rfl (by (try simp only [List.map_toArray, List.map_cons, List.map_nil]); first | done | rfl | (simp only [List.length_drop, List.length_take]; rfl)) ?_; (with_reducible refine (tmesislaw05_few.calls (fun k_ => k_ < w.heap.size) _ _ l0 t154 _ ?side1 A3.out).mono ?_); (case side1 => exact Kd.V_mk HC0.out (Kd.F_below (Kd.C_F (Kd.heap_int .u8) HR0.out) (by repeat (first | (with_reducible first | exact HB.out | apply below_alloc | apply pw_below_drewN | apply below_drew1) | exact HB.out)))); rintro e w7 ⟨v155, rfl, ho0, hb⟩; refine ⟨_, rfl, ?_⟩; have n0_ := Aside0.mk (Kd.V_lower (Kd.V_mono (ok' := fun k_ => True) ho0 (fun k_ hk_ => trivial)) (below_size (by repeat (first | (with_reducible first | exact HB.out | apply below_alloc | apply pw_below_drewN | apply below_drew1) | exact HB.out)))); have n1_ := Aside0.mk (below_step (by repeat (first | (with_reducible first | exact HB.out | apply below_alloc | apply pw_below_drewN | apply below_drew1) | exact HB.out)) hb); clear HB; have HO156 := n0_; have HB := n1_; clear n0_ n1_; (try clear hb); (try clear hb2); (try clear hk); (try clear hi); (try clear ho0); obtain ⟨Ao8, co8, eo8⟩ := Kd.V_slice HO156.out; subst eo8) | ((with_reducible refine gate_callee (f := 8) rfl ?_); refine goesL_ (some 15) rfl rfl Tryd.func8 (by kernel_rfl) rfl #[.slice Ao8 t154.length co8] rfl (by (try simp only [List.map_toArray, List.map_cons, List.map_nil]); first | done | rfl | (simp only [List.length_drop, List.length_take]; rfl)) ?_; (with_reducible refine (layout_Skip.calls k _ _ t154 t157 t158 _ ?side1 ?side2 ?side3 A4.out).mono ?_); (case side1 => exact Gl.below HG.out (by repeat (first | (with_reducible first | exact HB.out | apply below_alloc | apply pw_below_drewN | apply below_drew1) | exact HB.out))); (case side2 => repeat (first | exact (Kd.V_reads' HO156.out).2.2 | (with_reducible refine Kd.C_alloc ?_ _) | (with_reducible refine Kd.C_drewN ?_ _) | (with_reducible refine Kd.C_drew ?_))); (case side3 => exact (Kd.V_reads' HO156.out).2.1); rintro e w9 ⟨rfl, hb⟩; refine ⟨_, rfl, ?_⟩; have n0_ := Aside0.mk (Kd.V_below (by (with_reducible repeat (first | apply Kd.V_alloc | apply Kd.V_drewN | apply Kd.V_drew)); exact HO156.out) hb); have n1_ := Aside0.mk (below_step (by repeat (first | (with_reducible first | exact HB.out | apply below_alloc | apply pw_below_drewN | apply below_drew1) | exact HB.out)) hb); clear HO156; clear HB; have HO156 := n0_; have HB := n1_; clear n0_ n1_; (try clear hb); (try clear hb2); (try clear hk); (try clear hi)))
  (try simp only [Act.put, List.setIfInBounds_toArray, List.set_cons_zero, List.set_cons_succ])
  go_cut [29] (fun v29 wc => ∃ (kq : Nat) (x29_4 : Bool), v29 = .bool x29_4 ∧ Aside0 (tmesislaw05_LayoutEnds.j0 kq t154 t157 t158 x29_4 = some r) ∧ Aside0 (kq ≤ k) ∧ Aside0 (Kd.V (Kd.int .u8) 5 wc w.heap.size (fun _ => True) (.slice Ao8 t154.length co8) t154) ∧ Aside0 (Below w.heap.size w wc))
  case first =>
    have H := HC5.out
    clear HC5
    by_cases c10 : t153 = true
    · subst c10
      have H1 : (if t157 < 0 then (tmesislaw05_LayoutEnds.j0 k t154 t157 t158 true) else (tmesislaw05_LayoutEnds.j0 k t154 t157 t158 (decide (t157 > (t154.length : Int))))) = some r := by rw [if_pos rfl] at H; exact H
      clear H
      have H := H1
      clear H1
      by_cases c11 : t157 < 0
      · rw [if_pos c11] at H
        have c11b0 : decide (t157 < 0) = true := decide_eq_true c11
        clear c11
        (first | rw [c11b0] | (simp only [i64_w, i32_w]; rw [c11b0]) | skip)
        have H' := Aside0.mk H
        clear H
        go_wp2
        go_meet
        case rel => exact ⟨_, (true), (by first | rfl | (simp; done) | (simp [*]; done)), H', ⟨by first | omega | exact Nat.le_refl _⟩, ⟨by (with_reducible repeat (first | apply Kd.V_alloc | apply Kd.V_drewN | apply Kd.V_drew)); exact HO156.out⟩, ⟨by repeat (first | (with_reducible first | exact HB.out | apply below_alloc | apply pw_below_drewN | apply below_drew1) | exact HB.out)⟩⟩
      · rw [if_neg c11] at H
        have c11b0 : decide (t157 < 0) = false := decide_eq_false c11
        clear c11
        (first | rw [c11b0] | (simp only [i64_w, i32_w]; rw [c11b0]) | skip)
        have H' := Aside0.mk H
        clear H
        go_wp2
        go_meet
        case rel => exact ⟨_, (decide (t157 > (t154.length : Int))), (by first | rfl | (simp; done) | (simp [*]; done)), H', ⟨by first | omega | exact Nat.le_refl _⟩, ⟨by (with_reducible repeat (first | apply Kd.V_alloc | apply Kd.V_drewN | apply Kd.V_drew)); exact HO156.out⟩, ⟨by repeat (first | (with_reducible first | exact HB.out | apply below_alloc | apply pw_below_drewN | apply below_drew1) | exact HB.out)⟩⟩
    · replace c10 := Bool.eq_false_iff.mpr c10
      subst c10
      have H1 : (tmesislaw05_LayoutEnds.j0 k t154 t157 t158 true) = some r := by rw [if_neg (show ¬ (false = true) by decide)] at H; exact H
      clear H
      have H := H1
      clear H1
      have H' := Aside0.mk H
      clear H
      go_wp2
      go_meet
      case rel => exact ⟨_, (true), (by first | rfl | (simp; done) | (simp [*]; done)), H', ⟨by first | omega | exact Nat.le_refl _⟩, ⟨by (with_reducible repeat (first | apply Kd.V_alloc | apply Kd.V_drewN | apply Kd.V_drew)); exact HO156.out⟩, ⟨by repeat (first | (with_reducible first | exact HB.out | apply below_alloc | apply pw_below_drewN | apply below_drew1) | exact HB.out)⟩⟩
  case rest =>
    clear HC5
    try clear c1
    try clear p2
    try clear c4
    try clear c7
    try clear c8
    try clear c9
    try clear c10
    try clear c11
    try clear c11b0
    obtain ⟨kq, x29_4, rfl, HA, HJ4, HO_4, HB⟩ := hcut
    cases kq with
    | zero => exact absurd HA.out (by simp [tmesislaw05_LayoutEnds.j0])
    | succ kj4 =>
      have H := HA.out
      clear HA
      simp only [tmesislaw05_LayoutEnds.j0] at H
      by_cases c12 : x29_4 = true
      · subst c12
        have H1 : (some false) = some r := by rw [if_pos rfl] at H; exact H
        clear H
        have H := H1
        clear H1
        obtain rfl := Option.some.inj H
        go_wp2
        go_ret
        exact ⟨by first | rfl | (simp [errW_none, errW_some] <;> rfl) | (simp [*, errW_none, errW_some] <;> rfl), by repeat (first | (with_reducible first | exact HB.out | apply below_alloc | apply pw_below_drewN | apply below_drew1) | exact HB.out)⟩
      · replace c12 := Bool.eq_false_iff.mpr c12
        subst c12
        have H1 : (if 0 ≤ t157 then (if t157 ≤ (t154.length : Int) then ((layout_Skip.f kj4 (t154.drop (t157 : Int).toNat)).bind fun bt164 => (if bt164.1 = 0 then (tmesislaw05_LayoutEnds.j1 kj4 t154 t157 t158 (bt164.2 != t158)) else (tmesislaw05_LayoutEnds.j1 kj4 t154 t157 t158 true))) else (none)) else (none)) = some r := by rw [if_neg (show ¬ (false = true) by decide)] at H; exact H
        clear H
        have H := H1
        clear H1
        by_cases c13 : 0 ≤ t157
        · rw [if_pos c13] at H
          have c13b0 := eq_true c13
          have c13b1 : decide (0 ≤ t157) = true := decide_eq_true c13
          clear c13
          by_cases c14 : t157 ≤ (t154.length : Int)
          · rw [if_pos c14] at H
            have c14b0 := eq_true c14
            have c14b1 : decide (t157 ≤ (t154.length : Int)) = true := decide_eq_true c14
            clear c14
            obtain ⟨y159, hy159⟩ : ∃ y_ : List Int, y_ = (t154.drop (t157 : Int).toNat) := ⟨_, rfl⟩
            replace H : ((layout_Skip.f kj4 y159).bind fun bt164 => (if bt164.1 = 0 then (tmesislaw05_LayoutEnds.j1 kj4 t154 t157 t158 (bt164.2 != t158)) else (tmesislaw05_LayoutEnds.j1 kj4 t154 t157 t158 true))) = some r := by first | (rw [hy159]; with_reducible exact H) | (have H2_ := (Option.bind_some _ _).symm.trans H; rw [hy159]; with_reducible exact H2_) | (have H2_ := (Option.bind_some _ _).symm.trans H; with_reducible exact H2_) | with_reducible exact H | (rw [hy159]; exact H) | exact H
            have Ny159 := Aside0.mk hy159
            clear hy159
            replace H := Option.bind_eq_some_iff.mp H
            obtain ⟨⟨t164, t165⟩, A150, H⟩ := H
            replace H : (if t164 = 0 then (tmesislaw05_LayoutEnds.j1 kj4 t154 t157 t158 (t165 != t158)) else (tmesislaw05_LayoutEnds.j1 kj4 t154 t157 t158 true)) = some r := H
            have A15 := Aside0.mk A150
            clear A150
            have HC16 := Aside0.mk H
            clear H
            have q17 : (t157 : Int) ≤ ((t154.length : Int) : Int) := of_decide_eq_true (by first | (with_reducible assumption) | assumption)
            obtain ⟨i017, hi017, _, hsz17, _⟩ := info_parts info5
            have hroom17 : t154.length ≤ co8 := (Kd.V_reads' HO_4.out).2.1
            have hC17 : Kd.F (Kd.int .u8) _ _ Ao8 t154.length t154 := (Kd.V_at (base := w.heap.size) HO_4.out).2.2
            have q017 : (0 : Int) ≤ (t157 : Int) := of_decide_eq_true (by first | (with_reducible assumption) | assumption)
            have hcut17 := cut_from (P := Tryd.prog) 22 5 .i64 Tryd.underlying22 hi017 1 hsz17 Ao8 t154.length co8 t157 q017 q17
            have hr17 := Kd.F_cut (m := (t157 : Int).toNat) (c := co8) hC17 (by omega) hroom17
            obtain ⟨A17, hA17⟩ : ∃ A1, A1 = (if co8 = (t157 : Int).toNat then Ao8 else (Ao8 : Option Addr).map (·.add ((t157 : Int).toNat * 1))) := ⟨_, rfl⟩
            obtain ⟨c17, hc17⟩ : ∃ c1, c1 = co8 - (t157 : Int).toNat := ⟨_, rfl⟩
            have hy17 : y159.length = t154.length - (t157 : Int).toNat := (by rw [Ny159.out, List.length_drop] <;> omega)
            rw [show (t154).drop (t157 : Int).toNat = y159 from Ny159.out.symm] at hr17
            replace hr17 : Kd.F (Kd.int .u8) _ _ A17 y159.length y159 := (by rw [hA17]; exact hr17)
            rw [← hy17, ← hA17, ← hc17] at hcut17
            have HO163 := Aside0.mk (show Kd.V (Kd.int .u8) 5 _ w.heap.size _ (.slice A17 y159.length c17) y159 from Kd.V_mk (by rw [hy17, hc17]; exact Nat.sub_le_sub_right hroom17 _) hr17)
            have HC163 := Aside0.mk (show y159.length ≤ c17 from by rw [hy17, hc17]; exact Nat.sub_le_sub_right hroom17 _)
            clear hr17 hC17 hroom17 hi017 hsz17 hc17
            have KY17 := Aside0.mk hy17
            have KA17 := Aside0.mk hA17
            clear hy17 hA17
            replace q17 := eq_true q17
            go_upto_region 7 with (first | ((with_reducible refine gate_callee (f := 8) rfl ?_); refine goesL_ (some 34) rfl rfl Tryd.func8 (by kernel_rfl) rfl #[.slice A17 y159.length c17] rfl (by (try simp only [List.map_toArray, List.map_cons, List.map_nil]); first | done | rfl | (simp only [List.length_drop, List.length_take]; rfl)) ?_; (with_reducible refine (layout_Skip.calls kj4 _ _ y159 t164 t165 _ ?side1 ?side2 ?side3 A15.out).mono ?_); (case side1 => exact Gl.below HG.out (by repeat (first | (with_reducible first | exact HB.out | apply below_alloc | apply pw_below_drewN | apply below_drew1) | exact HB.out))); (case side2 => repeat (first | exact (Kd.V_reads' HO163.out).2.2 | (with_reducible refine Kd.C_alloc ?_ _) | (with_reducible refine Kd.C_drewN ?_ _) | (with_reducible refine Kd.C_drew ?_))); (case side3 => exact (Kd.V_reads' HO163.out).2.1); rintro e w18 ⟨rfl, hb⟩; refine ⟨_, rfl, ?_⟩; have n0_ := Aside0.mk (Kd.V_below (by (with_reducible repeat (first | apply Kd.V_alloc | apply Kd.V_drewN | apply Kd.V_drew)); exact HO_4.out) hb); have n1_ := Aside0.mk (Kd.V_below (by (with_reducible repeat (first | apply Kd.V_alloc | apply Kd.V_drewN | apply Kd.V_drew)); exact HO163.out) hb); have n2_ := Aside0.mk (below_step (by repeat (first | (with_reducible first | exact HB.out | apply below_alloc | apply pw_below_drewN | apply below_drew1) | exact HB.out)) hb); clear HO_4; clear HO163; clear HB; have HO_4 := n0_; have HO163 := n1_; have HB := n2_; clear n0_ n1_ n2_; (try clear hb); (try clear hb2); (try clear hk); (try clear hi)))
            (try simp only [Act.put, List.setIfInBounds_toArray, List.set_cons_zero, List.set_cons_succ])
            go_cut [43] (fun v43 wc => ∃ (kq : Nat) (x43_15 : Bool), v43 = .bool x43_15 ∧ Aside0 (tmesislaw05_LayoutEnds.j1 kq t154 t157 t158 x43_15 = some r) ∧ Aside0 (kq ≤ kj4) ∧ Aside0 (Kd.V (Kd.int .u8) 5 wc w.heap.size (fun _ => True) (.slice Ao8 t154.length co8) t154) ∧ Aside0 (Below w.heap.size w wc))
            case first =>
              have H := HC16.out
              clear HC16
              by_cases c19 : t164 = 0
              · rw [if_pos c19] at H
                have c19b0 : (t164 == 0) = true := beq_iff_eq.mpr c19
                have c19b1 : (t164 != 0) = false := bne_eq_false_iff_eq.mpr c19
                clear c19
                (first | rw [c19b0] | (simp only [i64_w, i32_w]; rw [c19b0]) | skip)
                have H' := Aside0.mk H
                clear H
                go_wp2
                go_meet
                case rel => exact ⟨_, ((t165 != t158)), (by first | rfl | (simp; done) | (simp [*]; done)), H', ⟨by have := HJ4.out; first | omega | exact Nat.le_refl _⟩, ⟨by (with_reducible repeat (first | apply Kd.V_alloc | apply Kd.V_drewN | apply Kd.V_drew)); exact HO_4.out⟩, ⟨by repeat (first | (with_reducible first | exact HB.out | apply below_alloc | apply pw_below_drewN | apply below_drew1) | exact HB.out)⟩⟩
              · rw [if_neg c19] at H
                have c19b0 : (t164 == 0) = false := beq_eq_false_iff_ne.mpr c19
                have c19b1 : (t164 != 0) = true := bne_iff_ne.mpr c19
                (first | rw [c19b0] | (simp only [i64_w, i32_w]; rw [c19b0]) | skip)
                have H' := Aside0.mk H
                clear H
                go_wp2
                go_meet
                case rel => exact ⟨_, (true), (by first | rfl | (simp; done) | (simp [*]; done)), H', ⟨by have := HJ4.out; first | omega | exact Nat.le_refl _⟩, ⟨by (with_reducible repeat (first | apply Kd.V_alloc | apply Kd.V_drewN | apply Kd.V_drew)); exact HO_4.out⟩, ⟨by repeat (first | (with_reducible first | exact HB.out | apply below_alloc | apply pw_below_drewN | apply below_drew1) | exact HB.out)⟩⟩
            case rest =>
              clear HC16
              try clear c1
              try clear q1
              try clear p2
              try clear c4
              try clear c7
              try clear c8
              try clear c9
              try clear c10
              try clear c11
              try clear c11b0
              try clear c12
              try clear c13
              try clear c13b0
              try clear c13b1
              try clear c14
              try clear c14b0
              try clear c14b1
              try clear c17
              try clear q17
              try clear c19
              try clear c19b0
              try clear c19b1
              try clear p2
              try clear q017
              try clear q17
              obtain ⟨kq, x43_15, rfl, HA, HJ15, HO_4, HB⟩ := hcut
              cases kq with
              | zero => exact absurd HA.out (by simp [tmesislaw05_LayoutEnds.j1])
              | succ kj15 =>
                have H := HA.out
                clear HA
                simp only [tmesislaw05_LayoutEnds.j1] at H
                by_cases c20 : x43_15 = true
                · subst c20
                  have H1 : (some false) = some r := by rw [if_pos rfl] at H; exact H
                  clear H
                  have H := H1
                  clear H1
                  obtain rfl := Option.some.inj H
                  go_wp2
                  go_ret
                  exact ⟨by first | rfl | (simp [errW_none, errW_some] <;> rfl) | (simp [*, errW_none, errW_some] <;> rfl), by repeat (first | (with_reducible first | exact HB.out | apply below_alloc | apply pw_below_drewN | apply below_drew1) | exact HB.out)⟩
                · replace c20 := Bool.eq_false_iff.mpr c20
                  subst c20
                  have H1 : (if 0 ≤ t157 then (if t157 ≤ (mn (wrap64 (t157 + 2)) (t154.length : Int)) then (if (mn (wrap64 (t157 + 2)) (t154.length : Int)) ≤ (t154.length : Int) then ((some ((t154.take ((mn (wrap64 (t157 + 2)) (t154.length : Int)) : Int).toNat).drop (t157 : Int).toNat : List Int)).bind fun y166 => (if t158 = 14 then (some ((strOfNums y166).toList == ([47, 42] : List UInt8))) else (if t158 = 0 then (if t157 = (t154.length : Int) then (some true) else (if t157 < (t154.length : Int) then (if (rd t154 t157) = 37 then (some false) else (if (rd t154 t157) = 32 then (some false) else (if (rd t154 t157) = 9 then (some false) else (if (rd t154 t157) = 10 then (some false) else (if (rd t154 t157) = 13 then (some false) else (some ((strOfNums y166).toList != ([47, 42] : List UInt8)))))))) else (none))) else (some false)))) else (none)) else (none)) else (none)) = some r := by rw [if_neg (show ¬ (false = true) by decide)] at H; exact H
                  clear H
                  have H := H1
                  clear H1
                  obtain ⟨ji21, hji21⟩ : ∃ j_ : Int, (mn (wrap64 (t157 + 2)) (t154.length : Int)) = j_ := ⟨_, rfl⟩
                  replace H : (if 0 ≤ t157 then (if t157 ≤ (ji21) then (if (ji21) ≤ (t154.length : Int) then ((some ((t154.take ((ji21) : Int).toNat).drop (t157 : Int).toNat : List Int)).bind fun y166 => (if t158 = 14 then (some ((strOfNums y166).toList == ([47, 42] : List UInt8))) else (if t158 = 0 then (if t157 = (t154.length : Int) then (some true) else (if t157 < (t154.length : Int) then (if (rd t154 t157) = 37 then (some false) else (if (rd t154 t157) = 32 then (some false) else (if (rd t154 t157) = 9 then (some false) else (if (rd t154 t157) = 10 then (some false) else (if (rd t154 t157) = 13 then (some false) else (some ((strOfNums y166).toList != ([47, 42] : List UInt8)))))))) else (none))) else (some false)))) else (none)) else (none)) else (none)) = some r := by first | (rw [hji21] at H; exact H) | (simp only [hji21] at H ⊢; exact H)
                  have hji21_ : (if (t154.length : Int) < (wrap64 (t157 + 2)) then (t154.length : Int) else (wrap64 (t157 + 2))) = ji21 := hji21
                  by_cases c22 : 0 ≤ t157
                  · rw [if_pos c22] at H
                    have c22b0 := eq_true c22
                    have c22b1 : decide (0 ≤ t157) = true := decide_eq_true c22
                    clear c22
                    by_cases c23 : t157 ≤ (ji21)
                    · rw [if_pos c23] at H
                      have c23b0 := eq_true c23
                      have c23b1 : decide (t157 ≤ (ji21)) = true := decide_eq_true c23
                      clear c23
                      by_cases c24 : (ji21) ≤ (t154.length : Int)
                      · rw [if_pos c24] at H
                        have c24b0 := eq_true c24
                        have c24b1 : decide ((ji21) ≤ (t154.length : Int)) = true := decide_eq_true c24
                        clear c24
                        obtain ⟨y166, hy166⟩ : ∃ y_ : List Int, y_ = ((t154.take ((ji21) : Int).toNat).drop (t157 : Int).toNat) := ⟨_, rfl⟩
                        replace H : (if t158 = 14 then (some ((strOfNums y166).toList == ([47, 42] : List UInt8))) else (if t158 = 0 then (if t157 = (t154.length : Int) then (some true) else (if t157 < (t154.length : Int) then (if (rd t154 t157) = 37 then (some false) else (if (rd t154 t157) = 32 then (some false) else (if (rd t154 t157) = 9 then (some false) else (if (rd t154 t157) = 10 then (some false) else (if (rd t154 t157) = 13 then (some false) else (some ((strOfNums y166).toList != ([47, 42] : List UInt8)))))))) else (none))) else (some false))) = some r := by first | (rw [hy166]; with_reducible exact H) | (have H2_ := (Option.bind_some _ _).symm.trans H; rw [hy166]; with_reducible exact H2_) | (have H2_ := (Option.bind_some _ _).symm.trans H; with_reducible exact H2_) | with_reducible exact H | (rw [hy166]; exact H) | exact H
                        have Ny166 := Aside0.mk hy166
                        clear hy166
                        by_cases c25 : t158 = 14
                        · rw [if_pos c25] at H
                          have c25b0 : (t158 == 14) = true := beq_iff_eq.mpr c25
                          have c25b1 : (t158 != 14) = false := bne_eq_false_iff_eq.mpr c25
                          clear c25
                          obtain rfl := Option.some.inj H
                          have q26 : ((ji21) : Int) ≤ ((t154.length : Int) : Int) := of_decide_eq_true (by first | (with_reducible assumption) | assumption)
                          obtain ⟨i026, hi026, _, hsz26, _⟩ := info_parts info5
                          have hroom26 : t154.length ≤ co8 := (Kd.V_reads' HO_4.out).2.1
                          have hC26 : Kd.F (Kd.int .u8) _ _ Ao8 t154.length t154 := (Kd.V_at (base := w.heap.size) HO_4.out).2.2
                          have ql26 : (t157 : Int) ≤ ((ji21) : Int) := of_decide_eq_true (by first | (with_reducible assumption) | assumption)
                          have q026 : (0 : Int) ≤ (t157 : Int) := of_decide_eq_true (by first | (with_reducible assumption) | assumption)
                          have hcut26 := cut_mid (P := Tryd.prog) 22 5 .i64 .i64 Tryd.underlying22 hi026 1 hsz26 Ao8 t154.length co8 t157 (ji21) q026 ql26 q26 hroom26
                          have hr26 := Kd.F_mid (lo := (t157 : Int).toNat) (hi := ((ji21) : Int).toNat) (c := co8) hC26 (by omega) (by omega) hroom26
                          obtain ⟨A26, hA26⟩ : ∃ A1, A1 = (if co8 = (t157 : Int).toNat then Ao8 else (Ao8 : Option Addr).map (·.add ((t157 : Int).toNat * 1))) := ⟨_, rfl⟩
                          obtain ⟨c26, hc26⟩ : ∃ c1, c1 = co8 - (t157 : Int).toNat := ⟨_, rfl⟩
                          have hy26 : y166.length = ((ji21) : Int).toNat - (t157 : Int).toNat := (by rw [Ny166.out, List.length_drop, List.length_take] <;> omega)
                          rw [show ((t154).take ((ji21) : Int).toNat).drop (t157 : Int).toNat = y166 from Ny166.out.symm] at hr26
                          replace hr26 : Kd.F (Kd.int .u8) _ _ A26 y166.length y166 := (by rw [hA26]; exact hr26)
                          rw [← hy26, ← hA26, ← hc26] at hcut26
                          have HO170 := Aside0.mk (show Kd.V (Kd.int .u8) 5 _ w.heap.size _ (.slice A26 y166.length c26) y166 from Kd.V_mk (by rw [hy26, hc26]; exact Nat.sub_le_sub_right (Nat.le_trans (by omega) hroom26) _) hr26)
                          have HC170 := Aside0.mk (show y166.length ≤ c26 from by rw [hy26, hc26]; exact Nat.sub_le_sub_right (Nat.le_trans (by omega) hroom26) _)
                          clear hr26 hC26 hroom26 hi026 hsz26 hc26
                          have KY26 := Aside0.mk hy26
                          have KA26 := Aside0.mk hA26
                          clear hy26 hA26
                          replace q26 := eq_true q26
                          (first | have hcv27 := own_string (P := Tryd.prog) Tryd.underlying22 Tryd.underlying5 Tryd.underlying9 (Kd.own_of_R HO170.out) | have hcv27 := V_string (P := Tryd.prog) Tryd.underlying22 Tryd.underlying5 Tryd.underlying9 HO170.out)
                          go_wp2
                          go_ret
                          exact ⟨by first | rfl | (simp [errW_none, errW_some] <;> rfl) | (simp only [← hji21]; first | rfl | (simp [errW_none, errW_some] <;> rfl)) | (simp [*, errW_none, errW_some] <;> rfl), by repeat (first | (with_reducible first | exact HB.out | apply below_alloc | apply pw_below_drewN | apply below_drew1) | exact HB.out)⟩
                        · rw [if_neg c25] at H
                          have c25b0 : (t158 == 14) = false := beq_eq_false_iff_ne.mpr c25
                          have c25b1 : (t158 != 14) = true := bne_iff_ne.mpr c25
                          by_cases c28 : t158 = 0
                          · rw [if_pos c28] at H
                            have c28b0 : (t158 == 0) = true := beq_iff_eq.mpr c28
                            have c28b1 : (t158 != 0) = false := bne_eq_false_iff_eq.mpr c28
                            clear c28
                            by_cases c29 : t157 = (t154.length : Int)
                            · rw [if_pos c29] at H
                              have c29b0 : (t157 == (t154.length : Int)) = true := beq_iff_eq.mpr c29
                              have c29b1 : (t157 != (t154.length : Int)) = false := bne_eq_false_iff_eq.mpr c29
                              clear c29
                              obtain rfl := Option.some.inj H
                              have q30 : ((ji21) : Int) ≤ ((t154.length : Int) : Int) := of_decide_eq_true (by first | (with_reducible assumption) | assumption)
                              obtain ⟨i030, hi030, _, hsz30, _⟩ := info_parts info5
                              have hroom30 : t154.length ≤ co8 := (Kd.V_reads' HO_4.out).2.1
                              have hC30 : Kd.F (Kd.int .u8) _ _ Ao8 t154.length t154 := (Kd.V_at (base := w.heap.size) HO_4.out).2.2
                              have ql30 : (t157 : Int) ≤ ((ji21) : Int) := of_decide_eq_true (by first | (with_reducible assumption) | assumption)
                              have q030 : (0 : Int) ≤ (t157 : Int) := of_decide_eq_true (by first | (with_reducible assumption) | assumption)
                              have hcut30 := cut_mid (P := Tryd.prog) 22 5 .i64 .i64 Tryd.underlying22 hi030 1 hsz30 Ao8 t154.length co8 t157 (ji21) q030 ql30 q30 hroom30
                              have hr30 := Kd.F_mid (lo := (t157 : Int).toNat) (hi := ((ji21) : Int).toNat) (c := co8) hC30 (by omega) (by omega) hroom30
                              obtain ⟨A30, hA30⟩ : ∃ A1, A1 = (if co8 = (t157 : Int).toNat then Ao8 else (Ao8 : Option Addr).map (·.add ((t157 : Int).toNat * 1))) := ⟨_, rfl⟩
                              obtain ⟨c30, hc30⟩ : ∃ c1, c1 = co8 - (t157 : Int).toNat := ⟨_, rfl⟩
                              have hy30 : y166.length = ((ji21) : Int).toNat - (t157 : Int).toNat := (by rw [Ny166.out, List.length_drop, List.length_take] <;> omega)
                              rw [show ((t154).take ((ji21) : Int).toNat).drop (t157 : Int).toNat = y166 from Ny166.out.symm] at hr30
                              replace hr30 : Kd.F (Kd.int .u8) _ _ A30 y166.length y166 := (by rw [hA30]; exact hr30)
                              rw [← hy30, ← hA30, ← hc30] at hcut30
                              have HO170 := Aside0.mk (show Kd.V (Kd.int .u8) 5 _ w.heap.size _ (.slice A30 y166.length c30) y166 from Kd.V_mk (by rw [hy30, hc30]; exact Nat.sub_le_sub_right (Nat.le_trans (by omega) hroom30) _) hr30)
                              have HC170 := Aside0.mk (show y166.length ≤ c30 from by rw [hy30, hc30]; exact Nat.sub_le_sub_right (Nat.le_trans (by omega) hroom30) _)
                              clear hr30 hC30 hroom30 hi030 hsz30 hc30
                              have KY30 := Aside0.mk hy30
                              have KA30 := Aside0.mk hA30
                              clear hy30 hA30
                              replace q30 := eq_true q30
                              (first | have hcv31 := own_string (P := Tryd.prog) Tryd.underlying22 Tryd.underlying5 Tryd.underlying9 (Kd.own_of_R HO170.out) | have hcv31 := V_string (P := Tryd.prog) Tryd.underlying22 Tryd.underlying5 Tryd.underlying9 HO170.out)
                              go_wp2
                              go_ret
                              exact ⟨by first | rfl | (simp [errW_none, errW_some] <;> rfl) | (simp only [← hji21]; first | rfl | (simp [errW_none, errW_some] <;> rfl)) | (simp [*, errW_none, errW_some] <;> rfl), by repeat (first | (with_reducible first | exact HB.out | apply below_alloc | apply pw_below_drewN | apply below_drew1) | exact HB.out)⟩
                            · rw [if_neg c29] at H
                              have c29b0 : (t157 == (t154.length : Int)) = false := beq_eq_false_iff_ne.mpr c29
                              have c29b1 : (t157 != (t154.length : Int)) = true := bne_iff_ne.mpr c29
                              by_cases c32 : t157 < (t154.length : Int)
                              · rw [if_pos c32] at H
                                have c32b0 : decide (t157 < (t154.length : Int)) = true := decide_eq_true c32
                                clear c32
                                by_cases c33 : (rd t154 t157) = 37
                                · rw [if_pos c33] at H
                                  have c33b0 : ((rd t154 t157) == 37) = true := beq_iff_eq.mpr c33
                                  have c33b1 : ((rd t154 t157) != 37) = false := bne_eq_false_iff_eq.mpr c33
                                  clear c33
                                  obtain rfl := Option.some.inj H
                                  have q34 : ((ji21) : Int) ≤ ((t154.length : Int) : Int) := of_decide_eq_true (by first | (with_reducible assumption) | assumption)
                                  obtain ⟨i034, hi034, _, hsz34, _⟩ := info_parts info5
                                  have hroom34 : t154.length ≤ co8 := (Kd.V_reads' HO_4.out).2.1
                                  have hC34 : Kd.F (Kd.int .u8) _ _ Ao8 t154.length t154 := (Kd.V_at (base := w.heap.size) HO_4.out).2.2
                                  have ql34 : (t157 : Int) ≤ ((ji21) : Int) := of_decide_eq_true (by first | (with_reducible assumption) | assumption)
                                  have q034 : (0 : Int) ≤ (t157 : Int) := of_decide_eq_true (by first | (with_reducible assumption) | assumption)
                                  have hcut34 := cut_mid (P := Tryd.prog) 22 5 .i64 .i64 Tryd.underlying22 hi034 1 hsz34 Ao8 t154.length co8 t157 (ji21) q034 ql34 q34 hroom34
                                  have hr34 := Kd.F_mid (lo := (t157 : Int).toNat) (hi := ((ji21) : Int).toNat) (c := co8) hC34 (by omega) (by omega) hroom34
                                  obtain ⟨A34, hA34⟩ : ∃ A1, A1 = (if co8 = (t157 : Int).toNat then Ao8 else (Ao8 : Option Addr).map (·.add ((t157 : Int).toNat * 1))) := ⟨_, rfl⟩
                                  obtain ⟨c34, hc34⟩ : ∃ c1, c1 = co8 - (t157 : Int).toNat := ⟨_, rfl⟩
                                  have hy34 : y166.length = ((ji21) : Int).toNat - (t157 : Int).toNat := (by rw [Ny166.out, List.length_drop, List.length_take] <;> omega)
                                  rw [show ((t154).take ((ji21) : Int).toNat).drop (t157 : Int).toNat = y166 from Ny166.out.symm] at hr34
                                  replace hr34 : Kd.F (Kd.int .u8) _ _ A34 y166.length y166 := (by rw [hA34]; exact hr34)
                                  rw [← hy34, ← hA34, ← hc34] at hcut34
                                  have HO170 := Aside0.mk (show Kd.V (Kd.int .u8) 5 _ w.heap.size _ (.slice A34 y166.length c34) y166 from Kd.V_mk (by rw [hy34, hc34]; exact Nat.sub_le_sub_right (Nat.le_trans (by omega) hroom34) _) hr34)
                                  have HC170 := Aside0.mk (show y166.length ≤ c34 from by rw [hy34, hc34]; exact Nat.sub_le_sub_right (Nat.le_trans (by omega) hroom34) _)
                                  clear hr34 hC34 hroom34 hi034 hsz34 hc34
                                  have KY34 := Aside0.mk hy34
                                  have KA34 := Aside0.mk hA34
                                  clear hy34 hA34
                                  replace q34 := eq_true q34
                                  (first | have hcv35 := own_string (P := Tryd.prog) Tryd.underlying22 Tryd.underlying5 Tryd.underlying9 (Kd.own_of_R HO170.out) | have hcv35 := V_string (P := Tryd.prog) Tryd.underlying22 Tryd.underlying5 Tryd.underlying9 HO170.out)
                                  have p171 : 0 ≤ (t157 : Int) := of_decide_eq_true (by first | (with_reducible assumption) | assumption)
                                  have q171 : t157 < (t154.length : Int) := of_decide_eq_true (by first | (with_reducible assumption) | assumption)
                                  obtain ⟨ad171, e171, hx171_0⟩ := Kd.at_int (Kd.V_reads' HO_4.out).2.2 t157 p171 q171
                                  cases e171
                                  replace p171 := eq_true p171
                                  replace q171 := eq_true q171
                                  go_wp2
                                  go_ret
                                  exact ⟨by first | rfl | (simp [errW_none, errW_some] <;> rfl) | (simp only [← hji21]; first | rfl | (simp [errW_none, errW_some] <;> rfl)) | (simp [*, errW_none, errW_some] <;> rfl), by repeat (first | (with_reducible first | exact HB.out | apply below_alloc | apply pw_below_drewN | apply below_drew1) | exact HB.out)⟩
                                · rw [if_neg c33] at H
                                  have c33b0 : ((rd t154 t157) == 37) = false := beq_eq_false_iff_ne.mpr c33
                                  have c33b1 : ((rd t154 t157) != 37) = true := bne_iff_ne.mpr c33
                                  by_cases c36 : (rd t154 t157) = 32
                                  · rw [if_pos c36] at H
                                    have c36b0 : ((rd t154 t157) == 32) = true := beq_iff_eq.mpr c36
                                    have c36b1 : ((rd t154 t157) != 32) = false := bne_eq_false_iff_eq.mpr c36
                                    clear c36
                                    obtain rfl := Option.some.inj H
                                    have q37 : ((ji21) : Int) ≤ ((t154.length : Int) : Int) := of_decide_eq_true (by first | (with_reducible assumption) | assumption)
                                    obtain ⟨i037, hi037, _, hsz37, _⟩ := info_parts info5
                                    have hroom37 : t154.length ≤ co8 := (Kd.V_reads' HO_4.out).2.1
                                    have hC37 : Kd.F (Kd.int .u8) _ _ Ao8 t154.length t154 := (Kd.V_at (base := w.heap.size) HO_4.out).2.2
                                    have ql37 : (t157 : Int) ≤ ((ji21) : Int) := of_decide_eq_true (by first | (with_reducible assumption) | assumption)
                                    have q037 : (0 : Int) ≤ (t157 : Int) := of_decide_eq_true (by first | (with_reducible assumption) | assumption)
                                    have hcut37 := cut_mid (P := Tryd.prog) 22 5 .i64 .i64 Tryd.underlying22 hi037 1 hsz37 Ao8 t154.length co8 t157 (ji21) q037 ql37 q37 hroom37
                                    have hr37 := Kd.F_mid (lo := (t157 : Int).toNat) (hi := ((ji21) : Int).toNat) (c := co8) hC37 (by omega) (by omega) hroom37
                                    obtain ⟨A37, hA37⟩ : ∃ A1, A1 = (if co8 = (t157 : Int).toNat then Ao8 else (Ao8 : Option Addr).map (·.add ((t157 : Int).toNat * 1))) := ⟨_, rfl⟩
                                    obtain ⟨c37, hc37⟩ : ∃ c1, c1 = co8 - (t157 : Int).toNat := ⟨_, rfl⟩
                                    have hy37 : y166.length = ((ji21) : Int).toNat - (t157 : Int).toNat := (by rw [Ny166.out, List.length_drop, List.length_take] <;> omega)
                                    rw [show ((t154).take ((ji21) : Int).toNat).drop (t157 : Int).toNat = y166 from Ny166.out.symm] at hr37
                                    replace hr37 : Kd.F (Kd.int .u8) _ _ A37 y166.length y166 := (by rw [hA37]; exact hr37)
                                    rw [← hy37, ← hA37, ← hc37] at hcut37
                                    have HO170 := Aside0.mk (show Kd.V (Kd.int .u8) 5 _ w.heap.size _ (.slice A37 y166.length c37) y166 from Kd.V_mk (by rw [hy37, hc37]; exact Nat.sub_le_sub_right (Nat.le_trans (by omega) hroom37) _) hr37)
                                    have HC170 := Aside0.mk (show y166.length ≤ c37 from by rw [hy37, hc37]; exact Nat.sub_le_sub_right (Nat.le_trans (by omega) hroom37) _)
                                    clear hr37 hC37 hroom37 hi037 hsz37 hc37
                                    have KY37 := Aside0.mk hy37
                                    have KA37 := Aside0.mk hA37
                                    clear hy37 hA37
                                    replace q37 := eq_true q37
                                    (first | have hcv38 := own_string (P := Tryd.prog) Tryd.underlying22 Tryd.underlying5 Tryd.underlying9 (Kd.own_of_R HO170.out) | have hcv38 := V_string (P := Tryd.prog) Tryd.underlying22 Tryd.underlying5 Tryd.underlying9 HO170.out)
                                    have p171 : 0 ≤ (t157 : Int) := of_decide_eq_true (by first | (with_reducible assumption) | assumption)
                                    have q171 : t157 < (t154.length : Int) := of_decide_eq_true (by first | (with_reducible assumption) | assumption)
                                    obtain ⟨ad171, e171, hx171_0⟩ := Kd.at_int (Kd.V_reads' HO_4.out).2.2 t157 p171 q171
                                    cases e171
                                    replace p171 := eq_true p171
                                    replace q171 := eq_true q171
                                    have p172 : 0 ≤ (t157 : Int) := of_decide_eq_true (by first | (with_reducible assumption) | assumption)
                                    have q172 : t157 < (t154.length : Int) := of_decide_eq_true (by first | (with_reducible assumption) | assumption)
                                    obtain ⟨ad172, e172, hx172_0⟩ := Kd.at_int (Kd.V_reads' HO_4.out).2.2 t157 p172 q172
                                    obtain rfl : ad171 = ad172 := (by injection e172)
                                    replace p172 := eq_true p172
                                    replace q172 := eq_true q172
                                    go_wp2
                                    go_ret
                                    exact ⟨by first | rfl | (simp [errW_none, errW_some] <;> rfl) | (simp only [← hji21]; first | rfl | (simp [errW_none, errW_some] <;> rfl)) | (simp [*, errW_none, errW_some] <;> rfl), by repeat (first | (with_reducible first | exact HB.out | apply below_alloc | apply pw_below_drewN | apply below_drew1) | exact HB.out)⟩
                                  · rw [if_neg c36] at H
                                    have c36b0 : ((rd t154 t157) == 32) = false := beq_eq_false_iff_ne.mpr c36
                                    have c36b1 : ((rd t154 t157) != 32) = true := bne_iff_ne.mpr c36
                                    by_cases c39 : (rd t154 t157) = 9
                                    · rw [if_pos c39] at H
                                      have c39b0 : ((rd t154 t157) == 9) = true := beq_iff_eq.mpr c39
                                      have c39b1 : ((rd t154 t157) != 9) = false := bne_eq_false_iff_eq.mpr c39
                                      clear c39
                                      obtain rfl := Option.some.inj H
                                      have q40 : ((ji21) : Int) ≤ ((t154.length : Int) : Int) := of_decide_eq_true (by first | (with_reducible assumption) | assumption)
                                      obtain ⟨i040, hi040, _, hsz40, _⟩ := info_parts info5
                                      have hroom40 : t154.length ≤ co8 := (Kd.V_reads' HO_4.out).2.1
                                      have hC40 : Kd.F (Kd.int .u8) _ _ Ao8 t154.length t154 := (Kd.V_at (base := w.heap.size) HO_4.out).2.2
                                      have ql40 : (t157 : Int) ≤ ((ji21) : Int) := of_decide_eq_true (by first | (with_reducible assumption) | assumption)
                                      have q040 : (0 : Int) ≤ (t157 : Int) := of_decide_eq_true (by first | (with_reducible assumption) | assumption)
                                      have hcut40 := cut_mid (P := Tryd.prog) 22 5 .i64 .i64 Tryd.underlying22 hi040 1 hsz40 Ao8 t154.length co8 t157 (ji21) q040 ql40 q40 hroom40
                                      have hr40 := Kd.F_mid (lo := (t157 : Int).toNat) (hi := ((ji21) : Int).toNat) (c := co8) hC40 (by omega) (by omega) hroom40
                                      obtain ⟨A40, hA40⟩ : ∃ A1, A1 = (if co8 = (t157 : Int).toNat then Ao8 else (Ao8 : Option Addr).map (·.add ((t157 : Int).toNat * 1))) := ⟨_, rfl⟩
                                      obtain ⟨c40, hc40⟩ : ∃ c1, c1 = co8 - (t157 : Int).toNat := ⟨_, rfl⟩
                                      have hy40 : y166.length = ((ji21) : Int).toNat - (t157 : Int).toNat := (by rw [Ny166.out, List.length_drop, List.length_take] <;> omega)
                                      rw [show ((t154).take ((ji21) : Int).toNat).drop (t157 : Int).toNat = y166 from Ny166.out.symm] at hr40
                                      replace hr40 : Kd.F (Kd.int .u8) _ _ A40 y166.length y166 := (by rw [hA40]; exact hr40)
                                      rw [← hy40, ← hA40, ← hc40] at hcut40
                                      have HO170 := Aside0.mk (show Kd.V (Kd.int .u8) 5 _ w.heap.size _ (.slice A40 y166.length c40) y166 from Kd.V_mk (by rw [hy40, hc40]; exact Nat.sub_le_sub_right (Nat.le_trans (by omega) hroom40) _) hr40)
                                      have HC170 := Aside0.mk (show y166.length ≤ c40 from by rw [hy40, hc40]; exact Nat.sub_le_sub_right (Nat.le_trans (by omega) hroom40) _)
                                      clear hr40 hC40 hroom40 hi040 hsz40 hc40
                                      have KY40 := Aside0.mk hy40
                                      have KA40 := Aside0.mk hA40
                                      clear hy40 hA40
                                      replace q40 := eq_true q40
                                      (first | have hcv41 := own_string (P := Tryd.prog) Tryd.underlying22 Tryd.underlying5 Tryd.underlying9 (Kd.own_of_R HO170.out) | have hcv41 := V_string (P := Tryd.prog) Tryd.underlying22 Tryd.underlying5 Tryd.underlying9 HO170.out)
                                      have p171 : 0 ≤ (t157 : Int) := of_decide_eq_true (by first | (with_reducible assumption) | assumption)
                                      have q171 : t157 < (t154.length : Int) := of_decide_eq_true (by first | (with_reducible assumption) | assumption)
                                      obtain ⟨ad171, e171, hx171_0⟩ := Kd.at_int (Kd.V_reads' HO_4.out).2.2 t157 p171 q171
                                      cases e171
                                      replace p171 := eq_true p171
                                      replace q171 := eq_true q171
                                      have p172 : 0 ≤ (t157 : Int) := of_decide_eq_true (by first | (with_reducible assumption) | assumption)
                                      have q172 : t157 < (t154.length : Int) := of_decide_eq_true (by first | (with_reducible assumption) | assumption)
                                      obtain ⟨ad172, e172, hx172_0⟩ := Kd.at_int (Kd.V_reads' HO_4.out).2.2 t157 p172 q172
                                      obtain rfl : ad171 = ad172 := (by injection e172)
                                      replace p172 := eq_true p172
                                      replace q172 := eq_true q172
                                      have p173 : 0 ≤ (t157 : Int) := of_decide_eq_true (by first | (with_reducible assumption) | assumption)
                                      have q173 : t157 < (t154.length : Int) := of_decide_eq_true (by first | (with_reducible assumption) | assumption)
                                      obtain ⟨ad173, e173, hx173_0⟩ := Kd.at_int (Kd.V_reads' HO_4.out).2.2 t157 p173 q173
                                      obtain rfl : ad171 = ad173 := (by injection e173)
                                      replace p173 := eq_true p173
                                      replace q173 := eq_true q173
                                      go_wp2
                                      go_ret
                                      exact ⟨by first | rfl | (simp [errW_none, errW_some] <;> rfl) | (simp only [← hji21]; first | rfl | (simp [errW_none, errW_some] <;> rfl)) | (simp [*, errW_none, errW_some] <;> rfl), by repeat (first | (with_reducible first | exact HB.out | apply below_alloc | apply pw_below_drewN | apply below_drew1) | exact HB.out)⟩
                                    · rw [if_neg c39] at H
                                      have c39b0 : ((rd t154 t157) == 9) = false := beq_eq_false_iff_ne.mpr c39
                                      have c39b1 : ((rd t154 t157) != 9) = true := bne_iff_ne.mpr c39
                                      by_cases c42 : (rd t154 t157) = 10
                                      · rw [if_pos c42] at H
                                        have c42b0 : ((rd t154 t157) == 10) = true := beq_iff_eq.mpr c42
                                        have c42b1 : ((rd t154 t157) != 10) = false := bne_eq_false_iff_eq.mpr c42
                                        clear c42
                                        obtain rfl := Option.some.inj H
                                        have q43 : ((ji21) : Int) ≤ ((t154.length : Int) : Int) := of_decide_eq_true (by first | (with_reducible assumption) | assumption)
                                        obtain ⟨i043, hi043, _, hsz43, _⟩ := info_parts info5
                                        have hroom43 : t154.length ≤ co8 := (Kd.V_reads' HO_4.out).2.1
                                        have hC43 : Kd.F (Kd.int .u8) _ _ Ao8 t154.length t154 := (Kd.V_at (base := w.heap.size) HO_4.out).2.2
                                        have ql43 : (t157 : Int) ≤ ((ji21) : Int) := of_decide_eq_true (by first | (with_reducible assumption) | assumption)
                                        have q043 : (0 : Int) ≤ (t157 : Int) := of_decide_eq_true (by first | (with_reducible assumption) | assumption)
                                        have hcut43 := cut_mid (P := Tryd.prog) 22 5 .i64 .i64 Tryd.underlying22 hi043 1 hsz43 Ao8 t154.length co8 t157 (ji21) q043 ql43 q43 hroom43
                                        have hr43 := Kd.F_mid (lo := (t157 : Int).toNat) (hi := ((ji21) : Int).toNat) (c := co8) hC43 (by omega) (by omega) hroom43
                                        obtain ⟨A43, hA43⟩ : ∃ A1, A1 = (if co8 = (t157 : Int).toNat then Ao8 else (Ao8 : Option Addr).map (·.add ((t157 : Int).toNat * 1))) := ⟨_, rfl⟩
                                        obtain ⟨c43, hc43⟩ : ∃ c1, c1 = co8 - (t157 : Int).toNat := ⟨_, rfl⟩
                                        have hy43 : y166.length = ((ji21) : Int).toNat - (t157 : Int).toNat := (by rw [Ny166.out, List.length_drop, List.length_take] <;> omega)
                                        rw [show ((t154).take ((ji21) : Int).toNat).drop (t157 : Int).toNat = y166 from Ny166.out.symm] at hr43
                                        replace hr43 : Kd.F (Kd.int .u8) _ _ A43 y166.length y166 := (by rw [hA43]; exact hr43)
                                        rw [← hy43, ← hA43, ← hc43] at hcut43
                                        have HO170 := Aside0.mk (show Kd.V (Kd.int .u8) 5 _ w.heap.size _ (.slice A43 y166.length c43) y166 from Kd.V_mk (by rw [hy43, hc43]; exact Nat.sub_le_sub_right (Nat.le_trans (by omega) hroom43) _) hr43)
                                        have HC170 := Aside0.mk (show y166.length ≤ c43 from by rw [hy43, hc43]; exact Nat.sub_le_sub_right (Nat.le_trans (by omega) hroom43) _)
                                        clear hr43 hC43 hroom43 hi043 hsz43 hc43
                                        have KY43 := Aside0.mk hy43
                                        have KA43 := Aside0.mk hA43
                                        clear hy43 hA43
                                        replace q43 := eq_true q43
                                        (first | have hcv44 := own_string (P := Tryd.prog) Tryd.underlying22 Tryd.underlying5 Tryd.underlying9 (Kd.own_of_R HO170.out) | have hcv44 := V_string (P := Tryd.prog) Tryd.underlying22 Tryd.underlying5 Tryd.underlying9 HO170.out)
                                        have p171 : 0 ≤ (t157 : Int) := of_decide_eq_true (by first | (with_reducible assumption) | assumption)
                                        have q171 : t157 < (t154.length : Int) := of_decide_eq_true (by first | (with_reducible assumption) | assumption)
                                        obtain ⟨ad171, e171, hx171_0⟩ := Kd.at_int (Kd.V_reads' HO_4.out).2.2 t157 p171 q171
                                        cases e171
                                        replace p171 := eq_true p171
                                        replace q171 := eq_true q171
                                        have p172 : 0 ≤ (t157 : Int) := of_decide_eq_true (by first | (with_reducible assumption) | assumption)
                                        have q172 : t157 < (t154.length : Int) := of_decide_eq_true (by first | (with_reducible assumption) | assumption)
                                        obtain ⟨ad172, e172, hx172_0⟩ := Kd.at_int (Kd.V_reads' HO_4.out).2.2 t157 p172 q172
                                        obtain rfl : ad171 = ad172 := (by injection e172)
                                        replace p172 := eq_true p172
                                        replace q172 := eq_true q172
                                        have p173 : 0 ≤ (t157 : Int) := of_decide_eq_true (by first | (with_reducible assumption) | assumption)
                                        have q173 : t157 < (t154.length : Int) := of_decide_eq_true (by first | (with_reducible assumption) | assumption)
                                        obtain ⟨ad173, e173, hx173_0⟩ := Kd.at_int (Kd.V_reads' HO_4.out).2.2 t157 p173 q173
                                        obtain rfl : ad171 = ad173 := (by injection e173)
                                        replace p173 := eq_true p173
                                        replace q173 := eq_true q173
                                        have p174 : 0 ≤ (t157 : Int) := of_decide_eq_true (by first | (with_reducible assumption) | assumption)
                                        have q174 : t157 < (t154.length : Int) := of_decide_eq_true (by first | (with_reducible assumption) | assumption)
                                        obtain ⟨ad174, e174, hx174_0⟩ := Kd.at_int (Kd.V_reads' HO_4.out).2.2 t157 p174 q174
                                        obtain rfl : ad171 = ad174 := (by injection e174)
                                        replace p174 := eq_true p174
                                        replace q174 := eq_true q174
                                        go_wp2
                                        go_ret
                                        exact ⟨by first | rfl | (simp [errW_none, errW_some] <;> rfl) | (simp only [← hji21]; first | rfl | (simp [errW_none, errW_some] <;> rfl)) | (simp [*, errW_none, errW_some] <;> rfl), by repeat (first | (with_reducible first | exact HB.out | apply below_alloc | apply pw_below_drewN | apply below_drew1) | exact HB.out)⟩
                                      · rw [if_neg c42] at H
                                        have c42b0 : ((rd t154 t157) == 10) = false := beq_eq_false_iff_ne.mpr c42
                                        have c42b1 : ((rd t154 t157) != 10) = true := bne_iff_ne.mpr c42
                                        by_cases c45 : (rd t154 t157) = 13
                                        · rw [if_pos c45] at H
                                          have c45b0 : ((rd t154 t157) == 13) = true := beq_iff_eq.mpr c45
                                          have c45b1 : ((rd t154 t157) != 13) = false := bne_eq_false_iff_eq.mpr c45
                                          clear c45
                                          obtain rfl := Option.some.inj H
                                          have q46 : ((ji21) : Int) ≤ ((t154.length : Int) : Int) := of_decide_eq_true (by first | (with_reducible assumption) | assumption)
                                          obtain ⟨i046, hi046, _, hsz46, _⟩ := info_parts info5
                                          have hroom46 : t154.length ≤ co8 := (Kd.V_reads' HO_4.out).2.1
                                          have hC46 : Kd.F (Kd.int .u8) _ _ Ao8 t154.length t154 := (Kd.V_at (base := w.heap.size) HO_4.out).2.2
                                          have ql46 : (t157 : Int) ≤ ((ji21) : Int) := of_decide_eq_true (by first | (with_reducible assumption) | assumption)
                                          have q046 : (0 : Int) ≤ (t157 : Int) := of_decide_eq_true (by first | (with_reducible assumption) | assumption)
                                          have hcut46 := cut_mid (P := Tryd.prog) 22 5 .i64 .i64 Tryd.underlying22 hi046 1 hsz46 Ao8 t154.length co8 t157 (ji21) q046 ql46 q46 hroom46
                                          have hr46 := Kd.F_mid (lo := (t157 : Int).toNat) (hi := ((ji21) : Int).toNat) (c := co8) hC46 (by omega) (by omega) hroom46
                                          obtain ⟨A46, hA46⟩ : ∃ A1, A1 = (if co8 = (t157 : Int).toNat then Ao8 else (Ao8 : Option Addr).map (·.add ((t157 : Int).toNat * 1))) := ⟨_, rfl⟩
                                          obtain ⟨c46, hc46⟩ : ∃ c1, c1 = co8 - (t157 : Int).toNat := ⟨_, rfl⟩
                                          have hy46 : y166.length = ((ji21) : Int).toNat - (t157 : Int).toNat := (by rw [Ny166.out, List.length_drop, List.length_take] <;> omega)
                                          rw [show ((t154).take ((ji21) : Int).toNat).drop (t157 : Int).toNat = y166 from Ny166.out.symm] at hr46
                                          replace hr46 : Kd.F (Kd.int .u8) _ _ A46 y166.length y166 := (by rw [hA46]; exact hr46)
                                          rw [← hy46, ← hA46, ← hc46] at hcut46
                                          have HO170 := Aside0.mk (show Kd.V (Kd.int .u8) 5 _ w.heap.size _ (.slice A46 y166.length c46) y166 from Kd.V_mk (by rw [hy46, hc46]; exact Nat.sub_le_sub_right (Nat.le_trans (by omega) hroom46) _) hr46)
                                          have HC170 := Aside0.mk (show y166.length ≤ c46 from by rw [hy46, hc46]; exact Nat.sub_le_sub_right (Nat.le_trans (by omega) hroom46) _)
                                          clear hr46 hC46 hroom46 hi046 hsz46 hc46
                                          have KY46 := Aside0.mk hy46
                                          have KA46 := Aside0.mk hA46
                                          clear hy46 hA46
                                          replace q46 := eq_true q46
                                          (first | have hcv47 := own_string (P := Tryd.prog) Tryd.underlying22 Tryd.underlying5 Tryd.underlying9 (Kd.own_of_R HO170.out) | have hcv47 := V_string (P := Tryd.prog) Tryd.underlying22 Tryd.underlying5 Tryd.underlying9 HO170.out)
                                          have p171 : 0 ≤ (t157 : Int) := of_decide_eq_true (by first | (with_reducible assumption) | assumption)
                                          have q171 : t157 < (t154.length : Int) := of_decide_eq_true (by first | (with_reducible assumption) | assumption)
                                          obtain ⟨ad171, e171, hx171_0⟩ := Kd.at_int (Kd.V_reads' HO_4.out).2.2 t157 p171 q171
                                          cases e171
                                          replace p171 := eq_true p171
                                          replace q171 := eq_true q171
                                          have p172 : 0 ≤ (t157 : Int) := of_decide_eq_true (by first | (with_reducible assumption) | assumption)
                                          have q172 : t157 < (t154.length : Int) := of_decide_eq_true (by first | (with_reducible assumption) | assumption)
                                          obtain ⟨ad172, e172, hx172_0⟩ := Kd.at_int (Kd.V_reads' HO_4.out).2.2 t157 p172 q172
                                          obtain rfl : ad171 = ad172 := (by injection e172)
                                          replace p172 := eq_true p172
                                          replace q172 := eq_true q172
                                          have p173 : 0 ≤ (t157 : Int) := of_decide_eq_true (by first | (with_reducible assumption) | assumption)
                                          have q173 : t157 < (t154.length : Int) := of_decide_eq_true (by first | (with_reducible assumption) | assumption)
                                          obtain ⟨ad173, e173, hx173_0⟩ := Kd.at_int (Kd.V_reads' HO_4.out).2.2 t157 p173 q173
                                          obtain rfl : ad171 = ad173 := (by injection e173)
                                          replace p173 := eq_true p173
                                          replace q173 := eq_true q173
                                          have p174 : 0 ≤ (t157 : Int) := of_decide_eq_true (by first | (with_reducible assumption) | assumption)
                                          have q174 : t157 < (t154.length : Int) := of_decide_eq_true (by first | (with_reducible assumption) | assumption)
                                          obtain ⟨ad174, e174, hx174_0⟩ := Kd.at_int (Kd.V_reads' HO_4.out).2.2 t157 p174 q174
                                          obtain rfl : ad171 = ad174 := (by injection e174)
                                          replace p174 := eq_true p174
                                          replace q174 := eq_true q174
                                          have p175 : 0 ≤ (t157 : Int) := of_decide_eq_true (by first | (with_reducible assumption) | assumption)
                                          have q175 : t157 < (t154.length : Int) := of_decide_eq_true (by first | (with_reducible assumption) | assumption)
                                          obtain ⟨ad175, e175, hx175_0⟩ := Kd.at_int (Kd.V_reads' HO_4.out).2.2 t157 p175 q175
                                          obtain rfl : ad171 = ad175 := (by injection e175)
                                          replace p175 := eq_true p175
                                          replace q175 := eq_true q175
                                          go_wp2
                                          go_ret
                                          exact ⟨by first | rfl | (simp [errW_none, errW_some] <;> rfl) | (simp only [← hji21]; first | rfl | (simp [errW_none, errW_some] <;> rfl)) | (simp [*, errW_none, errW_some] <;> rfl), by repeat (first | (with_reducible first | exact HB.out | apply below_alloc | apply pw_below_drewN | apply below_drew1) | exact HB.out)⟩
                                        · rw [if_neg c45] at H
                                          have c45b0 : ((rd t154 t157) == 13) = false := beq_eq_false_iff_ne.mpr c45
                                          have c45b1 : ((rd t154 t157) != 13) = true := bne_iff_ne.mpr c45
                                          obtain rfl := Option.some.inj H
                                          have q48 : ((ji21) : Int) ≤ ((t154.length : Int) : Int) := of_decide_eq_true (by first | (with_reducible assumption) | assumption)
                                          obtain ⟨i048, hi048, _, hsz48, _⟩ := info_parts info5
                                          have hroom48 : t154.length ≤ co8 := (Kd.V_reads' HO_4.out).2.1
                                          have hC48 : Kd.F (Kd.int .u8) _ _ Ao8 t154.length t154 := (Kd.V_at (base := w.heap.size) HO_4.out).2.2
                                          have ql48 : (t157 : Int) ≤ ((ji21) : Int) := of_decide_eq_true (by first | (with_reducible assumption) | assumption)
                                          have q048 : (0 : Int) ≤ (t157 : Int) := of_decide_eq_true (by first | (with_reducible assumption) | assumption)
                                          have hcut48 := cut_mid (P := Tryd.prog) 22 5 .i64 .i64 Tryd.underlying22 hi048 1 hsz48 Ao8 t154.length co8 t157 (ji21) q048 ql48 q48 hroom48
                                          have hr48 := Kd.F_mid (lo := (t157 : Int).toNat) (hi := ((ji21) : Int).toNat) (c := co8) hC48 (by omega) (by omega) hroom48
                                          obtain ⟨A48, hA48⟩ : ∃ A1, A1 = (if co8 = (t157 : Int).toNat then Ao8 else (Ao8 : Option Addr).map (·.add ((t157 : Int).toNat * 1))) := ⟨_, rfl⟩
                                          obtain ⟨c48, hc48⟩ : ∃ c1, c1 = co8 - (t157 : Int).toNat := ⟨_, rfl⟩
                                          have hy48 : y166.length = ((ji21) : Int).toNat - (t157 : Int).toNat := (by rw [Ny166.out, List.length_drop, List.length_take] <;> omega)
                                          rw [show ((t154).take ((ji21) : Int).toNat).drop (t157 : Int).toNat = y166 from Ny166.out.symm] at hr48
                                          replace hr48 : Kd.F (Kd.int .u8) _ _ A48 y166.length y166 := (by rw [hA48]; exact hr48)
                                          rw [← hy48, ← hA48, ← hc48] at hcut48
                                          have HO170 := Aside0.mk (show Kd.V (Kd.int .u8) 5 _ w.heap.size _ (.slice A48 y166.length c48) y166 from Kd.V_mk (by rw [hy48, hc48]; exact Nat.sub_le_sub_right (Nat.le_trans (by omega) hroom48) _) hr48)
                                          have HC170 := Aside0.mk (show y166.length ≤ c48 from by rw [hy48, hc48]; exact Nat.sub_le_sub_right (Nat.le_trans (by omega) hroom48) _)
                                          clear hr48 hC48 hroom48 hi048 hsz48 hc48
                                          have KY48 := Aside0.mk hy48
                                          have KA48 := Aside0.mk hA48
                                          clear hy48 hA48
                                          replace q48 := eq_true q48
                                          (first | have hcv49 := own_string (P := Tryd.prog) Tryd.underlying22 Tryd.underlying5 Tryd.underlying9 (Kd.own_of_R HO170.out) | have hcv49 := V_string (P := Tryd.prog) Tryd.underlying22 Tryd.underlying5 Tryd.underlying9 HO170.out)
                                          have p171 : 0 ≤ (t157 : Int) := of_decide_eq_true (by first | (with_reducible assumption) | assumption)
                                          have q171 : t157 < (t154.length : Int) := of_decide_eq_true (by first | (with_reducible assumption) | assumption)
                                          obtain ⟨ad171, e171, hx171_0⟩ := Kd.at_int (Kd.V_reads' HO_4.out).2.2 t157 p171 q171
                                          cases e171
                                          replace p171 := eq_true p171
                                          replace q171 := eq_true q171
                                          have p172 : 0 ≤ (t157 : Int) := of_decide_eq_true (by first | (with_reducible assumption) | assumption)
                                          have q172 : t157 < (t154.length : Int) := of_decide_eq_true (by first | (with_reducible assumption) | assumption)
                                          obtain ⟨ad172, e172, hx172_0⟩ := Kd.at_int (Kd.V_reads' HO_4.out).2.2 t157 p172 q172
                                          obtain rfl : ad171 = ad172 := (by injection e172)
                                          replace p172 := eq_true p172
                                          replace q172 := eq_true q172
                                          have p173 : 0 ≤ (t157 : Int) := of_decide_eq_true (by first | (with_reducible assumption) | assumption)
                                          have q173 : t157 < (t154.length : Int) := of_decide_eq_true (by first | (with_reducible assumption) | assumption)
                                          obtain ⟨ad173, e173, hx173_0⟩ := Kd.at_int (Kd.V_reads' HO_4.out).2.2 t157 p173 q173
                                          obtain rfl : ad171 = ad173 := (by injection e173)
                                          replace p173 := eq_true p173
                                          replace q173 := eq_true q173
                                          have p174 : 0 ≤ (t157 : Int) := of_decide_eq_true (by first | (with_reducible assumption) | assumption)
                                          have q174 : t157 < (t154.length : Int) := of_decide_eq_true (by first | (with_reducible assumption) | assumption)
                                          obtain ⟨ad174, e174, hx174_0⟩ := Kd.at_int (Kd.V_reads' HO_4.out).2.2 t157 p174 q174
                                          obtain rfl : ad171 = ad174 := (by injection e174)
                                          replace p174 := eq_true p174
                                          replace q174 := eq_true q174
                                          have p175 : 0 ≤ (t157 : Int) := of_decide_eq_true (by first | (with_reducible assumption) | assumption)
                                          have q175 : t157 < (t154.length : Int) := of_decide_eq_true (by first | (with_reducible assumption) | assumption)
                                          obtain ⟨ad175, e175, hx175_0⟩ := Kd.at_int (Kd.V_reads' HO_4.out).2.2 t157 p175 q175
                                          obtain rfl : ad171 = ad175 := (by injection e175)
                                          replace p175 := eq_true p175
                                          replace q175 := eq_true q175
                                          go_wp2
                                          go_ret
                                          exact ⟨by first | rfl | (simp [errW_none, errW_some] <;> rfl) | (simp only [← hji21]; first | rfl | (simp [errW_none, errW_some] <;> rfl)) | (simp [*, errW_none, errW_some] <;> rfl), by repeat (first | (with_reducible first | exact HB.out | apply below_alloc | apply pw_below_drewN | apply below_drew1) | exact HB.out)⟩
                              · rw [if_neg c32] at H
                                exact absurd H (by simp)
                          · rw [if_neg c28] at H
                            have c28b0 : (t158 == 0) = false := beq_eq_false_iff_ne.mpr c28
                            have c28b1 : (t158 != 0) = true := bne_iff_ne.mpr c28
                            obtain rfl := Option.some.inj H
                            have q50 : ((ji21) : Int) ≤ ((t154.length : Int) : Int) := of_decide_eq_true (by first | (with_reducible assumption) | assumption)
                            obtain ⟨i050, hi050, _, hsz50, _⟩ := info_parts info5
                            have hroom50 : t154.length ≤ co8 := (Kd.V_reads' HO_4.out).2.1
                            have hC50 : Kd.F (Kd.int .u8) _ _ Ao8 t154.length t154 := (Kd.V_at (base := w.heap.size) HO_4.out).2.2
                            have ql50 : (t157 : Int) ≤ ((ji21) : Int) := of_decide_eq_true (by first | (with_reducible assumption) | assumption)
                            have q050 : (0 : Int) ≤ (t157 : Int) := of_decide_eq_true (by first | (with_reducible assumption) | assumption)
                            have hcut50 := cut_mid (P := Tryd.prog) 22 5 .i64 .i64 Tryd.underlying22 hi050 1 hsz50 Ao8 t154.length co8 t157 (ji21) q050 ql50 q50 hroom50
                            have hr50 := Kd.F_mid (lo := (t157 : Int).toNat) (hi := ((ji21) : Int).toNat) (c := co8) hC50 (by omega) (by omega) hroom50
                            obtain ⟨A50, hA50⟩ : ∃ A1, A1 = (if co8 = (t157 : Int).toNat then Ao8 else (Ao8 : Option Addr).map (·.add ((t157 : Int).toNat * 1))) := ⟨_, rfl⟩
                            obtain ⟨c50, hc50⟩ : ∃ c1, c1 = co8 - (t157 : Int).toNat := ⟨_, rfl⟩
                            have hy50 : y166.length = ((ji21) : Int).toNat - (t157 : Int).toNat := (by rw [Ny166.out, List.length_drop, List.length_take] <;> omega)
                            rw [show ((t154).take ((ji21) : Int).toNat).drop (t157 : Int).toNat = y166 from Ny166.out.symm] at hr50
                            replace hr50 : Kd.F (Kd.int .u8) _ _ A50 y166.length y166 := (by rw [hA50]; exact hr50)
                            rw [← hy50, ← hA50, ← hc50] at hcut50
                            have HO170 := Aside0.mk (show Kd.V (Kd.int .u8) 5 _ w.heap.size _ (.slice A50 y166.length c50) y166 from Kd.V_mk (by rw [hy50, hc50]; exact Nat.sub_le_sub_right (Nat.le_trans (by omega) hroom50) _) hr50)
                            have HC170 := Aside0.mk (show y166.length ≤ c50 from by rw [hy50, hc50]; exact Nat.sub_le_sub_right (Nat.le_trans (by omega) hroom50) _)
                            clear hr50 hC50 hroom50 hi050 hsz50 hc50
                            have KY50 := Aside0.mk hy50
                            have KA50 := Aside0.mk hA50
                            clear hy50 hA50
                            replace q50 := eq_true q50
                            (first | have hcv51 := own_string (P := Tryd.prog) Tryd.underlying22 Tryd.underlying5 Tryd.underlying9 (Kd.own_of_R HO170.out) | have hcv51 := V_string (P := Tryd.prog) Tryd.underlying22 Tryd.underlying5 Tryd.underlying9 HO170.out)
                            go_wp2
                            go_ret
                            exact ⟨by first | rfl | (simp [errW_none, errW_some] <;> rfl) | (simp only [← hji21]; first | rfl | (simp [errW_none, errW_some] <;> rfl)) | (simp [*, errW_none, errW_some] <;> rfl), by repeat (first | (with_reducible first | exact HB.out | apply below_alloc | apply pw_below_drewN | apply below_drew1) | exact HB.out)⟩
                      · rw [if_neg c24] at H
                        exact absurd H (by simp)
                    · rw [if_neg c23] at H
                      exact absurd H (by simp)
                  · rw [if_neg c22] at H
                    exact absurd H (by simp)
          · rw [if_neg c14] at H
            exact absurd H (by simp)
        · rw [if_neg c13] at H
          exact absurd H (by simp)

/-- THE ONE PURE STATEMENT of tmesislaw05_LayoutEnds: yours. -/
def tmesislaw05_LayoutEnds.Pure : Prop := ∀ (l0 : List Int), l0.length ≤ maxLen → l0.length * 1 ≤ 140737488351232 → (∀ x ∈ l0, (Lit.int .u8 x).wf = true) → ∃ k, tmesislaw05_LayoutEnds.f k l0 = some true
theorem tmesislaw05_LayoutEnds.walk (P : tmesislaw05_LayoutEnds.Pure) (a0 : Option Addr) (len0 cap0 : Nat) (z0 : List Int) (w : World) (hG : Gl w) (w0 : (a0 = none ∧ len0 = 0 ∧ cap0 = 0 ∧ z0 = []) ∨ ∃ x, a0 = some x ∧ len0 ≤ cap0 ∧ cap0 ≤ maxLen ∧ z0.length = cap0 ∧ (∀ i, i < z0.length → w.cell? (x.add i) = some (.int .u8 (z0.getD i 0))) ∧ ∀ n ∈ z0, (Lit.int .u8 n).wf = true) (y0 : len0 * 1 ≤ 140737488351232) :
    Calls Tryd.prog 4 #[.slice a0 len0 cap0] w fun e w' => e = .returned (.bool true) ∧ Below w.heap.size w w' := by
  obtain ⟨l0, rfl, hr0, hm0, hw0, hc0⟩ := ReadsInt.ofRowC w0
  obtain ⟨k, h⟩ := P l0 hm0 y0 hw0
  refine (tmesislaw05_LayoutEnds.calls k _ _ l0 true w hG (Kd.C_of_reads (d := (0 : Int)) (h1 := fun _ => rfl) hr0) hc0 h).mono ?_
  rintro e w' ⟨rfl, hd⟩
  exact ⟨rfl, hd⟩

end Go.Proofs.YtfmhhjimnhfbaaaDoor.P
