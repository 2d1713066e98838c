-- Written by a program of this session (wip/xprint.py), out of the translation.
import Derived.Test.YtapgcagnmlfdiaaDoorPx0
import Derived.Test.YtapgcagnmlfdiaaDoorPx1
import Derived.Test.YtapgcagnmlfdiaaDoorPx4
import Derived.Test.YtapgcagnmlfdiaaDoorHG
namespace Go.Proofs.YtapgcagnmlfdiaaDoor.P
open Go.RowKit Go.Proofs.YtapgcagnmlfdiaaDoorW.PrintWords Go.Proofs.YtapgcagnmlfdiaaDoorW.PrintLast Go.Proofs.YtapgcagnmlfdiaaDoorW.PrintMore
attribute [local go_sem] max2_int min2_int max_two min_two max_three min_three max_four min_four   -- for this text's walks alone
set_option linter.unusedVariables false
set_option linter.unusedSimpArgs false

/-! ### tmesislaw03_DigitsOrders: function 6 -/
def tmesislaw03_DigitsOrders.j0 : Nat → Int → Int → List Int → List Int → Bool → Option (Bool)
  | 0, _, _, _, _, _ => none
  | k + 1, x6, x7, x8, x10, x38 => if x38 = true then (some false) else (if (x8.length : Int) = (x10.length : Int) then (if ((Op.bytesLess ((strOfNums x8).toList) ((strOfNums x10).toList)) == (decide (x6 < x7))) = true then (some (((strOfNums x8).toList == (strOfNums x10).toList) == (x6 == x7))) else (some false)) else (some ((decide ((x8.length : Int) < (x10.length : Int))) == (decide (x6 < x7)))))
def tmesislaw03_DigitsOrders.f (k : Nat) (a0 : Int) (a1 : Int) : Option (Bool) := (tmesislaw03_shown.f k).bind fun t210 => ((digits_Put.f k (Go.bits .and .i64 (wrap64 (a0)) 2147483647)).bind fun bt211 => ((digits_Put.f k (Go.bits .and .i64 (wrap64 (a1)) 2147483647)).bind fun bt215 => (if t210 = true then (if bt211.2 = 0 then (tmesislaw03_DigitsOrders.j0 k (Go.bits .and .i64 (wrap64 (a0)) 2147483647) (Go.bits .and .i64 (wrap64 (a1)) 2147483647) bt211.1 bt215.1 (bt215.2 != 0)) else (tmesislaw03_DigitsOrders.j0 k (Go.bits .and .i64 (wrap64 (a0)) 2147483647) (Go.bits .and .i64 (wrap64 (a1)) 2147483647) bt211.1 bt215.1 true)) else (tmesislaw03_DigitsOrders.j0 k (Go.bits .and .i64 (wrap64 (a0)) 2147483647) (Go.bits .and .i64 (wrap64 (a1)) 2147483647) bt211.1 bt215.1 true))))
theorem tmesislaw03_DigitsOrders.mono_l : ∀ k, (∀ y0 y1 y2 y3 y4, LeO (tmesislaw03_DigitsOrders.j0 k y0 y1 y2 y3 y4) (tmesislaw03_DigitsOrders.j0 (k + 1) y0 y1 y2 y3 y4))
  | 0 => fun _ _ _ _ _ r h => by simp [tmesislaw03_DigitsOrders.j0] at h
  | k + 1 => by
    have ih0 := tmesislaw03_DigitsOrders.mono_l k
    · intro y0 y1 y2 y3 y4
      unfold tmesislaw03_DigitsOrders.j0
      repeat' first
      | (with_reducible exact ih0 _ _ _ _ _)
      | (with_reducible exact digits_Put.mono _ _)
      | (with_reducible exact tmesislaw03_shown.mono _)
      | (with_reducible exact LeO.refl _)
      | (with_reducible exact LeO.none _)
      | (with_reducible refine LeO.ite ?_ ?_)
      | (with_reducible refine LeO.bind ?_ (fun _ => ?_))
      | exact ih0 _ _ _ _ _
      | exact digits_Put.mono _ _
      | exact tmesislaw03_shown.mono _
      | exact LeO.none _
      | refine LeO.ite ?_ ?_
      | refine LeO.bind ?_ (fun _ => ?_)
theorem tmesislaw03_DigitsOrders.mono : ∀ a0 a1 k, LeO (tmesislaw03_DigitsOrders.f k a0 a1) (tmesislaw03_DigitsOrders.f (k + 1) a0 a1) := by
  intro a0 a1 k
  have ih0 := tmesislaw03_DigitsOrders.mono_l k
  unfold tmesislaw03_DigitsOrders.f
  repeat' first
      | (with_reducible exact ih0 _ _ _ _ _)
      | (with_reducible exact digits_Put.mono _ _)
      | (with_reducible exact tmesislaw03_shown.mono _)
      | (with_reducible exact LeO.refl _)
      | (with_reducible exact LeO.none _)
      | (with_reducible refine LeO.ite ?_ ?_)
      | (with_reducible refine LeO.bind ?_ (fun _ => ?_))
      | exact ih0 _ _ _ _ _
      | exact digits_Put.mono _ _
      | exact tmesislaw03_shown.mono _
      | exact LeO.none _
      | refine LeO.ite ?_ ?_
      | refine LeO.bind ?_ (fun _ => ?_)
set_option maxHeartbeats 8000000 in
set_option maxRecDepth 100000 in
theorem tmesislaw03_DigitsOrders.calls (k : Nat) (a0 : Int) (a1 : Int) (r : Bool) (w : World) (hG : Gl w) (h : tmesislaw03_DigitsOrders.f k a0 a1 = some r) :
    Calls Tryd.prog 6 #[.int .u32 a0, .int .u32 a1] w fun e w' => e = .returned (.bool r) ∧ Below w.heap.size w w' := by
  have HB := Aside0.mk (Below.refl w.heap.size w)
  have HG := Aside0.mk hG
  clear hG
  have H : ((tmesislaw03_shown.f k).bind fun t210 => ((digits_Put.f k (Go.bits .and .i64 (wrap64 (a0)) 2147483647)).bind fun bt211 => ((digits_Put.f k (Go.bits .and .i64 (wrap64 (a1)) 2147483647)).bind fun bt215 => (if t210 = true then (if bt211.2 = 0 then (tmesislaw03_DigitsOrders.j0 k (Go.bits .and .i64 (wrap64 (a0)) 2147483647) (Go.bits .and .i64 (wrap64 (a1)) 2147483647) bt211.1 bt215.1 (bt215.2 != 0)) else (tmesislaw03_DigitsOrders.j0 k (Go.bits .and .i64 (wrap64 (a0)) 2147483647) (Go.bits .and .i64 (wrap64 (a1)) 2147483647) bt211.1 bt215.1 true)) else (tmesislaw03_DigitsOrders.j0 k (Go.bits .and .i64 (wrap64 (a0)) 2147483647) (Go.bits .and .i64 (wrap64 (a1)) 2147483647) bt211.1 bt215.1 true))))) = some r := h
  clear h
  replace H := Option.bind_eq_some_iff.mp H
  obtain ⟨t210, A30, H⟩ := H
  replace H : ((digits_Put.f k (Go.bits .and .i64 (wrap64 (a0)) 2147483647)).bind fun bt211 => ((digits_Put.f k (Go.bits .and .i64 (wrap64 (a1)) 2147483647)).bind fun bt215 => (if t210 = true then (if bt211.2 = 0 then (tmesislaw03_DigitsOrders.j0 k (Go.bits .and .i64 (wrap64 (a0)) 2147483647) (Go.bits .and .i64 (wrap64 (a1)) 2147483647) bt211.1 bt215.1 (bt215.2 != 0)) else (tmesislaw03_DigitsOrders.j0 k (Go.bits .and .i64 (wrap64 (a0)) 2147483647) (Go.bits .and .i64 (wrap64 (a1)) 2147483647) bt211.1 bt215.1 true)) else (tmesislaw03_DigitsOrders.j0 k (Go.bits .and .i64 (wrap64 (a0)) 2147483647) (Go.bits .and .i64 (wrap64 (a1)) 2147483647) bt211.1 bt215.1 true)))) = some r := H
  have A3 := Aside0.mk A30
  clear A30
  replace H := Option.bind_eq_some_iff.mp H
  obtain ⟨⟨t211, t212⟩, A40, H⟩ := H
  replace H : ((digits_Put.f k (Go.bits .and .i64 (wrap64 (a1)) 2147483647)).bind fun bt215 => (if t210 = true then (if t212 = 0 then (tmesislaw03_DigitsOrders.j0 k (Go.bits .and .i64 (wrap64 (a0)) 2147483647) (Go.bits .and .i64 (wrap64 (a1)) 2147483647) t211 bt215.1 (bt215.2 != 0)) else (tmesislaw03_DigitsOrders.j0 k (Go.bits .and .i64 (wrap64 (a0)) 2147483647) (Go.bits .and .i64 (wrap64 (a1)) 2147483647) t211 bt215.1 true)) else (tmesislaw03_DigitsOrders.j0 k (Go.bits .and .i64 (wrap64 (a0)) 2147483647) (Go.bits .and .i64 (wrap64 (a1)) 2147483647) t211 bt215.1 true))) = some r := H
  have A4 := Aside0.mk A40
  clear A40
  replace H := Option.bind_eq_some_iff.mp H
  obtain ⟨⟨t215, t216⟩, A50, H⟩ := H
  replace H : (if t210 = true then (if t212 = 0 then (tmesislaw03_DigitsOrders.j0 k (Go.bits .and .i64 (wrap64 (a0)) 2147483647) (Go.bits .and .i64 (wrap64 (a1)) 2147483647) t211 t215 (t216 != 0)) else (tmesislaw03_DigitsOrders.j0 k (Go.bits .and .i64 (wrap64 (a0)) 2147483647) (Go.bits .and .i64 (wrap64 (a1)) 2147483647) t211 t215 true)) else (tmesislaw03_DigitsOrders.j0 k (Go.bits .and .i64 (wrap64 (a0)) 2147483647) (Go.bits .and .i64 (wrap64 (a1)) 2147483647) t211 t215 true)) = some r := H
  have A5 := Aside0.mk A50
  clear A50
  have HC6 := Aside0.mk H
  clear H
  go_enter Tryd.func6, Tryd.ntmps6
  go_upto_region 6 with (first | ((with_reducible refine gate_callee (f := 7) rfl ?_); refine goesL_ (some 12) rfl rfl Tryd.func7 (by kernel_rfl) rfl #[] rfl (by (try simp only [List.map_toArray, List.map_cons, List.map_nil]); first | done | rfl | (simp only [List.length_drop, List.length_take]; rfl)) ?_; (with_reducible refine (tmesislaw03_shown.calls k  t210 _ ?side1 A3.out).mono ?_); (case side1 => exact Gl.below HG.out (by repeat (first | (with_reducible first | exact HB.out | apply below_alloc | apply pw_below_drewN | apply below_drew1) | exact HB.out))); rintro e w7 ⟨rfl, hb⟩; refine ⟨_, rfl, ?_⟩; have n0_ := Aside0.mk (below_step (by repeat (first | (with_reducible first | exact HB.out | apply below_alloc | apply pw_below_drewN | apply below_drew1) | exact HB.out)) hb); clear HB; have HB := n0_; clear n0_; (try clear hb); (try clear hb2); (try clear hk); (try clear hi)) | ((with_reducible refine gate_callee (f := 11) rfl ?_); refine goesL_ (some 21) rfl rfl Tryd.func11 (by kernel_rfl) rfl #[.int .i64 (Go.bits .and .i64 (wrap64 (a0)) 2147483647)] rfl (by (try simp only [List.map_toArray, List.map_cons, List.map_nil]); first | done | rfl | (simp only [List.length_drop, List.length_take]; rfl)) ?_; (with_reducible refine (digits_Put.calls k (Go.bits .and .i64 (wrap64 (a0)) 2147483647) t211 t212 _ A4.out).mono ?_); rintro e w8 ⟨v213, rfl, ho0, hb⟩; refine ⟨_, rfl, ?_⟩; have n0_ := Aside0.mk (Kd.R_lower ho0 (below_size (by repeat (first | (with_reducible first | exact HB.out | apply below_alloc | apply pw_below_drewN | apply below_drew1) | exact HB.out)))); have n1_ := Aside0.mk (below_step (by repeat (first | (with_reducible first | exact HB.out | apply below_alloc | apply pw_below_drewN | apply below_drew1) | exact HB.out)) hb); clear HB; have HO214 := n0_; have HB := n1_; clear n0_ n1_; (try clear hb); (try clear hb2); (try clear hk); (try clear hi); (try clear ho0)) | ((with_reducible refine gate_callee (f := 11) rfl ?_); refine goesL_ (some 26) rfl rfl Tryd.func11 (by kernel_rfl) rfl #[.int .i64 (Go.bits .and .i64 (wrap64 (a1)) 2147483647)] rfl (by (try simp only [List.map_toArray, List.map_cons, List.map_nil]); first | done | rfl | (simp only [List.length_drop, List.length_take]; rfl)) ?_; (with_reducible refine (digits_Put.calls k (Go.bits .and .i64 (wrap64 (a1)) 2147483647) t215 t216 _ A5.out).mono ?_); rintro e w9 ⟨v217, rfl, ho0, hb⟩; refine ⟨_, rfl, ?_⟩; have n0_ := Aside0.mk (Kd.R_elder' (by (with_reducible repeat (first | apply Kd.R_alloc | apply Kd.R_drewN | apply Kd.R_drew)); exact HO214.out) (Kd.R_base ho0) hb); have n1_ := Aside0.mk (Kd.R_lower (Kd.R_new' ho0 (Kd.R_lt (by (with_reducible repeat (first | apply Kd.R_alloc | apply Kd.R_drewN | apply Kd.R_drew)); exact HO214.out))) (below_size (by repeat (first | (with_reducible first | exact HB.out | apply below_alloc | apply pw_below_drewN | apply below_drew1) | exact HB.out)))); have n2_ := Aside0.mk (below_step (by repeat (first | (with_reducible first | exact HB.out | apply below_alloc | apply pw_below_drewN | apply below_drew1) | exact HB.out)) hb); clear HO214; clear HB; have HO214 := n0_; have HO218 := n1_; have HB := n2_; clear n0_ n1_ n2_; (try clear hb); (try clear hb2); (try clear hk); (try clear hi); (try clear ho0)))
  (try simp only [Act.put, List.setIfInBounds_toArray, List.set_cons_zero, List.set_cons_succ])
  go_cut [38] (fun v38 wc => ∃ (kq : Nat) (x38_5 : Bool), v38 = .bool x38_5 ∧ Aside0 (tmesislaw03_DigitsOrders.j0 kq (Go.bits .and .i64 (wrap64 (a0)) 2147483647) (Go.bits .and .i64 (wrap64 (a1)) 2147483647) t211 t215 x38_5 = some r) ∧ Aside0 (kq ≤ k) ∧ Aside0 (Kd.R (Kd.int .u8) 5 wc w.heap.size (fun k_ => some k_ ≠ (v217 : Value).ownBlock) v213 t211) ∧ Aside0 (Kd.R (Kd.int .u8) 5 wc w.heap.size (fun k_ => some k_ ≠ (v213 : Value).ownBlock) v217 t215) ∧ Aside0 (Below w.heap.size w wc))
  case first =>
    have H := HC6.out
    clear HC6
    by_cases c10 : t210 = true
    · subst c10
      have H1 : (if t212 = 0 then (tmesislaw03_DigitsOrders.j0 k (Go.bits .and .i64 (wrap64 (a0)) 2147483647) (Go.bits .and .i64 (wrap64 (a1)) 2147483647) t211 t215 (t216 != 0)) else (tmesislaw03_DigitsOrders.j0 k (Go.bits .and .i64 (wrap64 (a0)) 2147483647) (Go.bits .and .i64 (wrap64 (a1)) 2147483647) t211 t215 true)) = some r := by rw [if_pos rfl] at H; exact H
      clear H
      have H := H1
      clear H1
      by_cases c11 : t212 = 0
      · rw [if_pos c11] at H
        have c11b0 : (t212 == 0) = true := beq_iff_eq.mpr c11
        have c11b1 : (t212 != 0) = false := bne_eq_false_iff_eq.mpr c11
        clear c11
        (first | rw [c11b0] | (simp only [i64_w, i32_w]; rw [c11b0]) | skip)
        have H' := Aside0.mk H
        clear H
        go_wp2
        go_meet
        case rel => exact ⟨_, ((t216 != 0)), (by first | rfl | (simp; done) | (simp [*]; done)), H', ⟨by first | omega | exact Nat.le_refl _⟩, ⟨by (with_reducible repeat (first | apply Kd.R_alloc | apply Kd.R_drewN | apply Kd.R_drew)); exact Kd.R_mono HO214.out (fun _ hk => hk.2)⟩, ⟨by (with_reducible repeat (first | apply Kd.R_alloc | apply Kd.R_drewN | apply Kd.R_drew)); exact Kd.R_mono HO218.out (fun _ hk => hk.2)⟩, ⟨by repeat (first | (with_reducible first | exact HB.out | apply below_alloc | apply pw_below_drewN | apply below_drew1) | exact HB.out)⟩⟩
      · rw [if_neg c11] at H
        have c11b0 : (t212 == 0) = false := beq_eq_false_iff_ne.mpr c11
        have c11b1 : (t212 != 0) = true := bne_iff_ne.mpr c11
        (first | rw [c11b0] | (simp only [i64_w, i32_w]; rw [c11b0]) | skip)
        have H' := Aside0.mk H
        clear H
        go_wp2
        go_meet
        case rel => exact ⟨_, (true), (by first | rfl | (simp; done) | (simp [*]; done)), H', ⟨by first | omega | exact Nat.le_refl _⟩, ⟨by (with_reducible repeat (first | apply Kd.R_alloc | apply Kd.R_drewN | apply Kd.R_drew)); exact Kd.R_mono HO214.out (fun _ hk => hk.2)⟩, ⟨by (with_reducible repeat (first | apply Kd.R_alloc | apply Kd.R_drewN | apply Kd.R_drew)); exact Kd.R_mono HO218.out (fun _ hk => hk.2)⟩, ⟨by repeat (first | (with_reducible first | exact HB.out | apply below_alloc | apply pw_below_drewN | apply below_drew1) | exact HB.out)⟩⟩
    · replace c10 := Bool.eq_false_iff.mpr c10
      subst c10
      have H1 : (tmesislaw03_DigitsOrders.j0 k (Go.bits .and .i64 (wrap64 (a0)) 2147483647) (Go.bits .and .i64 (wrap64 (a1)) 2147483647) t211 t215 true) = some r := by rw [if_neg (show ¬ (false = true) by decide)] at H; exact H
      clear H
      have H := H1
      clear H1
      have H' := Aside0.mk H
      clear H
      go_wp2
      go_meet
      case rel => exact ⟨_, (true), (by first | rfl | (simp; done) | (simp [*]; done)), H', ⟨by first | omega | exact Nat.le_refl _⟩, ⟨by (with_reducible repeat (first | apply Kd.R_alloc | apply Kd.R_drewN | apply Kd.R_drew)); exact Kd.R_mono HO214.out (fun _ hk => hk.2)⟩, ⟨by (with_reducible repeat (first | apply Kd.R_alloc | apply Kd.R_drewN | apply Kd.R_drew)); exact Kd.R_mono HO218.out (fun _ hk => hk.2)⟩, ⟨by repeat (first | (with_reducible first | exact HB.out | apply below_alloc | apply pw_below_drewN | apply below_drew1) | exact HB.out)⟩⟩
  case rest =>
    clear HC6
    try clear c1
    try clear p2
    try clear c6
    try clear p6
    try clear c7
    try clear c10
    try clear c11
    try clear c11b0
    try clear c11b1
    obtain ⟨kq, x38_5, rfl, HA, HJ5, HO_8, HO_10, HB⟩ := hcut
    cases kq with
    | zero => exact absurd HA.out (by simp [tmesislaw03_DigitsOrders.j0])
    | succ kj5 =>
      have H := HA.out
      clear HA
      simp only [tmesislaw03_DigitsOrders.j0] at H
      by_cases c12 : x38_5 = true
      · subst c12
        have H1 : (some false) = some r := by rw [if_pos rfl] at H; exact H
        clear H
        have H := H1
        clear H1
        obtain rfl := Option.some.inj H
        go_wp2
        go_ret
        exact ⟨by first | rfl | (simp [errW_none, errW_some] <;> rfl) | (simp [*, errW_none, errW_some] <;> rfl), by repeat (first | (with_reducible first | exact HB.out | apply below_alloc | apply pw_below_drewN | apply below_drew1) | exact HB.out)⟩
      · replace c12 := Bool.eq_false_iff.mpr c12
        subst c12
        have H1 : (if (t211.length : Int) = (t215.length : Int) then (if ((Op.bytesLess ((strOfNums t211).toList) ((strOfNums t215).toList)) == (decide ((Go.bits .and .i64 (wrap64 (a0)) 2147483647) < (Go.bits .and .i64 (wrap64 (a1)) 2147483647)))) = true then (some (((strOfNums t211).toList == (strOfNums t215).toList) == ((Go.bits .and .i64 (wrap64 (a0)) 2147483647) == (Go.bits .and .i64 (wrap64 (a1)) 2147483647)))) else (some false)) else (some ((decide ((t211.length : Int) < (t215.length : Int))) == (decide ((Go.bits .and .i64 (wrap64 (a0)) 2147483647) < (Go.bits .and .i64 (wrap64 (a1)) 2147483647)))))) = some r := by rw [if_neg (show ¬ (false = true) by decide)] at H; exact H
        clear H
        have H := H1
        clear H1
        by_cases c13 : (t211.length : Int) = (t215.length : Int)
        · rw [if_pos c13] at H
          have c13b0 : ((t211.length : Int) == (t215.length : Int)) = true := beq_iff_eq.mpr c13
          have c13b1 : ((t211.length : Int) != (t215.length : Int)) = false := bne_eq_false_iff_eq.mpr c13
          have c13b2 : (t211.length == t215.length) = true := by first | simpa using c13 | (simp at c13 ⊢; omega)
          clear c13
          by_cases c14 : ((Op.bytesLess ((strOfNums t211).toList) ((strOfNums t215).toList)) == (decide ((Go.bits .and .i64 (wrap64 (a0)) 2147483647) < (Go.bits .and .i64 (wrap64 (a1)) 2147483647)))) = true
          · rw [if_pos c14] at H
            have c14b0 : ((Op.bytesLess ((strOfNums t211).toList) ((strOfNums t215).toList)) == (decide ((Go.bits .and .i64 (wrap64 (a0)) 2147483647) < (Go.bits .and .i64 (wrap64 (a1)) 2147483647)))) = true := c14
            (try (have c14b1 : decide ((Op.bytesLess ((strOfNums t211).toList) ((strOfNums t215).toList)) = (decide ((Go.bits .and .i64 (wrap64 (a0)) 2147483647) < (Go.bits .and .i64 (wrap64 (a1)) 2147483647)))) = true := by simpa using c14))
            (try (have c14b2 : ((Op.bytesLess ((strOfNums t211).toList) ((strOfNums t215).toList)) == (decide ((Go.bits .and .i64 (wrap64 (a0)) 2147483647) < (Go.bits .and .i64 (wrap64 (a1)) 2147483647)))) = true := by simpa using c14))
            clear c14
            obtain rfl := Option.some.inj H
            obtain ⟨Ao15, co15, eo15⟩ := Kd.R_slice HO_8.out
            subst eo15
            obtain ⟨Ao16, co16, eo16⟩ := Kd.R_slice HO_10.out
            subst eo16
            have hcv17 := own_string (P := Tryd.prog) Tryd.underlying22 Tryd.underlying5 Tryd.underlying9 (Kd.own_of_R HO_8.out)
            have hcv18 := own_string (P := Tryd.prog) Tryd.underlying22 Tryd.underlying5 Tryd.underlying9 (Kd.own_of_R HO_10.out)
            have hcv19 := own_string (P := Tryd.prog) Tryd.underlying22 Tryd.underlying5 Tryd.underlying9 (Kd.own_of_R HO_8.out)
            have hcv20 := own_string (P := Tryd.prog) Tryd.underlying22 Tryd.underlying5 Tryd.underlying9 (Kd.own_of_R HO_10.out)
            go_wp2
            go_ret
            exact ⟨by first | rfl | (simp [errW_none, errW_some] <;> rfl) | (simp [*, errW_none, errW_some] <;> rfl), by repeat (first | (with_reducible first | exact HB.out | apply below_alloc | apply pw_below_drewN | apply below_drew1) | exact HB.out)⟩
          · rw [if_neg c14] at H
            have c14b0 : ((Op.bytesLess ((strOfNums t211).toList) ((strOfNums t215).toList)) == (decide ((Go.bits .and .i64 (wrap64 (a0)) 2147483647) < (Go.bits .and .i64 (wrap64 (a1)) 2147483647)))) = false := by simpa using c14
            (try (have c14b1 : decide ((Op.bytesLess ((strOfNums t211).toList) ((strOfNums t215).toList)) = (decide ((Go.bits .and .i64 (wrap64 (a0)) 2147483647) < (Go.bits .and .i64 (wrap64 (a1)) 2147483647)))) = false := by simpa using c14))
            (try (have c14b2 : ((Op.bytesLess ((strOfNums t211).toList) ((strOfNums t215).toList)) == (decide ((Go.bits .and .i64 (wrap64 (a0)) 2147483647) < (Go.bits .and .i64 (wrap64 (a1)) 2147483647)))) = false := by simpa using c14))
            (try (have c14b3 : ¬ ((Op.bytesLess ((strOfNums t211).toList) ((strOfNums t215).toList)) = (decide ((Go.bits .and .i64 (wrap64 (a0)) 2147483647) < (Go.bits .and .i64 (wrap64 (a1)) 2147483647)))) := by simpa using c14))
            clear c14
            obtain rfl := Option.some.inj H
            obtain ⟨Ao21, co21, eo21⟩ := Kd.R_slice HO_8.out
            subst eo21
            obtain ⟨Ao22, co22, eo22⟩ := Kd.R_slice HO_10.out
            subst eo22
            have hcv23 := own_string (P := Tryd.prog) Tryd.underlying22 Tryd.underlying5 Tryd.underlying9 (Kd.own_of_R HO_8.out)
            have hcv24 := own_string (P := Tryd.prog) Tryd.underlying22 Tryd.underlying5 Tryd.underlying9 (Kd.own_of_R HO_10.out)
            go_wp2
            go_ret
            exact ⟨by first | rfl | (simp [errW_none, errW_some] <;> rfl) | (simp [*, errW_none, errW_some] <;> rfl), by repeat (first | (with_reducible first | exact HB.out | apply below_alloc | apply pw_below_drewN | apply below_drew1) | exact HB.out)⟩
        · rw [if_neg c13] at H
          have c13b0 : ((t211.length : Int) == (t215.length : Int)) = false := beq_eq_false_iff_ne.mpr c13
          have c13b1 : ((t211.length : Int) != (t215.length : Int)) = true := bne_iff_ne.mpr c13
          have c13b2 : (t211.length == t215.length) = false := by first | simpa using c13 | (simp at c13 ⊢; omega)
          obtain rfl := Option.some.inj H
          obtain ⟨Ao25, co25, eo25⟩ := Kd.R_slice HO_8.out
          subst eo25
          obtain ⟨Ao26, co26, eo26⟩ := Kd.R_slice HO_10.out
          subst eo26
          go_wp2
          go_ret
          exact ⟨by first | rfl | (simp [errW_none, errW_some] <;> rfl) | (simp [*, errW_none, errW_some] <;> rfl), by repeat (first | (with_reducible first | exact HB.out | apply below_alloc | apply pw_below_drewN | apply below_drew1) | exact HB.out)⟩

/-- THE ONE PURE STATEMENT of tmesislaw03_DigitsOrders: yours. -/
def tmesislaw03_DigitsOrders.Pure : Prop := ∀ (a0 : Int) (a1 : Int), (Lit.int .u32 a0).wf = true → (Lit.int .u32 a1).wf = true → ∃ k, tmesislaw03_DigitsOrders.f k a0 a1 = some true
theorem tmesislaw03_DigitsOrders.walk (P : tmesislaw03_DigitsOrders.Pure) (a0 : Int) (a1 : Int) (w : World) (hG : Gl w) (w0 : (Lit.int .u32 a0).wf = true) (w1 : (Lit.int .u32 a1).wf = true) :
    Calls Tryd.prog 6 #[.int .u32 a0, .int .u32 a1] w fun e w' => e = .returned (.bool true) ∧ Below w.heap.size w w' := by
  obtain ⟨k, h⟩ := P a0 a1 w0 w1
  refine (tmesislaw03_DigitsOrders.calls k a0 a1 true w hG h).mono ?_
  rintro e w' ⟨rfl, hd⟩
  exact ⟨rfl, hd⟩

end Go.Proofs.YtapgcagnmlfdiaaDoor.P
