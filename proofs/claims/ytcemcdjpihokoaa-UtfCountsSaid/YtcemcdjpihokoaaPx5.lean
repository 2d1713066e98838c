-- Written by a program of this session (wip/xprint.py), out of the translation.
import Derived.Test.YtcemcdjpihokoaaPx0
import Derived.Test.YtcemcdjpihokoaaPx1
import Derived.Test.YtcemcdjpihokoaaPx2
import Derived.Test.YtcemcdjpihokoaaPx3
namespace Go.Proofs.Ytcemcdjpihokoaa.P
open Go.RowKit Go.Proofs.YtcemcdjpihokoaaW.PrintWords Go.Proofs.YtcemcdjpihokoaaW.PrintLast Go.Proofs.YtcemcdjpihokoaaW.PrintMore
attribute [local go_sem] max2_int min2_int max_two min_two max_three min_three max_four min_four   -- for this text's walks alone
set_option linter.unusedVariables false
set_option linter.unusedSimpArgs false

/-! ### tmesislaw01_UtfCounts: function 6 -/
mutual
def tmesislaw01_UtfCounts.l0 : Nat → Bool → List Int → Int → Int → Bool → Bool → Option (Bool)
  | 0, _, _, _, _, _, _ => none
  | k + 1, x3, x4, x5, x6, x7, x8 => if x5 < (x4.length : Int) then (tmesislaw01_UtfCounts.j1 k x3 x4 x5 x6 x7 x8 (decide (x6 ≤ 200))) else (tmesislaw01_UtfCounts.j1 k x3 x4 x5 x6 x7 x8 false)
def tmesislaw01_UtfCounts.j1 : Nat → Bool → List Int → Int → Int → Bool → Bool → Bool → Option (Bool)
  | 0, _, _, _, _, _, _, _ => none
  | k + 1, x3, x4, x5, x6, x7, x8, x21 => if x21 = true then (if 0 ≤ x5 then (if x5 ≤ (x4.length : Int) then ((utf_Take.f k (x4.drop (x5 : Int).toNat)).bind fun bt263 => (if bt263.1 < 1 then (some false) else (if bt263.1 > 4 then (some false) else (if (wrap64 (x5 + bt263.1)) > (x4.length : Int) then (some false) else (if bt263.2 = true then (if x8 = true then (if x7 = true then (tmesislaw01_UtfCounts.l0 k x3 x4 (wrap64 (x5 + bt263.1)) (wrap64 (x6 + 1)) bt263.2 true) else (tmesislaw01_UtfCounts.l0 k x3 x4 (wrap64 (x5 + bt263.1)) (wrap64 (x6 + 1)) false true)) else (if x7 = true then (tmesislaw01_UtfCounts.l0 k x3 x4 (wrap64 (x5 + bt263.1)) (wrap64 (x6 + 1)) bt263.2 (decide (bt263.1 > 1))) else (tmesislaw01_UtfCounts.l0 k x3 x4 (wrap64 (x5 + bt263.1)) (wrap64 (x6 + 1)) false (decide (bt263.1 > 1))))) else (if bt263.1 = 1 then (if x8 = true then (if x7 = true then (tmesislaw01_UtfCounts.l0 k x3 x4 (wrap64 (x5 + bt263.1)) (wrap64 (x6 + 1)) bt263.2 true) else (tmesislaw01_UtfCounts.l0 k x3 x4 (wrap64 (x5 + bt263.1)) (wrap64 (x6 + 1)) false true)) else (if x7 = true then (tmesislaw01_UtfCounts.l0 k x3 x4 (wrap64 (x5 + bt263.1)) (wrap64 (x6 + 1)) bt263.2 (decide (bt263.1 > 1))) else (tmesislaw01_UtfCounts.l0 k x3 x4 (wrap64 (x5 + bt263.1)) (wrap64 (x6 + 1)) false (decide (bt263.1 > 1))))) else (some false))))))) else (none)) else (none)) else (if x3 = true then (if x5 = (x4.length : Int) then ((utf_Count.f k x4).bind fun t265 => (if t265 = x6 then ((utf_Valid.f k x4).bind fun t266 => (if (t266 == x7) = true then (some ((x6 == (x4.length : Int)) == (!x8))) else (some false))) else (some false))) else (some false)) else (some false))
end
def tmesislaw01_UtfCounts.f (k : Nat) (l0 : List Int) : Option (Bool) := (tmesislaw01_shown.f k).bind fun t254 => ((tmesislaw01_few.f l0).bind fun t255 => (tmesislaw01_UtfCounts.l0 k t254 t255 0 0 true false))
theorem tmesislaw01_UtfCounts.mono_l : ∀ k, (∀ y0 y1 y2 y3 y4 y5, LeO (tmesislaw01_UtfCounts.l0 k y0 y1 y2 y3 y4 y5) (tmesislaw01_UtfCounts.l0 (k + 1) y0 y1 y2 y3 y4 y5)) ∧ (∀ y0 y1 y2 y3 y4 y5 y6, LeO (tmesislaw01_UtfCounts.j1 k y0 y1 y2 y3 y4 y5 y6) (tmesislaw01_UtfCounts.j1 (k + 1) y0 y1 y2 y3 y4 y5 y6))
  | 0 => ⟨fun _ _ _ _ _ _ r h => by simp [tmesislaw01_UtfCounts.l0] at h, fun _ _ _ _ _ _ _ r h => by simp [tmesislaw01_UtfCounts.j1] at h⟩
  | k + 1 => by
    obtain ⟨ih0, ih1⟩ := tmesislaw01_UtfCounts.mono_l k
    refine ⟨?_, ?_⟩
    · intro y0 y1 y2 y3 y4 y5
      unfold tmesislaw01_UtfCounts.l0
      repeat' first
      | (with_reducible exact ih0 _ _ _ _ _ _)
      | (with_reducible exact ih1 _ _ _ _ _ _ _)
      | (with_reducible exact tmesislaw01_shown.mono _)
      | (with_reducible exact utf_Count.mono _ _)
      | (with_reducible exact utf_Take.mono _ _)
      | (with_reducible exact utf_Valid.mono _ _)
      | (with_reducible exact LeO.refl _)
      | (with_reducible exact LeO.none _)
      | (with_reducible refine LeO.ite ?_ ?_)
      | (with_reducible refine LeO.bind ?_ (fun _ => ?_))
      | exact ih0 _ _ _ _ _ _
      | exact ih1 _ _ _ _ _ _ _
      | exact tmesislaw01_shown.mono _
      | exact utf_Count.mono _ _
      | exact utf_Take.mono _ _
      | exact utf_Valid.mono _ _
      | exact LeO.none _
      | refine LeO.ite ?_ ?_
      | refine LeO.bind ?_ (fun _ => ?_)
    · intro y0 y1 y2 y3 y4 y5 y6
      unfold tmesislaw01_UtfCounts.j1
      repeat' first
      | (with_reducible exact ih0 _ _ _ _ _ _)
      | (with_reducible exact ih1 _ _ _ _ _ _ _)
      | (with_reducible exact tmesislaw01_shown.mono _)
      | (with_reducible exact utf_Count.mono _ _)
      | (with_reducible exact utf_Take.mono _ _)
      | (with_reducible exact utf_Valid.mono _ _)
      | (with_reducible exact LeO.refl _)
      | (with_reducible exact LeO.none _)
      | (with_reducible refine LeO.ite ?_ ?_)
      | (with_reducible refine LeO.bind ?_ (fun _ => ?_))
      | exact ih0 _ _ _ _ _ _
      | exact ih1 _ _ _ _ _ _ _
      | exact tmesislaw01_shown.mono _
      | exact utf_Count.mono _ _
      | exact utf_Take.mono _ _
      | exact utf_Valid.mono _ _
      | exact LeO.none _
      | refine LeO.ite ?_ ?_
      | refine LeO.bind ?_ (fun _ => ?_)
theorem tmesislaw01_UtfCounts.mono : ∀ a0 k, LeO (tmesislaw01_UtfCounts.f k a0) (tmesislaw01_UtfCounts.f (k + 1) a0) := by
  intro a0 k
  obtain ⟨ih0, ih1⟩ := tmesislaw01_UtfCounts.mono_l k
  unfold tmesislaw01_UtfCounts.f
  repeat' first
      | (with_reducible exact ih0 _ _ _ _ _ _)
      | (with_reducible exact ih1 _ _ _ _ _ _ _)
      | (with_reducible exact tmesislaw01_shown.mono _)
      | (with_reducible exact utf_Count.mono _ _)
      | (with_reducible exact utf_Take.mono _ _)
      | (with_reducible exact utf_Valid.mono _ _)
      | (with_reducible exact LeO.refl _)
      | (with_reducible exact LeO.none _)
      | (with_reducible refine LeO.ite ?_ ?_)
      | (with_reducible refine LeO.bind ?_ (fun _ => ?_))
      | exact ih0 _ _ _ _ _ _
      | exact ih1 _ _ _ _ _ _ _
      | exact tmesislaw01_shown.mono _
      | exact utf_Count.mono _ _
      | exact utf_Take.mono _ _
      | exact utf_Valid.mono _ _
      | exact LeO.none _
      | refine LeO.ite ?_ ?_
      | refine LeO.bind ?_ (fun _ => ?_)
set_option maxHeartbeats 8000000 in
set_option maxRecDepth 100000 in
theorem tmesislaw01_UtfCounts.calls (k : Nat) (A0 : Option Addr) (c0 : Nat) (l0 : List Int) (r : Bool) (w : World) (hr0 : Kd.C (Kd.int .u8) w A0 l0.length l0) (hc0 : l0.length ≤ c0) (h : tmesislaw01_UtfCounts.f k l0 = some r) :
    Calls Try.prog 6 #[.slice A0 l0.length c0] w fun e w' => e = .returned (.bool r) ∧ Below w.heap.size w w' := by
  have HR0 := Aside0.mk hr0
  have HC0 := Aside0.mk hc0
  clear hr0 hc0
  have HB := Aside0.mk (Below.refl w.heap.size w)
  have H : ((tmesislaw01_shown.f k).bind fun t254 => ((tmesislaw01_few.f l0).bind fun t255 => (tmesislaw01_UtfCounts.l0 k t254 t255 0 0 true false))) = some r := h
  clear h
  replace H := Option.bind_eq_some_iff.mp H
  obtain ⟨t254, A20, H⟩ := H
  replace H : ((tmesislaw01_few.f l0).bind fun t255 => (tmesislaw01_UtfCounts.l0 k t254 t255 0 0 true false)) = some r := H
  have A2 := Aside0.mk A20
  clear A20
  replace H := Option.bind_eq_some_iff.mp H
  obtain ⟨t255, A30, H⟩ := H
  replace H : (tmesislaw01_UtfCounts.l0 k t254 t255 0 0 true false) = some r := H
  have A3 := Aside0.mk A30
  clear A30
  have H' := Aside0.mk H
  clear H
  go_enter Try.func6, Try.ntmps6
  go_wp2_with (first | ((with_reducible refine gate_callee (f := 8) rfl ?_); refine goesL_ (some 11) rfl rfl Try.func8 (by kernel_rfl) rfl #[] rfl (by (try simp only [List.map_toArray, List.map_cons, List.map_nil]); first | done | rfl | (simp only [List.length_drop, List.length_take]; rfl)) ?_; (with_reducible refine (tmesislaw01_shown.calls k  t254 _ A2.out).mono ?_); rintro e w4 ⟨rfl, hb⟩; refine ⟨_, rfl, ?_⟩; have n0_ := Aside0.mk (below_step (by repeat (first | (with_reducible first | exact HB.out | apply below_alloc | apply pw_below_drewN | apply below_drew1) | exact HB.out)) hb); clear HB; have HB := n0_; clear n0_; (try clear hb); (try clear hb2); (try clear hk); (try clear hi)) | ((with_reducible refine gate_callee (f := 9) rfl ?_); refine goesL_ (some 13) rfl rfl Try.func9 (by kernel_rfl) rfl #[.slice A0 l0.length c0] rfl (by (try simp only [List.map_toArray, List.map_cons, List.map_nil]); first | done | rfl | (simp only [List.length_drop, List.length_take]; rfl)) ?_; (with_reducible refine (tmesislaw01_few.calls (fun k_ => k_ < w.heap.size) _ _ l0 t255 _ ?side1 A3.out).mono ?_); (case side1 => exact Kd.V_mk HC0.out (Kd.F_below (Kd.C_F (Kd.heap_int .u8) HR0.out) (by repeat (first | (with_reducible first | exact HB.out | apply below_alloc | apply pw_below_drewN | apply below_drew1) | exact HB.out)))); rintro e w5 ⟨v256, rfl, ho0, hb⟩; refine ⟨_, rfl, ?_⟩; have n0_ := Aside0.mk (Kd.V_lower (Kd.V_mono (ok' := fun k_ => True) ho0 (fun k_ hk_ => trivial)) (below_size (by repeat (first | (with_reducible first | exact HB.out | apply below_alloc | apply pw_below_drewN | apply below_drew1) | exact HB.out)))); have n1_ := Aside0.mk (below_step (by repeat (first | (with_reducible first | exact HB.out | apply below_alloc | apply pw_below_drewN | apply below_drew1) | exact HB.out)) hb); clear HB; have HO257 := n0_; have HB := n1_; clear n0_ n1_; (try clear hb); (try clear hb2); (try clear hk); (try clear hi); (try clear ho0)))
  go_loopg [5, 6, 7, 8] k (fun kq v5 v6 v7 v8 w' => ∃ (x5_1 : Int) (x6_1 : Int) (x7_1 : Bool) (x8_1 : Bool), v5 = .int .i64 x5_1 ∧ v6 = .int .i64 x6_1 ∧ v7 = .bool x7_1 ∧ v8 = .bool x8_1 ∧ Aside0 (tmesislaw01_UtfCounts.l0 kq t254 t255 x5_1 x6_1 x7_1 x8_1 = some r) ∧ Aside0 (kq ≤ k) ∧ Aside0 (Kd.V (Kd.int .u8) 5 w' w.heap.size (fun _ => True) v256 t255) ∧ Aside0 (Below w.heap.size w w'))
  case atStart => exact ⟨(0), (0), (true), (false), (by first | rfl | (simp; done) | (simp [*]; done)), (by first | rfl | (simp; done) | (simp [*]; done)), (by first | rfl | (simp; done) | (simp [*]; done)), (by first | rfl | (simp; done) | (simp [*]; done)), H', ⟨Nat.le_refl _⟩, ⟨by (with_reducible repeat (first | apply Kd.V_alloc | apply Kd.V_drewN | apply Kd.V_drew)); exact HO257.out⟩, ⟨by repeat (first | (with_reducible first | exact HB.out | apply below_alloc | apply pw_below_drewN | apply below_drew1) | exact HB.out)⟩⟩
  case round =>
    clear H'
    try clear p2
    obtain ⟨x5_1, x6_1, x7_1, x8_1, rfl, rfl, rfl, rfl, HA, HK1, HO_4, HB⟩ := hrel
    cases gk with
    | zero => exact absurd HA.out (by simp [tmesislaw01_UtfCounts.l0])
    | succ k1 =>
      have H := HA.out
      clear HA
      simp only [tmesislaw01_UtfCounts.l0] at H
      have HC6 := Aside0.mk H
      clear H
      go_upto_region 7 with (fail)
      go_cut [21] (fun v21 wc => ∃ (kq : Nat) (x21_5 : Bool), v21 = .bool x21_5 ∧ Aside0 (tmesislaw01_UtfCounts.j1 kq t254 t255 x5_1 x6_1 x7_1 x8_1 x21_5 = some r) ∧ Aside0 (kq ≤ k1) ∧ Aside0 (Kd.V (Kd.int .u8) 5 wc w.heap.size (fun _ => True) v256 t255) ∧ Aside0 (Below w.heap.size w wc))
      case first =>
        have H := HC6.out
        clear HC6
        by_cases c7 : x5_1 < (t255.length : Int)
        · rw [if_pos c7] at H
          have c7b0 : decide (x5_1 < (t255.length : Int)) = true := decide_eq_true c7
          clear c7
          (first | rw [c7b0] | (simp only [i64_w, i32_w]; rw [c7b0]) | skip)
          have H' := Aside0.mk H
          clear H
          obtain ⟨Ao8, co8, eo8⟩ := Kd.V_slice HO_4.out
          subst eo8
          go_wp2
          go_meet
          case rel => exact ⟨_, (decide (x6_1 ≤ 200)), (by first | rfl | (simp; done) | (simp [*]; done)), H', ⟨by have := HK1.out; first | omega | exact Nat.le_refl _⟩, ⟨by (with_reducible repeat (first | apply Kd.V_alloc | apply Kd.V_drewN | apply Kd.V_drew)); exact HO_4.out⟩, ⟨by repeat (first | (with_reducible first | exact HB.out | apply below_alloc | apply pw_below_drewN | apply below_drew1) | exact HB.out)⟩⟩
        · rw [if_neg c7] at H
          have c7b0 : decide (x5_1 < (t255.length : Int)) = false := decide_eq_false c7
          clear c7
          (first | rw [c7b0] | (simp only [i64_w, i32_w]; rw [c7b0]) | skip)
          have H' := Aside0.mk H
          clear H
          obtain ⟨Ao9, co9, eo9⟩ := Kd.V_slice HO_4.out
          subst eo9
          go_wp2
          go_meet
          case rel => exact ⟨_, (false), (by first | rfl | (simp; done) | (simp [*]; done)), H', ⟨by have := HK1.out; first | omega | exact Nat.le_refl _⟩, ⟨by (with_reducible repeat (first | apply Kd.V_alloc | apply Kd.V_drewN | apply Kd.V_drew)); exact HO_4.out⟩, ⟨by repeat (first | (with_reducible first | exact HB.out | apply below_alloc | apply pw_below_drewN | apply below_drew1) | exact HB.out)⟩⟩
      case rest =>
        clear HC6
        try clear p2
        try clear c6
        try clear c7
        try clear c7b0
        try clear c8
        try clear c9
        try clear p2
        obtain ⟨kq, x21_5, rfl, HA, HJ5, HO_4, HB⟩ := hcut
        cases kq with
        | zero => exact absurd HA.out (by simp [tmesislaw01_UtfCounts.j1])
        | succ kj5 =>
          have H := HA.out
          clear HA
          simp only [tmesislaw01_UtfCounts.j1] at H
          by_cases c10 : x21_5 = true
          · subst c10
            have H1 : (if 0 ≤ x5_1 then (if x5_1 ≤ (t255.length : Int) then ((utf_Take.f kj5 (t255.drop (x5_1 : Int).toNat)).bind fun bt263 => (if bt263.1 < 1 then (some false) else (if bt263.1 > 4 then (some false) else (if (wrap64 (x5_1 + bt263.1)) > (t255.length : Int) then (some false) else (if bt263.2 = true then (if x8_1 = true then (if x7_1 = true then (tmesislaw01_UtfCounts.l0 kj5 t254 t255 (wrap64 (x5_1 + bt263.1)) (wrap64 (x6_1 + 1)) bt263.2 true) else (tmesislaw01_UtfCounts.l0 kj5 t254 t255 (wrap64 (x5_1 + bt263.1)) (wrap64 (x6_1 + 1)) false true)) else (if x7_1 = true then (tmesislaw01_UtfCounts.l0 kj5 t254 t255 (wrap64 (x5_1 + bt263.1)) (wrap64 (x6_1 + 1)) bt263.2 (decide (bt263.1 > 1))) else (tmesislaw01_UtfCounts.l0 kj5 t254 t255 (wrap64 (x5_1 + bt263.1)) (wrap64 (x6_1 + 1)) false (decide (bt263.1 > 1))))) else (if bt263.1 = 1 then (if x8_1 = true then (if x7_1 = true then (tmesislaw01_UtfCounts.l0 kj5 t254 t255 (wrap64 (x5_1 + bt263.1)) (wrap64 (x6_1 + 1)) bt263.2 true) else (tmesislaw01_UtfCounts.l0 kj5 t254 t255 (wrap64 (x5_1 + bt263.1)) (wrap64 (x6_1 + 1)) false true)) else (if x7_1 = true then (tmesislaw01_UtfCounts.l0 kj5 t254 t255 (wrap64 (x5_1 + bt263.1)) (wrap64 (x6_1 + 1)) bt263.2 (decide (bt263.1 > 1))) else (tmesislaw01_UtfCounts.l0 kj5 t254 t255 (wrap64 (x5_1 + bt263.1)) (wrap64 (x6_1 + 1)) false (decide (bt263.1 > 1))))) else (some false))))))) else (none)) else (none)) = some r := by rw [if_pos rfl] at H; exact H
            clear H
            have H := H1
            clear H1
            by_cases c11 : 0 ≤ x5_1
            · rw [if_pos c11] at H
              have c11b0 := eq_true c11
              have c11b1 : decide (0 ≤ x5_1) = true := decide_eq_true c11
              clear c11
              by_cases c12 : x5_1 ≤ (t255.length : Int)
              · rw [if_pos c12] at H
                have c12b0 := eq_true c12
                have c12b1 : decide (x5_1 ≤ (t255.length : Int)) = true := decide_eq_true c12
                clear c12
                obtain ⟨y258, hy258⟩ : ∃ y_ : List Int, y_ = (t255.drop (x5_1 : Int).toNat) := ⟨_, rfl⟩
                replace H : ((utf_Take.f kj5 y258).bind fun bt263 => (if bt263.1 < 1 then (some false) else (if bt263.1 > 4 then (some false) else (if (wrap64 (x5_1 + bt263.1)) > (t255.length : Int) then (some false) else (if bt263.2 = true then (if x8_1 = true then (if x7_1 = true then (tmesislaw01_UtfCounts.l0 kj5 t254 t255 (wrap64 (x5_1 + bt263.1)) (wrap64 (x6_1 + 1)) bt263.2 true) else (tmesislaw01_UtfCounts.l0 kj5 t254 t255 (wrap64 (x5_1 + bt263.1)) (wrap64 (x6_1 + 1)) false true)) else (if x7_1 = true then (tmesislaw01_UtfCounts.l0 kj5 t254 t255 (wrap64 (x5_1 + bt263.1)) (wrap64 (x6_1 + 1)) bt263.2 (decide (bt263.1 > 1))) else (tmesislaw01_UtfCounts.l0 kj5 t254 t255 (wrap64 (x5_1 + bt263.1)) (wrap64 (x6_1 + 1)) false (decide (bt263.1 > 1))))) else (if bt263.1 = 1 then (if x8_1 = true then (if x7_1 = true then (tmesislaw01_UtfCounts.l0 kj5 t254 t255 (wrap64 (x5_1 + bt263.1)) (wrap64 (x6_1 + 1)) bt263.2 true) else (tmesislaw01_UtfCounts.l0 kj5 t254 t255 (wrap64 (x5_1 + bt263.1)) (wrap64 (x6_1 + 1)) false true)) else (if x7_1 = true then (tmesislaw01_UtfCounts.l0 kj5 t254 t255 (wrap64 (x5_1 + bt263.1)) (wrap64 (x6_1 + 1)) bt263.2 (decide (bt263.1 > 1))) else (tmesislaw01_UtfCounts.l0 kj5 t254 t255 (wrap64 (x5_1 + bt263.1)) (wrap64 (x6_1 + 1)) false (decide (bt263.1 > 1))))) else (some false))))))) = some r := by first | (rw [hy258]; with_reducible exact H) | (have H2_ := (Option.bind_some _ _).symm.trans H; rw [hy258]; with_reducible exact H2_) | (have H2_ := (Option.bind_some _ _).symm.trans H; with_reducible exact H2_) | with_reducible exact H | (rw [hy258]; exact H) | exact H
                have Ny258 := Aside0.mk hy258
                clear hy258
                replace H := Option.bind_eq_some_iff.mp H
                obtain ⟨⟨t263, t264⟩, A130, H⟩ := H
                replace H : (if t263 < 1 then (some false) else (if t263 > 4 then (some false) else (if (wrap64 (x5_1 + t263)) > (t255.length : Int) then (some false) else (if t264 = true then (if x8_1 = true then (if x7_1 = true then (tmesislaw01_UtfCounts.l0 kj5 t254 t255 (wrap64 (x5_1 + t263)) (wrap64 (x6_1 + 1)) t264 true) else (tmesislaw01_UtfCounts.l0 kj5 t254 t255 (wrap64 (x5_1 + t263)) (wrap64 (x6_1 + 1)) false true)) else (if x7_1 = true then (tmesislaw01_UtfCounts.l0 kj5 t254 t255 (wrap64 (x5_1 + t263)) (wrap64 (x6_1 + 1)) t264 (decide (t263 > 1))) else (tmesislaw01_UtfCounts.l0 kj5 t254 t255 (wrap64 (x5_1 + t263)) (wrap64 (x6_1 + 1)) false (decide (t263 > 1))))) else (if t263 = 1 then (if x8_1 = true then (if x7_1 = true then (tmesislaw01_UtfCounts.l0 kj5 t254 t255 (wrap64 (x5_1 + t263)) (wrap64 (x6_1 + 1)) t264 true) else (tmesislaw01_UtfCounts.l0 kj5 t254 t255 (wrap64 (x5_1 + t263)) (wrap64 (x6_1 + 1)) false true)) else (if x7_1 = true then (tmesislaw01_UtfCounts.l0 kj5 t254 t255 (wrap64 (x5_1 + t263)) (wrap64 (x6_1 + 1)) t264 (decide (t263 > 1))) else (tmesislaw01_UtfCounts.l0 kj5 t254 t255 (wrap64 (x5_1 + t263)) (wrap64 (x6_1 + 1)) false (decide (t263 > 1))))) else (some false)))))) = some r := H
                have A13 := Aside0.mk A130
                clear A130
                by_cases c14 : t263 < 1
                · rw [if_pos c14] at H
                  have c14b0 : decide (t263 < 1) = true := decide_eq_true c14
                  clear c14
                  obtain rfl := Option.some.inj H
                  obtain ⟨Ao16, co16, eo16⟩ := Kd.V_slice HO_4.out
                  subst eo16
                  have q15 : (x5_1 : Int) ≤ ((t255.length : Int) : Int) := of_decide_eq_true (by first | (with_reducible assumption) | assumption)
                  obtain ⟨i015, hi015, _, hsz15, _⟩ := info_parts info5
                  have hroom15 : t255.length ≤ co16 := (Kd.V_reads' HO_4.out).2.1
                  have hC15 : Kd.F (Kd.int .u8) _ _ Ao16 t255.length t255 := (Kd.V_at (base := w.heap.size) HO_4.out).2.2
                  have q015 : (0 : Int) ≤ (x5_1 : Int) := of_decide_eq_true (by first | (with_reducible assumption) | assumption)
                  have hcut15 := cut_from (P := Try.prog) 22 5 .i64 Try.underlying22 hi015 1 hsz15 Ao16 t255.length co16 x5_1 q015 q15
                  have hr15 := Kd.F_cut (m := (x5_1 : Int).toNat) (c := co16) hC15 (by omega) hroom15
                  obtain ⟨A15, hA15⟩ : ∃ A1, A1 = (if co16 = (x5_1 : Int).toNat then Ao16 else (Ao16 : Option Addr).map (·.add ((x5_1 : Int).toNat * 1))) := ⟨_, rfl⟩
                  obtain ⟨c15, hc15⟩ : ∃ c1, c1 = co16 - (x5_1 : Int).toNat := ⟨_, rfl⟩
                  have hy15 : y258.length = t255.length - (x5_1 : Int).toNat := (by rw [Ny258.out, List.length_drop] <;> omega)
                  rw [show (t255).drop (x5_1 : Int).toNat = y258 from Ny258.out.symm] at hr15
                  replace hr15 : Kd.F (Kd.int .u8) _ _ A15 y258.length y258 := (by rw [hA15]; exact hr15)
                  rw [← hy15, ← hA15, ← hc15] at hcut15
                  have HO262 := Aside0.mk (show Kd.V (Kd.int .u8) 5 _ w.heap.size _ (.slice A15 y258.length c15) y258 from Kd.V_mk (by rw [hy15, hc15]; exact Nat.sub_le_sub_right hroom15 _) hr15)
                  have HC262 := Aside0.mk (show y258.length ≤ c15 from by rw [hy15, hc15]; exact Nat.sub_le_sub_right hroom15 _)
                  clear hr15 hC15 hroom15 hi015 hsz15 hc15
                  have KY15 := Aside0.mk hy15
                  have KA15 := Aside0.mk hA15
                  clear hy15 hA15
                  replace q15 := eq_true q15
                  go_wp2_with (first | ((with_reducible refine gate_callee (f := 10) rfl ?_); refine goesL_ (some 26) rfl rfl Try.func10 (by kernel_rfl) rfl #[.slice A15 y258.length c15] rfl (by (try simp only [List.map_toArray, List.map_cons, List.map_nil]); first | done | rfl | (simp only [List.length_drop, List.length_take]; rfl)) ?_; (with_reducible refine (utf_Take.calls kj5 _ _ y258 t263 t264 _ ?side1 ?side2 A13.out).mono ?_); (case side1 => repeat (first | exact (Kd.V_reads' HO262.out).2.2 | (with_reducible refine Kd.C_alloc ?_ _) | (with_reducible refine Kd.C_drewN ?_ _) | (with_reducible refine Kd.C_drew ?_))); (case side2 => exact (Kd.V_reads' HO262.out).2.1); rintro e w17 ⟨rfl, hb⟩; refine ⟨_, rfl, ?_⟩; have n0_ := Aside0.mk (Kd.V_below (by (with_reducible repeat (first | apply Kd.V_alloc | apply Kd.V_drewN | apply Kd.V_drew)); exact HO_4.out) hb); have n1_ := Aside0.mk (Kd.V_below (by (with_reducible repeat (first | apply Kd.V_alloc | apply Kd.V_drewN | apply Kd.V_drew)); exact HO262.out) hb); have n2_ := Aside0.mk (below_step (by repeat (first | (with_reducible first | exact HB.out | apply below_alloc | apply pw_below_drewN | apply below_drew1) | exact HB.out)) hb); clear HO_4; clear HO262; clear HB; have HO_4 := n0_; have HO262 := n1_; have HB := n2_; clear n0_ n1_ n2_; (try clear hb); (try clear hb2); (try clear hk); (try clear hi)))
                  go_ret
                  exact ⟨by first | rfl | (simp [errW_none, errW_some] <;> rfl) | (simp [*, errW_none, errW_some] <;> rfl), by repeat (first | (with_reducible first | exact HB.out | apply below_alloc | apply pw_below_drewN | apply below_drew1) | exact HB.out)⟩
                · rw [if_neg c14] at H
                  have c14b0 : decide (t263 < 1) = false := decide_eq_false c14
                  clear c14
                  by_cases c18 : t263 > 4
                  · rw [if_pos c18] at H
                    have c18b0 : decide (4 < t263) = true := decide_eq_true c18
                    clear c18
                    obtain rfl := Option.some.inj H
                    obtain ⟨Ao20, co20, eo20⟩ := Kd.V_slice HO_4.out
                    subst eo20
                    have q19 : (x5_1 : Int) ≤ ((t255.length : Int) : Int) := of_decide_eq_true (by first | (with_reducible assumption) | assumption)
                    obtain ⟨i019, hi019, _, hsz19, _⟩ := info_parts info5
                    have hroom19 : t255.length ≤ co20 := (Kd.V_reads' HO_4.out).2.1
                    have hC19 : Kd.F (Kd.int .u8) _ _ Ao20 t255.length t255 := (Kd.V_at (base := w.heap.size) HO_4.out).2.2
                    have q019 : (0 : Int) ≤ (x5_1 : Int) := of_decide_eq_true (by first | (with_reducible assumption) | assumption)
                    have hcut19 := cut_from (P := Try.prog) 22 5 .i64 Try.underlying22 hi019 1 hsz19 Ao20 t255.length co20 x5_1 q019 q19
                    have hr19 := Kd.F_cut (m := (x5_1 : Int).toNat) (c := co20) hC19 (by omega) hroom19
                    obtain ⟨A19, hA19⟩ : ∃ A1, A1 = (if co20 = (x5_1 : Int).toNat then Ao20 else (Ao20 : Option Addr).map (·.add ((x5_1 : Int).toNat * 1))) := ⟨_, rfl⟩
                    obtain ⟨c19, hc19⟩ : ∃ c1, c1 = co20 - (x5_1 : Int).toNat := ⟨_, rfl⟩
                    have hy19 : y258.length = t255.length - (x5_1 : Int).toNat := (by rw [Ny258.out, List.length_drop] <;> omega)
                    rw [show (t255).drop (x5_1 : Int).toNat = y258 from Ny258.out.symm] at hr19
                    replace hr19 : Kd.F (Kd.int .u8) _ _ A19 y258.length y258 := (by rw [hA19]; exact hr19)
                    rw [← hy19, ← hA19, ← hc19] at hcut19
                    have HO262 := Aside0.mk (show Kd.V (Kd.int .u8) 5 _ w.heap.size _ (.slice A19 y258.length c19) y258 from Kd.V_mk (by rw [hy19, hc19]; exact Nat.sub_le_sub_right hroom19 _) hr19)
                    have HC262 := Aside0.mk (show y258.length ≤ c19 from by rw [hy19, hc19]; exact Nat.sub_le_sub_right hroom19 _)
                    clear hr19 hC19 hroom19 hi019 hsz19 hc19
                    have KY19 := Aside0.mk hy19
                    have KA19 := Aside0.mk hA19
                    clear hy19 hA19
                    replace q19 := eq_true q19
                    go_wp2_with (first | ((with_reducible refine gate_callee (f := 10) rfl ?_); refine goesL_ (some 26) rfl rfl Try.func10 (by kernel_rfl) rfl #[.slice A19 y258.length c19] rfl (by (try simp only [List.map_toArray, List.map_cons, List.map_nil]); first | done | rfl | (simp only [List.length_drop, List.length_take]; rfl)) ?_; (with_reducible refine (utf_Take.calls kj5 _ _ y258 t263 t264 _ ?side1 ?side2 A13.out).mono ?_); (case side1 => repeat (first | exact (Kd.V_reads' HO262.out).2.2 | (with_reducible refine Kd.C_alloc ?_ _) | (with_reducible refine Kd.C_drewN ?_ _) | (with_reducible refine Kd.C_drew ?_))); (case side2 => exact (Kd.V_reads' HO262.out).2.1); rintro e w21 ⟨rfl, hb⟩; refine ⟨_, rfl, ?_⟩; have n0_ := Aside0.mk (Kd.V_below (by (with_reducible repeat (first | apply Kd.V_alloc | apply Kd.V_drewN | apply Kd.V_drew)); exact HO_4.out) hb); have n1_ := Aside0.mk (Kd.V_below (by (with_reducible repeat (first | apply Kd.V_alloc | apply Kd.V_drewN | apply Kd.V_drew)); exact HO262.out) hb); have n2_ := Aside0.mk (below_step (by repeat (first | (with_reducible first | exact HB.out | apply below_alloc | apply pw_below_drewN | apply below_drew1) | exact HB.out)) hb); clear HO_4; clear HO262; clear HB; have HO_4 := n0_; have HO262 := n1_; have HB := n2_; clear n0_ n1_ n2_; (try clear hb); (try clear hb2); (try clear hk); (try clear hi)))
                    go_ret
                    exact ⟨by first | rfl | (simp [errW_none, errW_some] <;> rfl) | (simp [*, errW_none, errW_some] <;> rfl), by repeat (first | (with_reducible first | exact HB.out | apply below_alloc | apply pw_below_drewN | apply below_drew1) | exact HB.out)⟩
                  · rw [if_neg c18] at H
                    have c18b0 : decide (4 < t263) = false := decide_eq_false c18
                    clear c18
                    by_cases c22 : (wrap64 (x5_1 + t263)) > (t255.length : Int)
                    · rw [if_pos c22] at H
                      have c22b0 : decide ((t255.length : Int) < (wrap64 (x5_1 + t263))) = true := decide_eq_true c22
                      clear c22
                      obtain rfl := Option.some.inj H
                      obtain ⟨Ao24, co24, eo24⟩ := Kd.V_slice HO_4.out
                      subst eo24
                      have q23 : (x5_1 : Int) ≤ ((t255.length : Int) : Int) := of_decide_eq_true (by first | (with_reducible assumption) | assumption)
                      obtain ⟨i023, hi023, _, hsz23, _⟩ := info_parts info5
                      have hroom23 : t255.length ≤ co24 := (Kd.V_reads' HO_4.out).2.1
                      have hC23 : Kd.F (Kd.int .u8) _ _ Ao24 t255.length t255 := (Kd.V_at (base := w.heap.size) HO_4.out).2.2
                      have q023 : (0 : Int) ≤ (x5_1 : Int) := of_decide_eq_true (by first | (with_reducible assumption) | assumption)
                      have hcut23 := cut_from (P := Try.prog) 22 5 .i64 Try.underlying22 hi023 1 hsz23 Ao24 t255.length co24 x5_1 q023 q23
                      have hr23 := Kd.F_cut (m := (x5_1 : Int).toNat) (c := co24) hC23 (by omega) hroom23
                      obtain ⟨A23, hA23⟩ : ∃ A1, A1 = (if co24 = (x5_1 : Int).toNat then Ao24 else (Ao24 : Option Addr).map (·.add ((x5_1 : Int).toNat * 1))) := ⟨_, rfl⟩
                      obtain ⟨c23, hc23⟩ : ∃ c1, c1 = co24 - (x5_1 : Int).toNat := ⟨_, rfl⟩
                      have hy23 : y258.length = t255.length - (x5_1 : Int).toNat := (by rw [Ny258.out, List.length_drop] <;> omega)
                      rw [show (t255).drop (x5_1 : Int).toNat = y258 from Ny258.out.symm] at hr23
                      replace hr23 : Kd.F (Kd.int .u8) _ _ A23 y258.length y258 := (by rw [hA23]; exact hr23)
                      rw [← hy23, ← hA23, ← hc23] at hcut23
                      have HO262 := Aside0.mk (show Kd.V (Kd.int .u8) 5 _ w.heap.size _ (.slice A23 y258.length c23) y258 from Kd.V_mk (by rw [hy23, hc23]; exact Nat.sub_le_sub_right hroom23 _) hr23)
                      have HC262 := Aside0.mk (show y258.length ≤ c23 from by rw [hy23, hc23]; exact Nat.sub_le_sub_right hroom23 _)
                      clear hr23 hC23 hroom23 hi023 hsz23 hc23
                      have KY23 := Aside0.mk hy23
                      have KA23 := Aside0.mk hA23
                      clear hy23 hA23
                      replace q23 := eq_true q23
                      go_wp2_with (first | ((with_reducible refine gate_callee (f := 10) rfl ?_); refine goesL_ (some 26) rfl rfl Try.func10 (by kernel_rfl) rfl #[.slice A23 y258.length c23] rfl (by (try simp only [List.map_toArray, List.map_cons, List.map_nil]); first | done | rfl | (simp only [List.length_drop, List.length_take]; rfl)) ?_; (with_reducible refine (utf_Take.calls kj5 _ _ y258 t263 t264 _ ?side1 ?side2 A13.out).mono ?_); (case side1 => repeat (first | exact (Kd.V_reads' HO262.out).2.2 | (with_reducible refine Kd.C_alloc ?_ _) | (with_reducible refine Kd.C_drewN ?_ _) | (with_reducible refine Kd.C_drew ?_))); (case side2 => exact (Kd.V_reads' HO262.out).2.1); rintro e w25 ⟨rfl, hb⟩; refine ⟨_, rfl, ?_⟩; have n0_ := Aside0.mk (Kd.V_below (by (with_reducible repeat (first | apply Kd.V_alloc | apply Kd.V_drewN | apply Kd.V_drew)); exact HO_4.out) hb); have n1_ := Aside0.mk (Kd.V_below (by (with_reducible repeat (first | apply Kd.V_alloc | apply Kd.V_drewN | apply Kd.V_drew)); exact HO262.out) hb); have n2_ := Aside0.mk (below_step (by repeat (first | (with_reducible first | exact HB.out | apply below_alloc | apply pw_below_drewN | apply below_drew1) | exact HB.out)) hb); clear HO_4; clear HO262; clear HB; have HO_4 := n0_; have HO262 := n1_; have HB := n2_; clear n0_ n1_ n2_; (try clear hb); (try clear hb2); (try clear hk); (try clear hi)))
                      go_ret
                      exact ⟨by first | rfl | (simp [errW_none, errW_some] <;> rfl) | (simp [*, errW_none, errW_some] <;> rfl), by repeat (first | (with_reducible first | exact HB.out | apply below_alloc | apply pw_below_drewN | apply below_drew1) | exact HB.out)⟩
                    · rw [if_neg c22] at H
                      have c22b0 : decide ((t255.length : Int) < (wrap64 (x5_1 + t263))) = false := decide_eq_false c22
                      clear c22
                      by_cases c26 : t264 = true
                      · subst c26
                        have H1 : (if x8_1 = true then (if x7_1 = true then (tmesislaw01_UtfCounts.l0 kj5 t254 t255 (wrap64 (x5_1 + t263)) (wrap64 (x6_1 + 1)) true true) else (tmesislaw01_UtfCounts.l0 kj5 t254 t255 (wrap64 (x5_1 + t263)) (wrap64 (x6_1 + 1)) false true)) else (if x7_1 = true then (tmesislaw01_UtfCounts.l0 kj5 t254 t255 (wrap64 (x5_1 + t263)) (wrap64 (x6_1 + 1)) true (decide (t263 > 1))) else (tmesislaw01_UtfCounts.l0 kj5 t254 t255 (wrap64 (x5_1 + t263)) (wrap64 (x6_1 + 1)) false (decide (t263 > 1))))) = some r := by rw [if_pos rfl] at H; exact H
                        clear H
                        have H := H1
                        clear H1
                        by_cases c27 : x8_1 = true
                        · subst c27
                          have H1 : (if x7_1 = true then (tmesislaw01_UtfCounts.l0 kj5 t254 t255 (wrap64 (x5_1 + t263)) (wrap64 (x6_1 + 1)) true true) else (tmesislaw01_UtfCounts.l0 kj5 t254 t255 (wrap64 (x5_1 + t263)) (wrap64 (x6_1 + 1)) false true)) = some r := by rw [if_pos rfl] at H; exact H
                          clear H
                          have H := H1
                          clear H1
                          by_cases c28 : x7_1 = true
                          · subst c28
                            have H1 : (tmesislaw01_UtfCounts.l0 kj5 t254 t255 (wrap64 (x5_1 + t263)) (wrap64 (x6_1 + 1)) true true) = some r := by rw [if_pos rfl] at H; exact H
                            clear H
                            have H := H1
                            clear H1
                            have H' := Aside0.mk H
                            clear H
                            obtain ⟨Ao30, co30, eo30⟩ := Kd.V_slice HO_4.out
                            subst eo30
                            have q29 : (x5_1 : Int) ≤ ((t255.length : Int) : Int) := of_decide_eq_true (by first | (with_reducible assumption) | assumption)
                            obtain ⟨i029, hi029, _, hsz29, _⟩ := info_parts info5
                            have hroom29 : t255.length ≤ co30 := (Kd.V_reads' HO_4.out).2.1
                            have hC29 : Kd.F (Kd.int .u8) _ _ Ao30 t255.length t255 := (Kd.V_at (base := w.heap.size) HO_4.out).2.2
                            have q029 : (0 : Int) ≤ (x5_1 : Int) := of_decide_eq_true (by first | (with_reducible assumption) | assumption)
                            have hcut29 := cut_from (P := Try.prog) 22 5 .i64 Try.underlying22 hi029 1 hsz29 Ao30 t255.length co30 x5_1 q029 q29
                            have hr29 := Kd.F_cut (m := (x5_1 : Int).toNat) (c := co30) hC29 (by omega) hroom29
                            obtain ⟨A29, hA29⟩ : ∃ A1, A1 = (if co30 = (x5_1 : Int).toNat then Ao30 else (Ao30 : Option Addr).map (·.add ((x5_1 : Int).toNat * 1))) := ⟨_, rfl⟩
                            obtain ⟨c29, hc29⟩ : ∃ c1, c1 = co30 - (x5_1 : Int).toNat := ⟨_, rfl⟩
                            have hy29 : y258.length = t255.length - (x5_1 : Int).toNat := (by rw [Ny258.out, List.length_drop] <;> omega)
                            rw [show (t255).drop (x5_1 : Int).toNat = y258 from Ny258.out.symm] at hr29
                            replace hr29 : Kd.F (Kd.int .u8) _ _ A29 y258.length y258 := (by rw [hA29]; exact hr29)
                            rw [← hy29, ← hA29, ← hc29] at hcut29
                            have HO262 := Aside0.mk (show Kd.V (Kd.int .u8) 5 _ w.heap.size _ (.slice A29 y258.length c29) y258 from Kd.V_mk (by rw [hy29, hc29]; exact Nat.sub_le_sub_right hroom29 _) hr29)
                            have HC262 := Aside0.mk (show y258.length ≤ c29 from by rw [hy29, hc29]; exact Nat.sub_le_sub_right hroom29 _)
                            clear hr29 hC29 hroom29 hi029 hsz29 hc29
                            have KY29 := Aside0.mk hy29
                            have KA29 := Aside0.mk hA29
                            clear hy29 hA29
                            replace q29 := eq_true q29
                            go_wp2_with (first | ((with_reducible refine gate_callee (f := 10) rfl ?_); refine goesL_ (some 26) rfl rfl Try.func10 (by kernel_rfl) rfl #[.slice A29 y258.length c29] rfl (by (try simp only [List.map_toArray, List.map_cons, List.map_nil]); first | done | rfl | (simp only [List.length_drop, List.length_take]; rfl)) ?_; (with_reducible refine (utf_Take.calls kj5 _ _ y258 t263 true _ ?side1 ?side2 A13.out).mono ?_); (case side1 => repeat (first | exact (Kd.V_reads' HO262.out).2.2 | (with_reducible refine Kd.C_alloc ?_ _) | (with_reducible refine Kd.C_drewN ?_ _) | (with_reducible refine Kd.C_drew ?_))); (case side2 => exact (Kd.V_reads' HO262.out).2.1); rintro e w31 ⟨rfl, hb⟩; refine ⟨_, rfl, ?_⟩; have n0_ := Aside0.mk (Kd.V_below (by (with_reducible repeat (first | apply Kd.V_alloc | apply Kd.V_drewN | apply Kd.V_drew)); exact HO_4.out) hb); have n1_ := Aside0.mk (Kd.V_below (by (with_reducible repeat (first | apply Kd.V_alloc | apply Kd.V_drewN | apply Kd.V_drew)); exact HO262.out) hb); have n2_ := Aside0.mk (below_step (by repeat (first | (with_reducible first | exact HB.out | apply below_alloc | apply pw_below_drewN | apply below_drew1) | exact HB.out)) hb); clear HO_4; clear HO262; clear HB; have HO_4 := n0_; have HO262 := n1_; have HB := n2_; clear n0_ n1_ n2_; (try clear hb); (try clear hb2); (try clear hk); (try clear hi)))
                            go_roundg kj5
                            case measure => have := HK1.out; have := HJ5.out; omega
                            case rel => exact ⟨(wrap64 (x5_1 + t263)), (wrap64 (x6_1 + 1)), (true), (true), (by first | rfl | (simp; done) | (simp [*]; done)), (by first | rfl | (simp; done) | (simp [*]; done)), (by first | rfl | (simp; done) | (simp [*]; done)), (by first | rfl | (simp; done) | (simp [*]; done)), H', ⟨by have := HK1.out; have := HJ5.out; omega⟩, ⟨by (with_reducible repeat (first | apply Kd.V_alloc | apply Kd.V_drewN | apply Kd.V_drew)); exact HO_4.out⟩, ⟨by repeat (first | (with_reducible first | exact HB.out | apply below_alloc | apply pw_below_drewN | apply below_drew1) | exact HB.out)⟩⟩
                          · replace c28 := Bool.eq_false_iff.mpr c28
                            subst c28
                            have H1 : (tmesislaw01_UtfCounts.l0 kj5 t254 t255 (wrap64 (x5_1 + t263)) (wrap64 (x6_1 + 1)) false true) = some r := by rw [if_neg (show ¬ (false = true) by decide)] at H; exact H
                            clear H
                            have H := H1
                            clear H1
                            have H' := Aside0.mk H
                            clear H
                            obtain ⟨Ao33, co33, eo33⟩ := Kd.V_slice HO_4.out
                            subst eo33
                            have q32 : (x5_1 : Int) ≤ ((t255.length : Int) : Int) := of_decide_eq_true (by first | (with_reducible assumption) | assumption)
                            obtain ⟨i032, hi032, _, hsz32, _⟩ := info_parts info5
                            have hroom32 : t255.length ≤ co33 := (Kd.V_reads' HO_4.out).2.1
                            have hC32 : Kd.F (Kd.int .u8) _ _ Ao33 t255.length t255 := (Kd.V_at (base := w.heap.size) HO_4.out).2.2
                            have q032 : (0 : Int) ≤ (x5_1 : Int) := of_decide_eq_true (by first | (with_reducible assumption) | assumption)
                            have hcut32 := cut_from (P := Try.prog) 22 5 .i64 Try.underlying22 hi032 1 hsz32 Ao33 t255.length co33 x5_1 q032 q32
                            have hr32 := Kd.F_cut (m := (x5_1 : Int).toNat) (c := co33) hC32 (by omega) hroom32
                            obtain ⟨A32, hA32⟩ : ∃ A1, A1 = (if co33 = (x5_1 : Int).toNat then Ao33 else (Ao33 : Option Addr).map (·.add ((x5_1 : Int).toNat * 1))) := ⟨_, rfl⟩
                            obtain ⟨c32, hc32⟩ : ∃ c1, c1 = co33 - (x5_1 : Int).toNat := ⟨_, rfl⟩
                            have hy32 : y258.length = t255.length - (x5_1 : Int).toNat := (by rw [Ny258.out, List.length_drop] <;> omega)
                            rw [show (t255).drop (x5_1 : Int).toNat = y258 from Ny258.out.symm] at hr32
                            replace hr32 : Kd.F (Kd.int .u8) _ _ A32 y258.length y258 := (by rw [hA32]; exact hr32)
                            rw [← hy32, ← hA32, ← hc32] at hcut32
                            have HO262 := Aside0.mk (show Kd.V (Kd.int .u8) 5 _ w.heap.size _ (.slice A32 y258.length c32) y258 from Kd.V_mk (by rw [hy32, hc32]; exact Nat.sub_le_sub_right hroom32 _) hr32)
                            have HC262 := Aside0.mk (show y258.length ≤ c32 from by rw [hy32, hc32]; exact Nat.sub_le_sub_right hroom32 _)
                            clear hr32 hC32 hroom32 hi032 hsz32 hc32
                            have KY32 := Aside0.mk hy32
                            have KA32 := Aside0.mk hA32
                            clear hy32 hA32
                            replace q32 := eq_true q32
                            go_wp2_with (first | ((with_reducible refine gate_callee (f := 10) rfl ?_); refine goesL_ (some 26) rfl rfl Try.func10 (by kernel_rfl) rfl #[.slice A32 y258.length c32] rfl (by (try simp only [List.map_toArray, List.map_cons, List.map_nil]); first | done | rfl | (simp only [List.length_drop, List.length_take]; rfl)) ?_; (with_reducible refine (utf_Take.calls kj5 _ _ y258 t263 true _ ?side1 ?side2 A13.out).mono ?_); (case side1 => repeat (first | exact (Kd.V_reads' HO262.out).2.2 | (with_reducible refine Kd.C_alloc ?_ _) | (with_reducible refine Kd.C_drewN ?_ _) | (with_reducible refine Kd.C_drew ?_))); (case side2 => exact (Kd.V_reads' HO262.out).2.1); rintro e w34 ⟨rfl, hb⟩; refine ⟨_, rfl, ?_⟩; have n0_ := Aside0.mk (Kd.V_below (by (with_reducible repeat (first | apply Kd.V_alloc | apply Kd.V_drewN | apply Kd.V_drew)); exact HO_4.out) hb); have n1_ := Aside0.mk (Kd.V_below (by (with_reducible repeat (first | apply Kd.V_alloc | apply Kd.V_drewN | apply Kd.V_drew)); exact HO262.out) hb); have n2_ := Aside0.mk (below_step (by repeat (first | (with_reducible first | exact HB.out | apply below_alloc | apply pw_below_drewN | apply below_drew1) | exact HB.out)) hb); clear HO_4; clear HO262; clear HB; have HO_4 := n0_; have HO262 := n1_; have HB := n2_; clear n0_ n1_ n2_; (try clear hb); (try clear hb2); (try clear hk); (try clear hi)))
                            go_roundg kj5
                            case measure => have := HK1.out; have := HJ5.out; omega
                            case rel => exact ⟨(wrap64 (x5_1 + t263)), (wrap64 (x6_1 + 1)), (false), (true), (by first | rfl | (simp; done) | (simp [*]; done)), (by first | rfl | (simp; done) | (simp [*]; done)), (by first | rfl | (simp; done) | (simp [*]; done)), (by first | rfl | (simp; done) | (simp [*]; done)), H', ⟨by have := HK1.out; have := HJ5.out; omega⟩, ⟨by (with_reducible repeat (first | apply Kd.V_alloc | apply Kd.V_drewN | apply Kd.V_drew)); exact HO_4.out⟩, ⟨by repeat (first | (with_reducible first | exact HB.out | apply below_alloc | apply pw_below_drewN | apply below_drew1) | exact HB.out)⟩⟩
                        · replace c27 := Bool.eq_false_iff.mpr c27
                          subst c27
                          have H1 : (if x7_1 = true then (tmesislaw01_UtfCounts.l0 kj5 t254 t255 (wrap64 (x5_1 + t263)) (wrap64 (x6_1 + 1)) true (decide (t263 > 1))) else (tmesislaw01_UtfCounts.l0 kj5 t254 t255 (wrap64 (x5_1 + t263)) (wrap64 (x6_1 + 1)) false (decide (t263 > 1)))) = some r := by rw [if_neg (show ¬ (false = true) by decide)] at H; exact H
                          clear H
                          have H := H1
                          clear H1
                          by_cases c35 : x7_1 = true
                          · subst c35
                            have H1 : (tmesislaw01_UtfCounts.l0 kj5 t254 t255 (wrap64 (x5_1 + t263)) (wrap64 (x6_1 + 1)) true (decide (t263 > 1))) = some r := by rw [if_pos rfl] at H; exact H
                            clear H
                            have H := H1
                            clear H1
                            have H' := Aside0.mk H
                            clear H
                            obtain ⟨Ao37, co37, eo37⟩ := Kd.V_slice HO_4.out
                            subst eo37
                            have q36 : (x5_1 : Int) ≤ ((t255.length : Int) : Int) := of_decide_eq_true (by first | (with_reducible assumption) | assumption)
                            obtain ⟨i036, hi036, _, hsz36, _⟩ := info_parts info5
                            have hroom36 : t255.length ≤ co37 := (Kd.V_reads' HO_4.out).2.1
                            have hC36 : Kd.F (Kd.int .u8) _ _ Ao37 t255.length t255 := (Kd.V_at (base := w.heap.size) HO_4.out).2.2
                            have q036 : (0 : Int) ≤ (x5_1 : Int) := of_decide_eq_true (by first | (with_reducible assumption) | assumption)
                            have hcut36 := cut_from (P := Try.prog) 22 5 .i64 Try.underlying22 hi036 1 hsz36 Ao37 t255.length co37 x5_1 q036 q36
                            have hr36 := Kd.F_cut (m := (x5_1 : Int).toNat) (c := co37) hC36 (by omega) hroom36
                            obtain ⟨A36, hA36⟩ : ∃ A1, A1 = (if co37 = (x5_1 : Int).toNat then Ao37 else (Ao37 : Option Addr).map (·.add ((x5_1 : Int).toNat * 1))) := ⟨_, rfl⟩
                            obtain ⟨c36, hc36⟩ : ∃ c1, c1 = co37 - (x5_1 : Int).toNat := ⟨_, rfl⟩
                            have hy36 : y258.length = t255.length - (x5_1 : Int).toNat := (by rw [Ny258.out, List.length_drop] <;> omega)
                            rw [show (t255).drop (x5_1 : Int).toNat = y258 from Ny258.out.symm] at hr36
                            replace hr36 : Kd.F (Kd.int .u8) _ _ A36 y258.length y258 := (by rw [hA36]; exact hr36)
                            rw [← hy36, ← hA36, ← hc36] at hcut36
                            have HO262 := Aside0.mk (show Kd.V (Kd.int .u8) 5 _ w.heap.size _ (.slice A36 y258.length c36) y258 from Kd.V_mk (by rw [hy36, hc36]; exact Nat.sub_le_sub_right hroom36 _) hr36)
                            have HC262 := Aside0.mk (show y258.length ≤ c36 from by rw [hy36, hc36]; exact Nat.sub_le_sub_right hroom36 _)
                            clear hr36 hC36 hroom36 hi036 hsz36 hc36
                            have KY36 := Aside0.mk hy36
                            have KA36 := Aside0.mk hA36
                            clear hy36 hA36
                            replace q36 := eq_true q36
                            go_wp2_with (first | ((with_reducible refine gate_callee (f := 10) rfl ?_); refine goesL_ (some 26) rfl rfl Try.func10 (by kernel_rfl) rfl #[.slice A36 y258.length c36] rfl (by (try simp only [List.map_toArray, List.map_cons, List.map_nil]); first | done | rfl | (simp only [List.length_drop, List.length_take]; rfl)) ?_; (with_reducible refine (utf_Take.calls kj5 _ _ y258 t263 true _ ?side1 ?side2 A13.out).mono ?_); (case side1 => repeat (first | exact (Kd.V_reads' HO262.out).2.2 | (with_reducible refine Kd.C_alloc ?_ _) | (with_reducible refine Kd.C_drewN ?_ _) | (with_reducible refine Kd.C_drew ?_))); (case side2 => exact (Kd.V_reads' HO262.out).2.1); rintro e w38 ⟨rfl, hb⟩; refine ⟨_, rfl, ?_⟩; have n0_ := Aside0.mk (Kd.V_below (by (with_reducible repeat (first | apply Kd.V_alloc | apply Kd.V_drewN | apply Kd.V_drew)); exact HO_4.out) hb); have n1_ := Aside0.mk (Kd.V_below (by (with_reducible repeat (first | apply Kd.V_alloc | apply Kd.V_drewN | apply Kd.V_drew)); exact HO262.out) hb); have n2_ := Aside0.mk (below_step (by repeat (first | (with_reducible first | exact HB.out | apply below_alloc | apply pw_below_drewN | apply below_drew1) | exact HB.out)) hb); clear HO_4; clear HO262; clear HB; have HO_4 := n0_; have HO262 := n1_; have HB := n2_; clear n0_ n1_ n2_; (try clear hb); (try clear hb2); (try clear hk); (try clear hi)))
                            go_roundg kj5
                            case measure => have := HK1.out; have := HJ5.out; omega
                            case rel => exact ⟨(wrap64 (x5_1 + t263)), (wrap64 (x6_1 + 1)), (true), (decide (t263 > 1)), (by first | rfl | (simp; done) | (simp [*]; done)), (by first | rfl | (simp; done) | (simp [*]; done)), (by first | rfl | (simp; done) | (simp [*]; done)), (by first | rfl | (simp; done) | (simp [*]; done)), H', ⟨by have := HK1.out; have := HJ5.out; omega⟩, ⟨by (with_reducible repeat (first | apply Kd.V_alloc | apply Kd.V_drewN | apply Kd.V_drew)); exact HO_4.out⟩, ⟨by repeat (first | (with_reducible first | exact HB.out | apply below_alloc | apply pw_below_drewN | apply below_drew1) | exact HB.out)⟩⟩
                          · replace c35 := Bool.eq_false_iff.mpr c35
                            subst c35
                            have H1 : (tmesislaw01_UtfCounts.l0 kj5 t254 t255 (wrap64 (x5_1 + t263)) (wrap64 (x6_1 + 1)) false (decide (t263 > 1))) = some r := by rw [if_neg (show ¬ (false = true) by decide)] at H; exact H
                            clear H
                            have H := H1
                            clear H1
                            have H' := Aside0.mk H
                            clear H
                            obtain ⟨Ao40, co40, eo40⟩ := Kd.V_slice HO_4.out
                            subst eo40
                            have q39 : (x5_1 : Int) ≤ ((t255.length : Int) : Int) := of_decide_eq_true (by first | (with_reducible assumption) | assumption)
                            obtain ⟨i039, hi039, _, hsz39, _⟩ := info_parts info5
                            have hroom39 : t255.length ≤ co40 := (Kd.V_reads' HO_4.out).2.1
                            have hC39 : Kd.F (Kd.int .u8) _ _ Ao40 t255.length t255 := (Kd.V_at (base := w.heap.size) HO_4.out).2.2
                            have q039 : (0 : Int) ≤ (x5_1 : Int) := of_decide_eq_true (by first | (with_reducible assumption) | assumption)
                            have hcut39 := cut_from (P := Try.prog) 22 5 .i64 Try.underlying22 hi039 1 hsz39 Ao40 t255.length co40 x5_1 q039 q39
                            have hr39 := Kd.F_cut (m := (x5_1 : Int).toNat) (c := co40) hC39 (by omega) hroom39
                            obtain ⟨A39, hA39⟩ : ∃ A1, A1 = (if co40 = (x5_1 : Int).toNat then Ao40 else (Ao40 : Option Addr).map (·.add ((x5_1 : Int).toNat * 1))) := ⟨_, rfl⟩
                            obtain ⟨c39, hc39⟩ : ∃ c1, c1 = co40 - (x5_1 : Int).toNat := ⟨_, rfl⟩
                            have hy39 : y258.length = t255.length - (x5_1 : Int).toNat := (by rw [Ny258.out, List.length_drop] <;> omega)
                            rw [show (t255).drop (x5_1 : Int).toNat = y258 from Ny258.out.symm] at hr39
                            replace hr39 : Kd.F (Kd.int .u8) _ _ A39 y258.length y258 := (by rw [hA39]; exact hr39)
                            rw [← hy39, ← hA39, ← hc39] at hcut39
                            have HO262 := Aside0.mk (show Kd.V (Kd.int .u8) 5 _ w.heap.size _ (.slice A39 y258.length c39) y258 from Kd.V_mk (by rw [hy39, hc39]; exact Nat.sub_le_sub_right hroom39 _) hr39)
                            have HC262 := Aside0.mk (show y258.length ≤ c39 from by rw [hy39, hc39]; exact Nat.sub_le_sub_right hroom39 _)
                            clear hr39 hC39 hroom39 hi039 hsz39 hc39
                            have KY39 := Aside0.mk hy39
                            have KA39 := Aside0.mk hA39
                            clear hy39 hA39
                            replace q39 := eq_true q39
                            go_wp2_with (first | ((with_reducible refine gate_callee (f := 10) rfl ?_); refine goesL_ (some 26) rfl rfl Try.func10 (by kernel_rfl) rfl #[.slice A39 y258.length c39] rfl (by (try simp only [List.map_toArray, List.map_cons, List.map_nil]); first | done | rfl | (simp only [List.length_drop, List.length_take]; rfl)) ?_; (with_reducible refine (utf_Take.calls kj5 _ _ y258 t263 true _ ?side1 ?side2 A13.out).mono ?_); (case side1 => repeat (first | exact (Kd.V_reads' HO262.out).2.2 | (with_reducible refine Kd.C_alloc ?_ _) | (with_reducible refine Kd.C_drewN ?_ _) | (with_reducible refine Kd.C_drew ?_))); (case side2 => exact (Kd.V_reads' HO262.out).2.1); rintro e w41 ⟨rfl, hb⟩; refine ⟨_, rfl, ?_⟩; have n0_ := Aside0.mk (Kd.V_below (by (with_reducible repeat (first | apply Kd.V_alloc | apply Kd.V_drewN | apply Kd.V_drew)); exact HO_4.out) hb); have n1_ := Aside0.mk (Kd.V_below (by (with_reducible repeat (first | apply Kd.V_alloc | apply Kd.V_drewN | apply Kd.V_drew)); exact HO262.out) hb); have n2_ := Aside0.mk (below_step (by repeat (first | (with_reducible first | exact HB.out | apply below_alloc | apply pw_below_drewN | apply below_drew1) | exact HB.out)) hb); clear HO_4; clear HO262; clear HB; have HO_4 := n0_; have HO262 := n1_; have HB := n2_; clear n0_ n1_ n2_; (try clear hb); (try clear hb2); (try clear hk); (try clear hi)))
                            go_roundg kj5
                            case measure => have := HK1.out; have := HJ5.out; omega
                            case rel => exact ⟨(wrap64 (x5_1 + t263)), (wrap64 (x6_1 + 1)), (false), (decide (t263 > 1)), (by first | rfl | (simp; done) | (simp [*]; done)), (by first | rfl | (simp; done) | (simp [*]; done)), (by first | rfl | (simp; done) | (simp [*]; done)), (by first | rfl | (simp; done) | (simp [*]; done)), H', ⟨by have := HK1.out; have := HJ5.out; omega⟩, ⟨by (with_reducible repeat (first | apply Kd.V_alloc | apply Kd.V_drewN | apply Kd.V_drew)); exact HO_4.out⟩, ⟨by repeat (first | (with_reducible first | exact HB.out | apply below_alloc | apply pw_below_drewN | apply below_drew1) | exact HB.out)⟩⟩
                      · replace c26 := Bool.eq_false_iff.mpr c26
                        subst c26
                        have H1 : (if t263 = 1 then (if x8_1 = true then (if x7_1 = true then (tmesislaw01_UtfCounts.l0 kj5 t254 t255 (wrap64 (x5_1 + t263)) (wrap64 (x6_1 + 1)) false true) else (tmesislaw01_UtfCounts.l0 kj5 t254 t255 (wrap64 (x5_1 + t263)) (wrap64 (x6_1 + 1)) false true)) else (if x7_1 = true then (tmesislaw01_UtfCounts.l0 kj5 t254 t255 (wrap64 (x5_1 + t263)) (wrap64 (x6_1 + 1)) false (decide (t263 > 1))) else (tmesislaw01_UtfCounts.l0 kj5 t254 t255 (wrap64 (x5_1 + t263)) (wrap64 (x6_1 + 1)) false (decide (t263 > 1))))) else (some false)) = some r := by rw [if_neg (show ¬ (false = true) by decide)] at H; exact H
                        clear H
                        have H := H1
                        clear H1
                        by_cases c42 : t263 = 1
                        · rw [if_pos c42] at H
                          have c42b0 : (t263 == 1) = true := beq_iff_eq.mpr c42
                          have c42b1 : (t263 != 1) = false := bne_eq_false_iff_eq.mpr c42
                          clear c42
                          by_cases c43 : x8_1 = true
                          · subst c43
                            have H1 : (if x7_1 = true then (tmesislaw01_UtfCounts.l0 kj5 t254 t255 (wrap64 (x5_1 + t263)) (wrap64 (x6_1 + 1)) false true) else (tmesislaw01_UtfCounts.l0 kj5 t254 t255 (wrap64 (x5_1 + t263)) (wrap64 (x6_1 + 1)) false true)) = some r := by rw [if_pos rfl] at H; exact H
                            clear H
                            have H := H1
                            clear H1
                            by_cases c44 : x7_1 = true
                            · subst c44
                              have H1 : (tmesislaw01_UtfCounts.l0 kj5 t254 t255 (wrap64 (x5_1 + t263)) (wrap64 (x6_1 + 1)) false true) = some r := by rw [if_pos rfl] at H; exact H
                              clear H
                              have H := H1
                              clear H1
                              have H' := Aside0.mk H
                              clear H
                              obtain ⟨Ao46, co46, eo46⟩ := Kd.V_slice HO_4.out
                              subst eo46
                              have q45 : (x5_1 : Int) ≤ ((t255.length : Int) : Int) := of_decide_eq_true (by first | (with_reducible assumption) | assumption)
                              obtain ⟨i045, hi045, _, hsz45, _⟩ := info_parts info5
                              have hroom45 : t255.length ≤ co46 := (Kd.V_reads' HO_4.out).2.1
                              have hC45 : Kd.F (Kd.int .u8) _ _ Ao46 t255.length t255 := (Kd.V_at (base := w.heap.size) HO_4.out).2.2
                              have q045 : (0 : Int) ≤ (x5_1 : Int) := of_decide_eq_true (by first | (with_reducible assumption) | assumption)
                              have hcut45 := cut_from (P := Try.prog) 22 5 .i64 Try.underlying22 hi045 1 hsz45 Ao46 t255.length co46 x5_1 q045 q45
                              have hr45 := Kd.F_cut (m := (x5_1 : Int).toNat) (c := co46) hC45 (by omega) hroom45
                              obtain ⟨A45, hA45⟩ : ∃ A1, A1 = (if co46 = (x5_1 : Int).toNat then Ao46 else (Ao46 : Option Addr).map (·.add ((x5_1 : Int).toNat * 1))) := ⟨_, rfl⟩
                              obtain ⟨c45, hc45⟩ : ∃ c1, c1 = co46 - (x5_1 : Int).toNat := ⟨_, rfl⟩
                              have hy45 : y258.length = t255.length - (x5_1 : Int).toNat := (by rw [Ny258.out, List.length_drop] <;> omega)
                              rw [show (t255).drop (x5_1 : Int).toNat = y258 from Ny258.out.symm] at hr45
                              replace hr45 : Kd.F (Kd.int .u8) _ _ A45 y258.length y258 := (by rw [hA45]; exact hr45)
                              rw [← hy45, ← hA45, ← hc45] at hcut45
                              have HO262 := Aside0.mk (show Kd.V (Kd.int .u8) 5 _ w.heap.size _ (.slice A45 y258.length c45) y258 from Kd.V_mk (by rw [hy45, hc45]; exact Nat.sub_le_sub_right hroom45 _) hr45)
                              have HC262 := Aside0.mk (show y258.length ≤ c45 from by rw [hy45, hc45]; exact Nat.sub_le_sub_right hroom45 _)
                              clear hr45 hC45 hroom45 hi045 hsz45 hc45
                              have KY45 := Aside0.mk hy45
                              have KA45 := Aside0.mk hA45
                              clear hy45 hA45
                              replace q45 := eq_true q45
                              go_wp2_with (first | ((with_reducible refine gate_callee (f := 10) rfl ?_); refine goesL_ (some 26) rfl rfl Try.func10 (by kernel_rfl) rfl #[.slice A45 y258.length c45] rfl (by (try simp only [List.map_toArray, List.map_cons, List.map_nil]); first | done | rfl | (simp only [List.length_drop, List.length_take]; rfl)) ?_; (with_reducible refine (utf_Take.calls kj5 _ _ y258 t263 false _ ?side1 ?side2 A13.out).mono ?_); (case side1 => repeat (first | exact (Kd.V_reads' HO262.out).2.2 | (with_reducible refine Kd.C_alloc ?_ _) | (with_reducible refine Kd.C_drewN ?_ _) | (with_reducible refine Kd.C_drew ?_))); (case side2 => exact (Kd.V_reads' HO262.out).2.1); rintro e w47 ⟨rfl, hb⟩; refine ⟨_, rfl, ?_⟩; have n0_ := Aside0.mk (Kd.V_below (by (with_reducible repeat (first | apply Kd.V_alloc | apply Kd.V_drewN | apply Kd.V_drew)); exact HO_4.out) hb); have n1_ := Aside0.mk (Kd.V_below (by (with_reducible repeat (first | apply Kd.V_alloc | apply Kd.V_drewN | apply Kd.V_drew)); exact HO262.out) hb); have n2_ := Aside0.mk (below_step (by repeat (first | (with_reducible first | exact HB.out | apply below_alloc | apply pw_below_drewN | apply below_drew1) | exact HB.out)) hb); clear HO_4; clear HO262; clear HB; have HO_4 := n0_; have HO262 := n1_; have HB := n2_; clear n0_ n1_ n2_; (try clear hb); (try clear hb2); (try clear hk); (try clear hi)))
                              go_roundg kj5
                              case measure => have := HK1.out; have := HJ5.out; omega
                              case rel => exact ⟨(wrap64 (x5_1 + t263)), (wrap64 (x6_1 + 1)), (false), (true), (by first | rfl | (simp; done) | (simp [*]; done)), (by first | rfl | (simp; done) | (simp [*]; done)), (by first | rfl | (simp; done) | (simp [*]; done)), (by first | rfl | (simp; done) | (simp [*]; done)), H', ⟨by have := HK1.out; have := HJ5.out; omega⟩, ⟨by (with_reducible repeat (first | apply Kd.V_alloc | apply Kd.V_drewN | apply Kd.V_drew)); exact HO_4.out⟩, ⟨by repeat (first | (with_reducible first | exact HB.out | apply below_alloc | apply pw_below_drewN | apply below_drew1) | exact HB.out)⟩⟩
                            · replace c44 := Bool.eq_false_iff.mpr c44
                              subst c44
                              have H1 : (tmesislaw01_UtfCounts.l0 kj5 t254 t255 (wrap64 (x5_1 + t263)) (wrap64 (x6_1 + 1)) false true) = some r := by rw [if_neg (show ¬ (false = true) by decide)] at H; exact H
                              clear H
                              have H := H1
                              clear H1
                              have H' := Aside0.mk H
                              clear H
                              obtain ⟨Ao49, co49, eo49⟩ := Kd.V_slice HO_4.out
                              subst eo49
                              have q48 : (x5_1 : Int) ≤ ((t255.length : Int) : Int) := of_decide_eq_true (by first | (with_reducible assumption) | assumption)
                              obtain ⟨i048, hi048, _, hsz48, _⟩ := info_parts info5
                              have hroom48 : t255.length ≤ co49 := (Kd.V_reads' HO_4.out).2.1
                              have hC48 : Kd.F (Kd.int .u8) _ _ Ao49 t255.length t255 := (Kd.V_at (base := w.heap.size) HO_4.out).2.2
                              have q048 : (0 : Int) ≤ (x5_1 : Int) := of_decide_eq_true (by first | (with_reducible assumption) | assumption)
                              have hcut48 := cut_from (P := Try.prog) 22 5 .i64 Try.underlying22 hi048 1 hsz48 Ao49 t255.length co49 x5_1 q048 q48
                              have hr48 := Kd.F_cut (m := (x5_1 : Int).toNat) (c := co49) hC48 (by omega) hroom48
                              obtain ⟨A48, hA48⟩ : ∃ A1, A1 = (if co49 = (x5_1 : Int).toNat then Ao49 else (Ao49 : Option Addr).map (·.add ((x5_1 : Int).toNat * 1))) := ⟨_, rfl⟩
                              obtain ⟨c48, hc48⟩ : ∃ c1, c1 = co49 - (x5_1 : Int).toNat := ⟨_, rfl⟩
                              have hy48 : y258.length = t255.length - (x5_1 : Int).toNat := (by rw [Ny258.out, List.length_drop] <;> omega)
                              rw [show (t255).drop (x5_1 : Int).toNat = y258 from Ny258.out.symm] at hr48
                              replace hr48 : Kd.F (Kd.int .u8) _ _ A48 y258.length y258 := (by rw [hA48]; exact hr48)
                              rw [← hy48, ← hA48, ← hc48] at hcut48
                              have HO262 := Aside0.mk (show Kd.V (Kd.int .u8) 5 _ w.heap.size _ (.slice A48 y258.length c48) y258 from Kd.V_mk (by rw [hy48, hc48]; exact Nat.sub_le_sub_right hroom48 _) hr48)
                              have HC262 := Aside0.mk (show y258.length ≤ c48 from by rw [hy48, hc48]; exact Nat.sub_le_sub_right hroom48 _)
                              clear hr48 hC48 hroom48 hi048 hsz48 hc48
                              have KY48 := Aside0.mk hy48
                              have KA48 := Aside0.mk hA48
                              clear hy48 hA48
                              replace q48 := eq_true q48
                              go_wp2_with (first | ((with_reducible refine gate_callee (f := 10) rfl ?_); refine goesL_ (some 26) rfl rfl Try.func10 (by kernel_rfl) rfl #[.slice A48 y258.length c48] rfl (by (try simp only [List.map_toArray, List.map_cons, List.map_nil]); first | done | rfl | (simp only [List.length_drop, List.length_take]; rfl)) ?_; (with_reducible refine (utf_Take.calls kj5 _ _ y258 t263 false _ ?side1 ?side2 A13.out).mono ?_); (case side1 => repeat (first | exact (Kd.V_reads' HO262.out).2.2 | (with_reducible refine Kd.C_alloc ?_ _) | (with_reducible refine Kd.C_drewN ?_ _) | (with_reducible refine Kd.C_drew ?_))); (case side2 => exact (Kd.V_reads' HO262.out).2.1); rintro e w50 ⟨rfl, hb⟩; refine ⟨_, rfl, ?_⟩; have n0_ := Aside0.mk (Kd.V_below (by (with_reducible repeat (first | apply Kd.V_alloc | apply Kd.V_drewN | apply Kd.V_drew)); exact HO_4.out) hb); have n1_ := Aside0.mk (Kd.V_below (by (with_reducible repeat (first | apply Kd.V_alloc | apply Kd.V_drewN | apply Kd.V_drew)); exact HO262.out) hb); have n2_ := Aside0.mk (below_step (by repeat (first | (with_reducible first | exact HB.out | apply below_alloc | apply pw_below_drewN | apply below_drew1) | exact HB.out)) hb); clear HO_4; clear HO262; clear HB; have HO_4 := n0_; have HO262 := n1_; have HB := n2_; clear n0_ n1_ n2_; (try clear hb); (try clear hb2); (try clear hk); (try clear hi)))
                              go_roundg kj5
                              case measure => have := HK1.out; have := HJ5.out; omega
                              case rel => exact ⟨(wrap64 (x5_1 + t263)), (wrap64 (x6_1 + 1)), (false), (true), (by first | rfl | (simp; done) | (simp [*]; done)), (by first | rfl | (simp; done) | (simp [*]; done)), (by first | rfl | (simp; done) | (simp [*]; done)), (by first | rfl | (simp; done) | (simp [*]; done)), H', ⟨by have := HK1.out; have := HJ5.out; omega⟩, ⟨by (with_reducible repeat (first | apply Kd.V_alloc | apply Kd.V_drewN | apply Kd.V_drew)); exact HO_4.out⟩, ⟨by repeat (first | (with_reducible first | exact HB.out | apply below_alloc | apply pw_below_drewN | apply below_drew1) | exact HB.out)⟩⟩
                          · replace c43 := Bool.eq_false_iff.mpr c43
                            subst c43
                            have H1 : (if x7_1 = true then (tmesislaw01_UtfCounts.l0 kj5 t254 t255 (wrap64 (x5_1 + t263)) (wrap64 (x6_1 + 1)) false (decide (t263 > 1))) else (tmesislaw01_UtfCounts.l0 kj5 t254 t255 (wrap64 (x5_1 + t263)) (wrap64 (x6_1 + 1)) false (decide (t263 > 1)))) = some r := by rw [if_neg (show ¬ (false = true) by decide)] at H; exact H
                            clear H
                            have H := H1
                            clear H1
                            by_cases c51 : x7_1 = true
                            · subst c51
                              have H1 : (tmesislaw01_UtfCounts.l0 kj5 t254 t255 (wrap64 (x5_1 + t263)) (wrap64 (x6_1 + 1)) false (decide (t263 > 1))) = some r := by rw [if_pos rfl] at H; exact H
                              clear H
                              have H := H1
                              clear H1
                              have H' := Aside0.mk H
                              clear H
                              obtain ⟨Ao53, co53, eo53⟩ := Kd.V_slice HO_4.out
                              subst eo53
                              have q52 : (x5_1 : Int) ≤ ((t255.length : Int) : Int) := of_decide_eq_true (by first | (with_reducible assumption) | assumption)
                              obtain ⟨i052, hi052, _, hsz52, _⟩ := info_parts info5
                              have hroom52 : t255.length ≤ co53 := (Kd.V_reads' HO_4.out).2.1
                              have hC52 : Kd.F (Kd.int .u8) _ _ Ao53 t255.length t255 := (Kd.V_at (base := w.heap.size) HO_4.out).2.2
                              have q052 : (0 : Int) ≤ (x5_1 : Int) := of_decide_eq_true (by first | (with_reducible assumption) | assumption)
                              have hcut52 := cut_from (P := Try.prog) 22 5 .i64 Try.underlying22 hi052 1 hsz52 Ao53 t255.length co53 x5_1 q052 q52
                              have hr52 := Kd.F_cut (m := (x5_1 : Int).toNat) (c := co53) hC52 (by omega) hroom52
                              obtain ⟨A52, hA52⟩ : ∃ A1, A1 = (if co53 = (x5_1 : Int).toNat then Ao53 else (Ao53 : Option Addr).map (·.add ((x5_1 : Int).toNat * 1))) := ⟨_, rfl⟩
                              obtain ⟨c52, hc52⟩ : ∃ c1, c1 = co53 - (x5_1 : Int).toNat := ⟨_, rfl⟩
                              have hy52 : y258.length = t255.length - (x5_1 : Int).toNat := (by rw [Ny258.out, List.length_drop] <;> omega)
                              rw [show (t255).drop (x5_1 : Int).toNat = y258 from Ny258.out.symm] at hr52
                              replace hr52 : Kd.F (Kd.int .u8) _ _ A52 y258.length y258 := (by rw [hA52]; exact hr52)
                              rw [← hy52, ← hA52, ← hc52] at hcut52
                              have HO262 := Aside0.mk (show Kd.V (Kd.int .u8) 5 _ w.heap.size _ (.slice A52 y258.length c52) y258 from Kd.V_mk (by rw [hy52, hc52]; exact Nat.sub_le_sub_right hroom52 _) hr52)
                              have HC262 := Aside0.mk (show y258.length ≤ c52 from by rw [hy52, hc52]; exact Nat.sub_le_sub_right hroom52 _)
                              clear hr52 hC52 hroom52 hi052 hsz52 hc52
                              have KY52 := Aside0.mk hy52
                              have KA52 := Aside0.mk hA52
                              clear hy52 hA52
                              replace q52 := eq_true q52
                              go_wp2_with (first | ((with_reducible refine gate_callee (f := 10) rfl ?_); refine goesL_ (some 26) rfl rfl Try.func10 (by kernel_rfl) rfl #[.slice A52 y258.length c52] rfl (by (try simp only [List.map_toArray, List.map_cons, List.map_nil]); first | done | rfl | (simp only [List.length_drop, List.length_take]; rfl)) ?_; (with_reducible refine (utf_Take.calls kj5 _ _ y258 t263 false _ ?side1 ?side2 A13.out).mono ?_); (case side1 => repeat (first | exact (Kd.V_reads' HO262.out).2.2 | (with_reducible refine Kd.C_alloc ?_ _) | (with_reducible refine Kd.C_drewN ?_ _) | (with_reducible refine Kd.C_drew ?_))); (case side2 => exact (Kd.V_reads' HO262.out).2.1); rintro e w54 ⟨rfl, hb⟩; refine ⟨_, rfl, ?_⟩; have n0_ := Aside0.mk (Kd.V_below (by (with_reducible repeat (first | apply Kd.V_alloc | apply Kd.V_drewN | apply Kd.V_drew)); exact HO_4.out) hb); have n1_ := Aside0.mk (Kd.V_below (by (with_reducible repeat (first | apply Kd.V_alloc | apply Kd.V_drewN | apply Kd.V_drew)); exact HO262.out) hb); have n2_ := Aside0.mk (below_step (by repeat (first | (with_reducible first | exact HB.out | apply below_alloc | apply pw_below_drewN | apply below_drew1) | exact HB.out)) hb); clear HO_4; clear HO262; clear HB; have HO_4 := n0_; have HO262 := n1_; have HB := n2_; clear n0_ n1_ n2_; (try clear hb); (try clear hb2); (try clear hk); (try clear hi)))
                              go_roundg kj5
                              case measure => have := HK1.out; have := HJ5.out; omega
                              case rel => exact ⟨(wrap64 (x5_1 + t263)), (wrap64 (x6_1 + 1)), (false), (decide (t263 > 1)), (by first | rfl | (simp; done) | (simp [*]; done)), (by first | rfl | (simp; done) | (simp [*]; done)), (by first | rfl | (simp; done) | (simp [*]; done)), (by first | rfl | (simp; done) | (simp [*]; done)), H', ⟨by have := HK1.out; have := HJ5.out; omega⟩, ⟨by (with_reducible repeat (first | apply Kd.V_alloc | apply Kd.V_drewN | apply Kd.V_drew)); exact HO_4.out⟩, ⟨by repeat (first | (with_reducible first | exact HB.out | apply below_alloc | apply pw_below_drewN | apply below_drew1) | exact HB.out)⟩⟩
                            · replace c51 := Bool.eq_false_iff.mpr c51
                              subst c51
                              have H1 : (tmesislaw01_UtfCounts.l0 kj5 t254 t255 (wrap64 (x5_1 + t263)) (wrap64 (x6_1 + 1)) false (decide (t263 > 1))) = some r := by rw [if_neg (show ¬ (false = true) by decide)] at H; exact H
                              clear H
                              have H := H1
                              clear H1
                              have H' := Aside0.mk H
                              clear H
                              obtain ⟨Ao56, co56, eo56⟩ := Kd.V_slice HO_4.out
                              subst eo56
                              have q55 : (x5_1 : Int) ≤ ((t255.length : Int) : Int) := of_decide_eq_true (by first | (with_reducible assumption) | assumption)
                              obtain ⟨i055, hi055, _, hsz55, _⟩ := info_parts info5
                              have hroom55 : t255.length ≤ co56 := (Kd.V_reads' HO_4.out).2.1
                              have hC55 : Kd.F (Kd.int .u8) _ _ Ao56 t255.length t255 := (Kd.V_at (base := w.heap.size) HO_4.out).2.2
                              have q055 : (0 : Int) ≤ (x5_1 : Int) := of_decide_eq_true (by first | (with_reducible assumption) | assumption)
                              have hcut55 := cut_from (P := Try.prog) 22 5 .i64 Try.underlying22 hi055 1 hsz55 Ao56 t255.length co56 x5_1 q055 q55
                              have hr55 := Kd.F_cut (m := (x5_1 : Int).toNat) (c := co56) hC55 (by omega) hroom55
                              obtain ⟨A55, hA55⟩ : ∃ A1, A1 = (if co56 = (x5_1 : Int).toNat then Ao56 else (Ao56 : Option Addr).map (·.add ((x5_1 : Int).toNat * 1))) := ⟨_, rfl⟩
                              obtain ⟨c55, hc55⟩ : ∃ c1, c1 = co56 - (x5_1 : Int).toNat := ⟨_, rfl⟩
                              have hy55 : y258.length = t255.length - (x5_1 : Int).toNat := (by rw [Ny258.out, List.length_drop] <;> omega)
                              rw [show (t255).drop (x5_1 : Int).toNat = y258 from Ny258.out.symm] at hr55
                              replace hr55 : Kd.F (Kd.int .u8) _ _ A55 y258.length y258 := (by rw [hA55]; exact hr55)
                              rw [← hy55, ← hA55, ← hc55] at hcut55
                              have HO262 := Aside0.mk (show Kd.V (Kd.int .u8) 5 _ w.heap.size _ (.slice A55 y258.length c55) y258 from Kd.V_mk (by rw [hy55, hc55]; exact Nat.sub_le_sub_right hroom55 _) hr55)
                              have HC262 := Aside0.mk (show y258.length ≤ c55 from by rw [hy55, hc55]; exact Nat.sub_le_sub_right hroom55 _)
                              clear hr55 hC55 hroom55 hi055 hsz55 hc55
                              have KY55 := Aside0.mk hy55
                              have KA55 := Aside0.mk hA55
                              clear hy55 hA55
                              replace q55 := eq_true q55
                              go_wp2_with (first | ((with_reducible refine gate_callee (f := 10) rfl ?_); refine goesL_ (some 26) rfl rfl Try.func10 (by kernel_rfl) rfl #[.slice A55 y258.length c55] rfl (by (try simp only [List.map_toArray, List.map_cons, List.map_nil]); first | done | rfl | (simp only [List.length_drop, List.length_take]; rfl)) ?_; (with_reducible refine (utf_Take.calls kj5 _ _ y258 t263 false _ ?side1 ?side2 A13.out).mono ?_); (case side1 => repeat (first | exact (Kd.V_reads' HO262.out).2.2 | (with_reducible refine Kd.C_alloc ?_ _) | (with_reducible refine Kd.C_drewN ?_ _) | (with_reducible refine Kd.C_drew ?_))); (case side2 => exact (Kd.V_reads' HO262.out).2.1); rintro e w57 ⟨rfl, hb⟩; refine ⟨_, rfl, ?_⟩; have n0_ := Aside0.mk (Kd.V_below (by (with_reducible repeat (first | apply Kd.V_alloc | apply Kd.V_drewN | apply Kd.V_drew)); exact HO_4.out) hb); have n1_ := Aside0.mk (Kd.V_below (by (with_reducible repeat (first | apply Kd.V_alloc | apply Kd.V_drewN | apply Kd.V_drew)); exact HO262.out) hb); have n2_ := Aside0.mk (below_step (by repeat (first | (with_reducible first | exact HB.out | apply below_alloc | apply pw_below_drewN | apply below_drew1) | exact HB.out)) hb); clear HO_4; clear HO262; clear HB; have HO_4 := n0_; have HO262 := n1_; have HB := n2_; clear n0_ n1_ n2_; (try clear hb); (try clear hb2); (try clear hk); (try clear hi)))
                              go_roundg kj5
                              case measure => have := HK1.out; have := HJ5.out; omega
                              case rel => exact ⟨(wrap64 (x5_1 + t263)), (wrap64 (x6_1 + 1)), (false), (decide (t263 > 1)), (by first | rfl | (simp; done) | (simp [*]; done)), (by first | rfl | (simp; done) | (simp [*]; done)), (by first | rfl | (simp; done) | (simp [*]; done)), (by first | rfl | (simp; done) | (simp [*]; done)), H', ⟨by have := HK1.out; have := HJ5.out; omega⟩, ⟨by (with_reducible repeat (first | apply Kd.V_alloc | apply Kd.V_drewN | apply Kd.V_drew)); exact HO_4.out⟩, ⟨by repeat (first | (with_reducible first | exact HB.out | apply below_alloc | apply pw_below_drewN | apply below_drew1) | exact HB.out)⟩⟩
                        · rw [if_neg c42] at H
                          have c42b0 : (t263 == 1) = false := beq_eq_false_iff_ne.mpr c42
                          have c42b1 : (t263 != 1) = true := bne_iff_ne.mpr c42
                          obtain rfl := Option.some.inj H
                          obtain ⟨Ao59, co59, eo59⟩ := Kd.V_slice HO_4.out
                          subst eo59
                          have q58 : (x5_1 : Int) ≤ ((t255.length : Int) : Int) := of_decide_eq_true (by first | (with_reducible assumption) | assumption)
                          obtain ⟨i058, hi058, _, hsz58, _⟩ := info_parts info5
                          have hroom58 : t255.length ≤ co59 := (Kd.V_reads' HO_4.out).2.1
                          have hC58 : Kd.F (Kd.int .u8) _ _ Ao59 t255.length t255 := (Kd.V_at (base := w.heap.size) HO_4.out).2.2
                          have q058 : (0 : Int) ≤ (x5_1 : Int) := of_decide_eq_true (by first | (with_reducible assumption) | assumption)
                          have hcut58 := cut_from (P := Try.prog) 22 5 .i64 Try.underlying22 hi058 1 hsz58 Ao59 t255.length co59 x5_1 q058 q58
                          have hr58 := Kd.F_cut (m := (x5_1 : Int).toNat) (c := co59) hC58 (by omega) hroom58
                          obtain ⟨A58, hA58⟩ : ∃ A1, A1 = (if co59 = (x5_1 : Int).toNat then Ao59 else (Ao59 : Option Addr).map (·.add ((x5_1 : Int).toNat * 1))) := ⟨_, rfl⟩
                          obtain ⟨c58, hc58⟩ : ∃ c1, c1 = co59 - (x5_1 : Int).toNat := ⟨_, rfl⟩
                          have hy58 : y258.length = t255.length - (x5_1 : Int).toNat := (by rw [Ny258.out, List.length_drop] <;> omega)
                          rw [show (t255).drop (x5_1 : Int).toNat = y258 from Ny258.out.symm] at hr58
                          replace hr58 : Kd.F (Kd.int .u8) _ _ A58 y258.length y258 := (by rw [hA58]; exact hr58)
                          rw [← hy58, ← hA58, ← hc58] at hcut58
                          have HO262 := Aside0.mk (show Kd.V (Kd.int .u8) 5 _ w.heap.size _ (.slice A58 y258.length c58) y258 from Kd.V_mk (by rw [hy58, hc58]; exact Nat.sub_le_sub_right hroom58 _) hr58)
                          have HC262 := Aside0.mk (show y258.length ≤ c58 from by rw [hy58, hc58]; exact Nat.sub_le_sub_right hroom58 _)
                          clear hr58 hC58 hroom58 hi058 hsz58 hc58
                          have KY58 := Aside0.mk hy58
                          have KA58 := Aside0.mk hA58
                          clear hy58 hA58
                          replace q58 := eq_true q58
                          go_wp2_with (first | ((with_reducible refine gate_callee (f := 10) rfl ?_); refine goesL_ (some 26) rfl rfl Try.func10 (by kernel_rfl) rfl #[.slice A58 y258.length c58] rfl (by (try simp only [List.map_toArray, List.map_cons, List.map_nil]); first | done | rfl | (simp only [List.length_drop, List.length_take]; rfl)) ?_; (with_reducible refine (utf_Take.calls kj5 _ _ y258 t263 false _ ?side1 ?side2 A13.out).mono ?_); (case side1 => repeat (first | exact (Kd.V_reads' HO262.out).2.2 | (with_reducible refine Kd.C_alloc ?_ _) | (with_reducible refine Kd.C_drewN ?_ _) | (with_reducible refine Kd.C_drew ?_))); (case side2 => exact (Kd.V_reads' HO262.out).2.1); rintro e w60 ⟨rfl, hb⟩; refine ⟨_, rfl, ?_⟩; have n0_ := Aside0.mk (Kd.V_below (by (with_reducible repeat (first | apply Kd.V_alloc | apply Kd.V_drewN | apply Kd.V_drew)); exact HO_4.out) hb); have n1_ := Aside0.mk (Kd.V_below (by (with_reducible repeat (first | apply Kd.V_alloc | apply Kd.V_drewN | apply Kd.V_drew)); exact HO262.out) hb); have n2_ := Aside0.mk (below_step (by repeat (first | (with_reducible first | exact HB.out | apply below_alloc | apply pw_below_drewN | apply below_drew1) | exact HB.out)) hb); clear HO_4; clear HO262; clear HB; have HO_4 := n0_; have HO262 := n1_; have HB := n2_; clear n0_ n1_ n2_; (try clear hb); (try clear hb2); (try clear hk); (try clear hi)))
                          go_ret
                          exact ⟨by first | rfl | (simp [errW_none, errW_some] <;> rfl) | (simp [*, errW_none, errW_some] <;> rfl), by repeat (first | (with_reducible first | exact HB.out | apply below_alloc | apply pw_below_drewN | apply below_drew1) | exact HB.out)⟩
              · rw [if_neg c12] at H
                exact absurd H (by simp)
            · rw [if_neg c11] at H
              exact absurd H (by simp)
          · replace c10 := Bool.eq_false_iff.mpr c10
            subst c10
            have H1 : (if t254 = true then (if x5_1 = (t255.length : Int) then ((utf_Count.f kj5 t255).bind fun t265 => (if t265 = x6_1 then ((utf_Valid.f kj5 t255).bind fun t266 => (if (t266 == x7_1) = true then (some ((x6_1 == (t255.length : Int)) == (!x8_1))) else (some false))) else (some false))) else (some false)) else (some false)) = some r := by rw [if_neg (show ¬ (false = true) by decide)] at H; exact H
            clear H
            have H := H1
            clear H1
            by_cases c61 : t254 = true
            · subst c61
              have H1 : (if x5_1 = (t255.length : Int) then ((utf_Count.f kj5 t255).bind fun t265 => (if t265 = x6_1 then ((utf_Valid.f kj5 t255).bind fun t266 => (if (t266 == x7_1) = true then (some ((x6_1 == (t255.length : Int)) == (!x8_1))) else (some false))) else (some false))) else (some false)) = some r := by rw [if_pos rfl] at H; exact H
              clear H
              have H := H1
              clear H1
              by_cases c62 : x5_1 = (t255.length : Int)
              · rw [if_pos c62] at H
                have c62b0 : (x5_1 == (t255.length : Int)) = true := beq_iff_eq.mpr c62
                have c62b1 : (x5_1 != (t255.length : Int)) = false := bne_eq_false_iff_eq.mpr c62
                clear c62
                replace H := Option.bind_eq_some_iff.mp H
                obtain ⟨t265, A630, H⟩ := H
                replace H : (if t265 = x6_1 then ((utf_Valid.f kj5 t255).bind fun t266 => (if (t266 == x7_1) = true then (some ((x6_1 == (t255.length : Int)) == (!x8_1))) else (some false))) else (some false)) = some r := H
                have A63 := Aside0.mk A630
                clear A630
                by_cases c64 : t265 = x6_1
                · rw [if_pos c64] at H
                  have c64b0 : (t265 == x6_1) = true := beq_iff_eq.mpr c64
                  have c64b1 : (t265 != x6_1) = false := bne_eq_false_iff_eq.mpr c64
                  clear c64
                  replace H := Option.bind_eq_some_iff.mp H
                  obtain ⟨t266, A650, H⟩ := H
                  replace H : (if (t266 == x7_1) = true then (some ((x6_1 == (t255.length : Int)) == (!x8_1))) else (some false)) = some r := H
                  have A65 := Aside0.mk A650
                  clear A650
                  by_cases c66 : (t266 == x7_1) = true
                  · rw [if_pos c66] at H
                    have c66b0 : (t266 == x7_1) = true := c66
                    (try (have c66b1 : decide (t266 = x7_1) = true := by simpa using c66))
                    (try (have c66b2 : (t266 == x7_1) = true := by simpa using c66))
                    clear c66
                    obtain rfl := Option.some.inj H
                    obtain ⟨Ao67, co67, eo67⟩ := Kd.V_slice HO_4.out
                    subst eo67
                    go_wp2_with (first | (go_at_call 14; (with_reducible refine (utf_Count.calls kj5 _ _ t255 t265 _ ?side1 ?side2 A63.out).mono ?_); (case side1 => repeat (first | exact (Kd.V_reads' HO_4.out).2.2 | (with_reducible refine Kd.C_alloc ?_ _) | (with_reducible refine Kd.C_drewN ?_ _) | (with_reducible refine Kd.C_drew ?_))); (case side2 => exact (Kd.V_reads' HO_4.out).2.1); rintro e w68 ⟨rfl, hb⟩; have n0_ := Aside0.mk (Kd.V_below (by (with_reducible repeat (first | apply Kd.V_alloc | apply Kd.V_drewN | apply Kd.V_drew)); exact HO_4.out) hb); have n1_ := Aside0.mk (below_step (by repeat (first | (with_reducible first | exact HB.out | apply below_alloc | apply pw_below_drewN | apply below_drew1) | exact HB.out)) hb); clear HO_4; clear HB; have HO_4 := n0_; have HB := n1_; clear n0_ n1_; (try clear hb); (try clear hb2); (try clear hk); (try clear hi)) | (go_at_call 12; (with_reducible refine (utf_Valid.calls kj5 _ _ t255 t266 _ ?side1 ?side2 A65.out).mono ?_); (case side1 => repeat (first | exact (Kd.V_reads' HO_4.out).2.2 | (with_reducible refine Kd.C_alloc ?_ _) | (with_reducible refine Kd.C_drewN ?_ _) | (with_reducible refine Kd.C_drew ?_))); (case side2 => exact (Kd.V_reads' HO_4.out).2.1); rintro e w69 ⟨rfl, hb⟩; have n0_ := Aside0.mk (Kd.V_below (by (with_reducible repeat (first | apply Kd.V_alloc | apply Kd.V_drewN | apply Kd.V_drew)); exact HO_4.out) hb); have n1_ := Aside0.mk (below_step (by repeat (first | (with_reducible first | exact HB.out | apply below_alloc | apply pw_below_drewN | apply below_drew1) | exact HB.out)) hb); clear HO_4; clear HB; have HO_4 := n0_; have HB := n1_; clear n0_ n1_; (try clear hb); (try clear hb2); (try clear hk); (try clear hi)))
                    go_ret
                    exact ⟨by first | rfl | (simp [errW_none, errW_some] <;> rfl) | (simp [*, errW_none, errW_some] <;> rfl), by repeat (first | (with_reducible first | exact HB.out | apply below_alloc | apply pw_below_drewN | apply below_drew1) | exact HB.out)⟩
                  · rw [if_neg c66] at H
                    have c66b0 : (t266 == x7_1) = false := by simpa using c66
                    (try (have c66b1 : decide (t266 = x7_1) = false := by simpa using c66))
                    (try (have c66b2 : (t266 == x7_1) = false := by simpa using c66))
                    (try (have c66b3 : ¬ (t266 = x7_1) := by simpa using c66))
                    clear c66
                    obtain rfl := Option.some.inj H
                    obtain ⟨Ao70, co70, eo70⟩ := Kd.V_slice HO_4.out
                    subst eo70
                    go_wp2_with (first | (go_at_call 14; (with_reducible refine (utf_Count.calls kj5 _ _ t255 t265 _ ?side1 ?side2 A63.out).mono ?_); (case side1 => repeat (first | exact (Kd.V_reads' HO_4.out).2.2 | (with_reducible refine Kd.C_alloc ?_ _) | (with_reducible refine Kd.C_drewN ?_ _) | (with_reducible refine Kd.C_drew ?_))); (case side2 => exact (Kd.V_reads' HO_4.out).2.1); rintro e w71 ⟨rfl, hb⟩; have n0_ := Aside0.mk (Kd.V_below (by (with_reducible repeat (first | apply Kd.V_alloc | apply Kd.V_drewN | apply Kd.V_drew)); exact HO_4.out) hb); have n1_ := Aside0.mk (below_step (by repeat (first | (with_reducible first | exact HB.out | apply below_alloc | apply pw_below_drewN | apply below_drew1) | exact HB.out)) hb); clear HO_4; clear HB; have HO_4 := n0_; have HB := n1_; clear n0_ n1_; (try clear hb); (try clear hb2); (try clear hk); (try clear hi)) | (go_at_call 12; (with_reducible refine (utf_Valid.calls kj5 _ _ t255 t266 _ ?side1 ?side2 A65.out).mono ?_); (case side1 => repeat (first | exact (Kd.V_reads' HO_4.out).2.2 | (with_reducible refine Kd.C_alloc ?_ _) | (with_reducible refine Kd.C_drewN ?_ _) | (with_reducible refine Kd.C_drew ?_))); (case side2 => exact (Kd.V_reads' HO_4.out).2.1); rintro e w72 ⟨rfl, hb⟩; have n0_ := Aside0.mk (Kd.V_below (by (with_reducible repeat (first | apply Kd.V_alloc | apply Kd.V_drewN | apply Kd.V_drew)); exact HO_4.out) hb); have n1_ := Aside0.mk (below_step (by repeat (first | (with_reducible first | exact HB.out | apply below_alloc | apply pw_below_drewN | apply below_drew1) | exact HB.out)) hb); clear HO_4; clear HB; have HO_4 := n0_; have HB := n1_; clear n0_ n1_; (try clear hb); (try clear hb2); (try clear hk); (try clear hi)))
                    go_ret
                    exact ⟨by first | rfl | (simp [errW_none, errW_some] <;> rfl) | (simp [*, errW_none, errW_some] <;> rfl), by repeat (first | (with_reducible first | exact HB.out | apply below_alloc | apply pw_below_drewN | apply below_drew1) | exact HB.out)⟩
                · rw [if_neg c64] at H
                  have c64b0 : (t265 == x6_1) = false := beq_eq_false_iff_ne.mpr c64
                  have c64b1 : (t265 != x6_1) = true := bne_iff_ne.mpr c64
                  obtain rfl := Option.some.inj H
                  obtain ⟨Ao73, co73, eo73⟩ := Kd.V_slice HO_4.out
                  subst eo73
                  go_wp2_with (first | (go_at_call 14; (with_reducible refine (utf_Count.calls kj5 _ _ t255 t265 _ ?side1 ?side2 A63.out).mono ?_); (case side1 => repeat (first | exact (Kd.V_reads' HO_4.out).2.2 | (with_reducible refine Kd.C_alloc ?_ _) | (with_reducible refine Kd.C_drewN ?_ _) | (with_reducible refine Kd.C_drew ?_))); (case side2 => exact (Kd.V_reads' HO_4.out).2.1); rintro e w74 ⟨rfl, hb⟩; have n0_ := Aside0.mk (Kd.V_below (by (with_reducible repeat (first | apply Kd.V_alloc | apply Kd.V_drewN | apply Kd.V_drew)); exact HO_4.out) hb); have n1_ := Aside0.mk (below_step (by repeat (first | (with_reducible first | exact HB.out | apply below_alloc | apply pw_below_drewN | apply below_drew1) | exact HB.out)) hb); clear HO_4; clear HB; have HO_4 := n0_; have HB := n1_; clear n0_ n1_; (try clear hb); (try clear hb2); (try clear hk); (try clear hi)))
                  go_ret
                  exact ⟨by first | rfl | (simp [errW_none, errW_some] <;> rfl) | (simp [*, errW_none, errW_some] <;> rfl), by repeat (first | (with_reducible first | exact HB.out | apply below_alloc | apply pw_below_drewN | apply below_drew1) | exact HB.out)⟩
              · rw [if_neg c62] at H
                have c62b0 : (x5_1 == (t255.length : Int)) = false := beq_eq_false_iff_ne.mpr c62
                have c62b1 : (x5_1 != (t255.length : Int)) = true := bne_iff_ne.mpr c62
                obtain rfl := Option.some.inj H
                obtain ⟨Ao75, co75, eo75⟩ := Kd.V_slice HO_4.out
                subst eo75
                go_wp2
                go_ret
                exact ⟨by first | rfl | (simp [errW_none, errW_some] <;> rfl) | (simp [*, errW_none, errW_some] <;> rfl), by repeat (first | (with_reducible first | exact HB.out | apply below_alloc | apply pw_below_drewN | apply below_drew1) | exact HB.out)⟩
            · replace c61 := Bool.eq_false_iff.mpr c61
              subst c61
              have H1 : (some false) = some r := by rw [if_neg (show ¬ (false = true) by decide)] at H; exact H
              clear H
              have H := H1
              clear H1
              obtain rfl := Option.some.inj H
              go_wp2
              go_ret
              exact ⟨by first | rfl | (simp [errW_none, errW_some] <;> rfl) | (simp [*, errW_none, errW_some] <;> rfl), by repeat (first | (with_reducible first | exact HB.out | apply below_alloc | apply pw_below_drewN | apply below_drew1) | exact HB.out)⟩

/-- THE ONE PURE STATEMENT of tmesislaw01_UtfCounts: yours. -/
def tmesislaw01_UtfCounts.Pure : Prop := ∀ (l0 : List Int), l0.length ≤ maxLen → l0.length * 1 ≤ 140737488351232 → (∀ x ∈ l0, (Lit.int .u8 x).wf = true) → ∃ k, tmesislaw01_UtfCounts.f k l0 = some true
theorem tmesislaw01_UtfCounts.walk (P : tmesislaw01_UtfCounts.Pure) (a0 : Option Addr) (len0 cap0 : Nat) (z0 : List Int) (w : World) (w0 : (a0 = none ∧ len0 = 0 ∧ cap0 = 0 ∧ z0 = []) ∨ ∃ x, a0 = some x ∧ len0 ≤ cap0 ∧ cap0 ≤ maxLen ∧ z0.length = cap0 ∧ (∀ i, i < z0.length → w.cell? (x.add i) = some (.int .u8 (z0.getD i 0))) ∧ ∀ n ∈ z0, (Lit.int .u8 n).wf = true) (y0 : len0 * 1 ≤ 140737488351232) :
    Calls Try.prog 6 #[.slice a0 len0 cap0] w fun e w' => e = .returned (.bool true) ∧ Below w.heap.size w w' := by
  obtain ⟨l0, rfl, hr0, hm0, hw0, hc0⟩ := ReadsInt.ofRowC w0
  obtain ⟨k, h⟩ := P l0 hm0 y0 hw0
  refine (tmesislaw01_UtfCounts.calls k _ _ l0 true w (Kd.C_of_reads (d := (0 : Int)) (h1 := fun _ => rfl) hr0) hc0 h).mono ?_
  rintro e w' ⟨rfl, hd⟩
  exact ⟨rfl, hd⟩

-- NOT PRINTED: function 7 (tmesislaw01_UtfPlain)

end Go.Proofs.Ytcemcdjpihokoaa.P
