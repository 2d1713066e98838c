/- Part of the proof: what the theorem needs of this text. -/
import Derived.Test.YtdejidhgeefmeaaDoorKPx0
import Derived.Test.YtdejidhgeefmeaaDoorKPx12
import Derived.Test.YtdejidhgeefmeaaDoorKPx13
import Derived.Test.YtdejidhgeefmeaaDoorKPx14
namespace Go.Proofs.YtdejidhgeefmeaaDoor.P
open Go.RowKit Go.Proofs.YtdejidhgeefmeaaDoorW.PrintWords Go.Proofs.YtdejidhgeefmeaaDoorW.PrintLast Go.Proofs.YtdejidhgeefmeaaDoorW.PrintMore
attribute [local go_sem] max2_int min2_int max_two min_two max_three min_three max_four min_four   -- for this text's walks alone
set_option linter.unusedVariables false
set_option linter.unusedSimpArgs false
def tmesisref03_Take.l0 : Nat → List Int → Int → Int → Int → Option (Int × Int × Int)
 | 0, _, _, _, _ => none
 | k + 1, x0, x5, x6, x7 => if x7 < x5 then (if 0 ≤ x7 then (if x7 < (x0.length : Int) then (if (wrap64 ((wrap64 (x6 * 10)) + (((rd x0 x7) - 48) % 256))) > 2147483647 then (some (0, x5, 4)) else (tmesisref03_Take.l0 k x0 x5 (wrap64 ((wrap64 (x6 * 10)) + (((rd x0 x7) - 48) % 256))) (wrap64 (x7 + 1)))) else (none)) else (none)) else (some (x6, x5, 0))
def tmesisref03_Take.f (k : Nat) (l0 : List Int) : Option (Int × Int × Int) := (tmesisref02_Run.f k l0 4).bind fun t320 => (if t320 = 0 then (some (0, 0, 2)) else (tmesisref03_Take.l0 k l0 t320 0 0))
theorem tmesisref03_Take.mono_l : ∀ k, (∀ y0 y1 y2 y3, LeO (tmesisref03_Take.l0 k y0 y1 y2 y3) (tmesisref03_Take.l0 (k + 1) y0 y1 y2 y3))
 | 0 => fun _ _ _ _ r h => by simp [tmesisref03_Take.l0] at h
 | k + 1 => by
  have ih0 := tmesisref03_Take.mono_l k
  ·intro y0 y1 y2 y3
   unfold tmesisref03_Take.l0
   repeat' with_reducible first | exact ih0 _ _ _ _ | exact tmesisref02_Run.mono _ _ _ | exact LeO.refl _ | exact LeO.none _ | refine LeO.ite ?_ ?_ | refine LeO.bind ?_ (fun _ => ?_)
theorem tmesisref03_Take.mono : ∀ a0 k, LeO (tmesisref03_Take.f k a0) (tmesisref03_Take.f (k + 1) a0) := by
 intro a0 k
 have ih0 := tmesisref03_Take.mono_l k
 unfold tmesisref03_Take.f
 repeat' with_reducible first | exact ih0 _ _ _ _ | exact tmesisref02_Run.mono _ _ _ | exact LeO.refl _ | exact LeO.none _ | refine LeO.ite ?_ ?_ | refine LeO.bind ?_ (fun _ => ?_)
set_option maxHeartbeats 8000000 in
set_option maxRecDepth 100000 in
theorem tmesisref03_Take.calls (k : Nat) (A0 : Option Addr) (c0 : Nat) (l0 : List Int) (r1 : Int) (r2 : Int) (r3 : Int) (w : World) (hr0 : Kd.C (Kd.int .u8) w A0 l0.length l0) (hc0 : l0.length ≤ c0) (h : tmesisref03_Take.f k l0 = some (r1, r2, r3)) :
  Calls Tryd.prog 53 #[.slice A0 l0.length c0] w fun e w' => e = .returned (.tuple #[.int .i64 r1, .int .i64 r2, .int .i64 r3]) ∧ Drawn0 w w' := by
 have HR0 := Aside0.mk hr0
 have HC0 := Aside0.mk hc0
 clear hr0 hc0
 have H : ((tmesisref02_Run.f k l0 4).bind fun t320 => (if t320 = 0 then (some (0, 0, 2)) else (tmesisref03_Take.l0 k l0 t320 0 0))) = some (r1, r2, r3) := h
 clear h
 obtain ⟨t320, A2, H⟩ := bE H
 by_cases c3 : t320 = 0
 ·rw [if_pos c3] at H
  obtain ⟨c3b0, c3b1⟩ := eqB c3
  clear c3
  simp only [Option.some.injEq, Prod.mk.injEq] at H
  obtain ⟨rfl, rfl, rfl⟩ := H
  go_enter Tryd.func53, Tryd.ntmps53
  go_wp2_with (first | ((with_reducible refine gate_callee (f := 51) rfl ?_); refine gL (some 9) Tryd.func51 #[.slice A0 l0.length c0, .int .i64 4] rfl gA ?_; (with_reducible refine (tmesisref02_Run.calls k _ _ l0 4 t320 _ ?side1 ?side2 A2.out).mono ?_); (case side1 => exact CAt HR0.out); (case side2 => exact HC0.out); rintro e w' ⟨rfl, ⟨nd, rfl⟩⟩; refine ⟨_, rfl, ?_⟩))
  go_ret3
  exact ⟨by first | rfl | (simp; done) | (simp [*]; done), by repeat (first | exact Drawn0.refl _ | apply Drawn0.step)⟩
 ·rw [if_neg c3] at H
  obtain ⟨c3b0, c3b1⟩ := neB c3
  have H' := Aside0.mk H
  clear H
  go_enter Tryd.func53, Tryd.ntmps53
  go_wp2_with (first | ((with_reducible refine gate_callee (f := 51) rfl ?_); refine gL (some 9) Tryd.func51 #[.slice A0 l0.length c0, .int .i64 4] rfl gA ?_; (with_reducible refine (tmesisref02_Run.calls k _ _ l0 4 t320 _ ?side1 ?side2 A2.out).mono ?_); (case side1 => exact CAt HR0.out); (case side2 => exact HC0.out); rintro e w' ⟨rfl, ⟨nd, rfl⟩⟩; refine ⟨_, rfl, ?_⟩))
  go_loopg [6, 7] k (fun kq v6 v7 w' => ∃ (x6_1 : Int) (x7_1 : Int), v6 = .int .i64 x6_1 ∧ v7 = .int .i64 x7_1 ∧ Aside0 (tmesisref03_Take.l0 kq l0 t320 x6_1 x7_1 = some (r1, r2, r3)) ∧ Aside0 (kq ≤ k) ∧ Drawn0 w w')
  case atStart => exact ⟨(0), (0), sR, sR, H', ⟨Nat.le_refl _⟩, by repeat (first | exact Drawn0.refl _ | apply Drawn0.step)⟩
  case round =>
   clear H'
   try clear p2
   try clear c3
   try clear c3b0 c3b1
   obtain ⟨x6_1, x7_1, rfl, rfl, HA, HK1, ⟨m1, rfl⟩⟩ := hrel
   cases gk with
   | zero => exact absurd HA.out (by simp [tmesisref03_Take.l0])
   | succ k1 =>
    have H := HA.out
    clear HA
    simp only [tmesisref03_Take.l0] at H
    by_cases c4 : x7_1 < t320
    ·rw [if_pos c4] at H
     have c4b0 := decide_eq_true c4
     clear c4
     by_cases c5 : 0 ≤ x7_1
     ·rw [if_pos c5] at H
      have c5b0 := decide_eq_true c5
      clear c5
      by_cases c6 : x7_1 < (l0.length : Int)
      ·rw [if_pos c6] at H
       have c6b0 := decide_eq_true c6
       clear c6
       by_cases c7 : (wrap64 ((wrap64 (x6_1 * 10)) + (((rd l0 x7_1) - 48) % 256))) > 2147483647
       ·rw [if_pos c7] at H
        have c7b0 : decide (2147483647 < (wrap64 ((wrap64 (x6_1 * 10)) + (((rd l0 x7_1) - 48) % 256)))) = true := decide_eq_true c7
        clear c7
        simp only [Option.some.injEq, Prod.mk.injEq] at H
        obtain ⟨rfl, rfl, rfl⟩ := H
        have p321 : 0 ≤ (x7_1 : Int) := dt
        have q321 : x7_1 < (l0.length : Int) := dt
        obtain ⟨ad321, e321, hx321_0⟩ := Kd.at_int HR0.out x7_1 p321 q321
        cases e321
        replace p321 := eq_true p321
        replace q321 := eq_true q321
        go_wp2
        go_ret3
        exact ⟨by first | rfl | (simp; done) | (simp [*]; done), by repeat (first | exact Drawn0.refl _ | apply Drawn0.step)⟩
       ·rw [if_neg c7] at H
        have c7b0 : decide (2147483647 < (wrap64 ((wrap64 (x6_1 * 10)) + (((rd l0 x7_1) - 48) % 256)))) = false := decide_eq_false c7
        clear c7
        have H' := Aside0.mk H
        clear H
        have p321 : 0 ≤ (x7_1 : Int) := dt
        have q321 : x7_1 < (l0.length : Int) := dt
        obtain ⟨ad321, e321, hx321_0⟩ := Kd.at_int HR0.out x7_1 p321 q321
        cases e321
        replace p321 := eq_true p321
        replace q321 := eq_true q321
        go_wp2
        go_roundg k1
        case measure => have := HK1.out; omega
        case rel => exact ⟨(wrap64 ((wrap64 (x6_1 * 10)) + (((rd l0 x7_1) - 48) % 256))), (wrap64 (x7_1 + 1)), sR, sR, H', ⟨by have := HK1.out; omega⟩, by repeat (first | exact Drawn0.refl _ | apply Drawn0.step)⟩
      ·exact nB H c6
     ·exact nB H c5
    ·rw [if_neg c4] at H
     have c4b0 := decide_eq_false c4
     clear c4
     simp only [Option.some.injEq, Prod.mk.injEq] at H
     obtain ⟨rfl, rfl, rfl⟩ := H
     go_wp2
     go_ret3
     exact ⟨by first | rfl | (simp; done) | (simp [*]; done), by repeat (first | exact Drawn0.refl _ | apply Drawn0.step)⟩
def tmesisref06_first.j0 : Nat → List Int → Int → Int → Bool → Int → Bool → Option (Int × Int × Int × ByteArray × Int)
 | 0, _, _, _, _, _, _ => none
 | k + 1, x0, x3, x4, x5, x25, x26 => if x26 = true then ((tmesisref06_name.f k x0).bind fun t327 => (if x3 = 3 then (if 0 ≤ t327 then (if t327 ≤ (x0.length : Int) then (some (3, 0, t327, strOfNums (x0.take (t327 : Int).toNat), 0)) else (none)) else (none)) else (if 0 ≤ t327 then (if t327 ≤ (x0.length : Int) then (some (1, 0, t327, strOfNums (x0.take (t327 : Int).toNat), 0)) else (none)) else (none)))) else (if x25 = 9 then (if x5 = true then (if x4 > 1 then ((tmesisref06_name.f k x0).bind fun t330 => (if 0 ≤ t330 then (if t330 ≤ (x0.length : Int) then (some (1, 0, t330, strOfNums (x0.take (t330 : Int).toNat), 0)) else (none)) else (none))) else (some (8, 0, 1, (⟨#[]⟩ : ByteArray), 10))) else (some (8, 0, 1, (⟨#[]⟩ : ByteArray), 10))) else (if x25 = 5 then ((tmesisref02_Run.f k x0 5).bind fun t332 => (if t332 = 1 then (if 0 < (x0.length : Int) then (if (rd x0 0) = 46 then ((tmesisref06_ends.f k x0).bind fun t334 => (if t334 = true then (if 0 ≤ t332 then (if t332 ≤ (x0.length : Int) then (some (7, 0, t332, strOfNums (x0.take (t332 : Int).toNat), 0)) else (none)) else (none)) else (if 0 ≤ t332 then (if t332 ≤ (x0.length : Int) then (some (2, 0, t332, strOfNums (x0.take (t332 : Int).toNat), 0)) else (none)) else (none)))) else (if 0 ≤ t332 then (if t332 ≤ (x0.length : Int) then (some (2, 0, t332, strOfNums (x0.take (t332 : Int).toNat), 0)) else (none)) else (none))) else (none)) else (if 0 ≤ t332 then (if t332 ≤ (x0.length : Int) then (some (2, 0, t332, strOfNums (x0.take (t332 : Int).toNat), 0)) else (none)) else (none)))) else (if x25 = 4 then ((tmesisref03_Take.f k x0).bind fun bt339 => (if bt339.2.2 = 0 then (if 0 ≤ bt339.2.1 then (if bt339.2.1 ≤ (x0.length : Int) then (some (4, 0, bt339.2.1, strOfNums (x0.take (bt339.2.1 : Int).toNat), 0)) else (none)) else (none)) else (some (8, 0, bt339.2.1, (⟨#[]⟩ : ByteArray), bt339.2.2)))) else (if x25 = 7 then ((tmesisref04_Take.f k x0).bind fun bt343 => (if bt343.2.2 = 0 then (some (5, 0, bt343.2.1, strOfNums bt343.1, 0)) else (some (8, 0, bt343.2.1, (⟨#[]⟩ : ByteArray), bt343.2.2)))) else (if x25 = 6 then (if 1 ≤ (x0.length : Int) then (some (6, 0, 1, strOfNums (x0.take 1), 0)) else (none)) else (some (8, 0, 1, (⟨#[]⟩ : ByteArray), 11)))))))
def tmesisref06_first.f (k : Nat) (l0 : List Int) : Option (Int × Int × Int × ByteArray × Int) := if 0 < (l0.length : Int) then ((tmesisref02_Of.f k (rd l0 0)).bind fun t324 => ((tmesisref01_Take.f k l0).bind fun bt325 => (if t324 = 2 then (tmesisref06_first.j0 k l0 t324 bt325.1 bt325.2 t324 (t324 == 2)) else (tmesisref06_first.j0 k l0 t324 bt325.1 bt325.2 t324 (t324 == 3))))) else (none)
theorem tmesisref06_first.mono_l : ∀ k, (∀ y0 y1 y2 y3 y4 y5, LeO (tmesisref06_first.j0 k y0 y1 y2 y3 y4 y5) (tmesisref06_first.j0 (k + 1) y0 y1 y2 y3 y4 y5))
 | 0 => fun _ _ _ _ _ _ r h => by simp [tmesisref06_first.j0] at h
 | k + 1 => by
  have ih0 := tmesisref06_first.mono_l k
  ·intro y0 y1 y2 y3 y4 y5
   unfold tmesisref06_first.j0
   repeat' with_reducible first | exact ih0 _ _ _ _ _ _ | exact tmesisref01_Take.mono _ _ | exact tmesisref02_Of.mono _ _ | exact tmesisref02_Run.mono _ _ _ | exact tmesisref03_Take.mono _ _ | exact tmesisref04_Take.mono _ _ | exact tmesisref06_ends.mono _ _ | exact tmesisref06_name.mono _ _ | exact LeO.refl _ | exact LeO.none _ | refine LeO.ite ?_ ?_ | refine LeO.bind ?_ (fun _ => ?_)
theorem tmesisref06_first.mono : ∀ a0 k, LeO (tmesisref06_first.f k a0) (tmesisref06_first.f (k + 1) a0) := by
 intro a0 k
 have ih0 := tmesisref06_first.mono_l k
 unfold tmesisref06_first.f
 repeat' with_reducible first | exact ih0 _ _ _ _ _ _ | exact tmesisref01_Take.mono _ _ | exact tmesisref02_Of.mono _ _ | exact tmesisref02_Run.mono _ _ _ | exact tmesisref03_Take.mono _ _ | exact tmesisref04_Take.mono _ _ | exact tmesisref06_ends.mono _ _ | exact tmesisref06_name.mono _ _ | exact LeO.refl _ | exact LeO.none _ | refine LeO.ite ?_ ?_ | refine LeO.bind ?_ (fun _ => ?_)
set_option maxHeartbeats 8000000 in
set_option maxRecDepth 100000 in
theorem tmesisref06_first.calls (k : Nat) (A0 : Option Addr) (c0 : Nat) (l0 : List Int) (r1 : Int) (r2 : Int) (r3 : Int) (r4 : ByteArray) (r5 : Int) (w : World) (hr0 : Kd.C (Kd.int .u8) w A0 l0.length l0) (hc0 : l0.length ≤ c0) (h : tmesisref06_first.f k l0 = some (r1, r2, r3, r4, r5)) :
  Calls Tryd.prog 31 #[.slice A0 l0.length c0] w fun e w' => e = .returned (.agg #[.int .i64 r1, .int .i64 r2, .int .i64 r3, .string r4, .int .i64 r5]) ∧ Below w.heap.size w w' := by
 have hu34 := Tryd.underlying34
 have HR0 := Aside0.mk hr0
 have HC0 := Aside0.mk hc0
 clear hr0 hc0
 have HB := Aside0.mk (Below.refl w.heap.size w)
 have H : (if 0 < (l0.length : Int) then ((tmesisref02_Of.f k (rd l0 0)).bind fun t324 => ((tmesisref01_Take.f k l0).bind fun bt325 => (if t324 = 2 then (tmesisref06_first.j0 k l0 t324 bt325.1 bt325.2 t324 (t324 == 2)) else (tmesisref06_first.j0 k l0 t324 bt325.1 bt325.2 t324 (t324 == 3))))) else (none)) = some (r1, r2, r3, r4, r5) := h
 clear h
 by_cases c2 : 0 < (l0.length : Int)
 ·rw [if_pos c2] at H
  have c2b0 := decide_eq_true c2
  have c2b1 : decide (0 < l0.length) = true := decide_eq_true (by omega)
  clear c2
  obtain ⟨t324, A3, H⟩ := bE H
  obtain ⟨⟨t325, t326⟩, A4, H⟩ := bE H
  replace H : (if t324 = 2 then (tmesisref06_first.j0 k l0 t324 t325 t326 t324 (t324 == 2)) else (tmesisref06_first.j0 k l0 t324 t325 t326 t324 (t324 == 3))) = some (r1, r2, r3, r4, r5) := H
  have HC5 := Aside0.mk H
  clear H
  go_enter Tryd.func31, Tryd.ntmps31
  go_upto_if 26 with (first | ((with_reducible refine gate_dst (N := 2) rfl ?_); refine box_event ?hg (N := 2) ?hd (cs := #[.int .i64 0, .int .i64 0, .int .i64 0, .string (⟨#[]⟩ : ByteArray), .int .i64 0]) (t := 34) ?hr ?_; (case hd => rfl); (case hg => rfl); (case hr => first | (go_simp; done) | (go_simp; rfl)); intro gb322 hg w6 hbox hb; have BK322 := Aside0.mk (hbox); have GW322 := Aside0.mk (gE (g := gb322) hg HB.out); have GE322 := Aside0.mk (gE (g := gb322) hg HB.out); replace HB := Aside0.mk (below_step (bAt HB.out) hb); clear hb hbox hg; have p323 : 0 ≤ (0 : Int) := (by omega); have q323 : 0 < (l0.length : Int) := dt; obtain ⟨ad323, e323, hx323_0⟩ := Kd.at_int HR0.out 0 p323 q323; cases e323; have qi323 : (0 < l0.length) = True := eq_true (by omega); (try rw [show ((0 : Int)).toNat = 0 from rfl] at hx323_0); (try rw [Addr.add_zero'] at hx323_0); replace hx323_0 := pw_cell_below HB.out hx323_0; replace p323 := eq_true p323; replace q323 := eq_true q323) | ((with_reducible refine gate_callee (f := 47) rfl ?_); refine gL (some 19) Tryd.func47 #[.int .u8 (rd l0 0)] rfl gA ?_; (with_reducible refine (tmesisref02_Of.calls k (rd l0 0) t324 _ A3.out).mono ?_); rintro e w' ⟨rfl, ⟨nd, rfl⟩⟩; refine ⟨_, rfl, ?_⟩) | ((with_reducible refine gate_callee (f := 36) rfl ?_); refine gL (some 22) Tryd.func36 #[.slice (some ad323) l0.length c0] rfl gA ?_; (with_reducible refine (tmesisref01_Take.calls k _ _ l0 t325 t326 _ ?side1 ?side2 A4.out).mono ?_); (case side1 => exact CAt (Kd.C_below HR0.out (bAt HB.out))); (case side2 => exact HC0.out); rintro e w' ⟨rfl, ⟨nd, rfl⟩⟩; refine ⟨_, rfl, ?_⟩))
  (try simp only [Act.put, List.setIfInBounds_toArray, List.set_cons_zero, List.set_cons_succ])
  go_cut [26] (fun v26 wc => ∃ (kq : Nat) (x26_4 : Bool), v26 = .bool x26_4 ∧ Aside0 (tmesisref06_first.j0 kq l0 t324 t325 t326 t324 x26_4 = some (r1, r2, r3, r4, r5)) ∧ Aside0 (kq ≤ k) ∧ Aside0 (wc.heap[gb322]? = some (.cells #[.int .i64 0, .int .i64 0, .int .i64 0, .string (⟨#[]⟩ : ByteArray), .int .i64 0] 34 (0, 0))) ∧ Aside0 (Below w.heap.size w wc))
  case first =>
   have H := HC5.out
   clear HC5
   by_cases c7 : t324 = 2
   ·rw [if_pos c7] at H
    obtain ⟨c7b0, c7b1⟩ := eqB c7
    clear c7
    (first | rw [c7b0] | (simp only [i64_w, i32_w]; rw [c7b0]) | skip)
    have H' := Aside0.mk H
    clear H
    go_wp2
    go_meet
    case rel => exact ⟨_, ((t324 == 2)), sR, H', ⟨by first | omega | exact Nat.le_refl _⟩, ⟨kAt BK322.out⟩, ⟨bAt HB.out⟩⟩
   ·rw [if_neg c7] at H
    obtain ⟨c7b0, c7b1⟩ := neB c7
    (first | rw [c7b0] | (simp only [i64_w, i32_w]; rw [c7b0]) | skip)
    have H' := Aside0.mk H
    clear H
    go_wp2
    go_meet
    case rel => exact ⟨_, ((t324 == 3)), sR, H', ⟨by first | omega | exact Nat.le_refl _⟩, ⟨kAt BK322.out⟩, ⟨bAt HB.out⟩⟩
  case rest =>
   clear HC5
   try clear c2
   try clear c2b0 c2b1
   try clear p2
   try clear c3
   try clear p3
   try clear q3
   try clear hx3
   try clear qi3
   try clear c4
   try clear c7
   try clear c7b0 c7b1
   try clear hx323_0
   try clear p323
   try clear q323
   obtain ⟨kq, x26_4, rfl, HA, HJ4, BK322, HB⟩ := hcut
   cases kq with
   | zero => exact absurd HA.out (by simp [tmesisref06_first.j0])
   | succ kj4 =>
    have H := HA.out
    clear HA
    simp only [tmesisref06_first.j0] at H
    by_cases c8 : x26_4 = true
    ·subst c8
     replace H := tP H
     obtain ⟨t327, A9, H⟩ := bE H
     by_cases c10 : t324 = 3
     ·rw [if_pos c10] at H
      obtain ⟨c10b0, c10b1⟩ := eqB c10
      clear c10
      by_cases c11 : 0 ≤ t327
      ·rw [if_pos c11] at H
       have c11b0 := eq_true c11
       have c11b1 := decide_eq_true c11
       clear c11
       by_cases c12 : t327 ≤ (l0.length : Int)
       ·rw [if_pos c12] at H
        have c12b0 := eq_true c12
        have c12b1 := decide_eq_true c12
        clear c12
        simp only [Option.some.injEq, Prod.mk.injEq] at H
        obtain ⟨rfl, rfl, rfl, rfl, rfl⟩ := H
        go_wp2_with (first | ((with_reducible refine gate_callee (f := 50) rfl ?_); refine gL (some 30) Tryd.func50 #[.slice (some ad323) l0.length c0] rfl gA ?_; (with_reducible refine (tmesisref06_name.calls kj4 _ _ l0 t327 _ ?side1 ?side2 A9.out).mono ?_); (case side1 => exact CAt (Kd.C_below HR0.out HB.out)); (case side2 => exact HC0.out); rintro e w' ⟨rfl, ⟨nd, rfl⟩⟩; refine ⟨_, rfl, ?_⟩; (try (rw [drewN_self wc]; generalize hq_ : World.drewN wc _ = wc; replace BK322 := kq BK322 hq_; replace HB := bq HB hq_; clear hq_)); obtain ⟨i013, hi013, _, hsz13, _⟩ := info_parts info5; obtain ⟨hcut13, hA13, hC13⟩ := print_take_of (P := Tryd.prog) (Value.int .u8) 0 22 5 .i64 Tryd.underlying22 hi013 hsz13 (some ad323) c0 l0 t327 dt dt HC0.out; have HR328 := Aside0.mk (Kd.C_of_reads (h1 := fun _ => rfl) (hA13 _ (Kd.reads_of_C HR0.out))); have HC328 := Aside0.mk hC13; clear hA13 hC13 hi013 hsz13; have hcv14 := Kd.C_string (P := Tryd.prog) (A := (some ad323)) (c := c0) Tryd.underlying22 Tryd.underlying5 Tryd.underlying9 (Kd.C_below HR328.out HB.out); have hcv14z := hcv14; (try rw [List.length_drop, List.length_take, Nat.min_eq_left (Int.toNat_le.mpr dt)] at hcv14z); have hcv14y := hcv14; (try rw [List.length_take, Nat.min_eq_left (Int.toNat_le.mpr dt)] at hcv14y); have hcv14x := hcv14; (try rw [List.length_take, mM] at hcv14x); have hcv14m := hcv14; (try simp only [Int.reduceToNat, List.length_take] at hcv14m); have hcv14q := fun (q_ : Nat) => Kd.C_string (P := Tryd.prog) (A := (some ad323)) (c := c0) Tryd.underlying22 Tryd.underlying5 Tryd.underlying9 (Kd.C_drewN (Kd.C_below HR328.out HB.out) q_); have hcv14qy := hcv14q; (try simp only [List.length_take, Nat.min_eq_left (Int.toNat_le.mpr dt)] at hcv14qy); have hcv14qw := hcv14q; (try simp only [Int.reduceToNat] at hcv14qw); have hcv14qv := hcv14qy; (try simp only [Int.reduceToNat] at hcv14qv); have hcv14qu := hcv14q; (try simp only [Int.reduceToNat, List.length_take] at hcv14qu); obtain ⟨hcz15_0, hcz15_1, hcz15_2, hcz15_3, hcz15_4, hfz15_0, hfz15_1, hfz15_2, hfz15_3, hfz15_4⟩ := blk5 BK322.out))
        refine bodyPost_ret (results_cell_row rfl _ _ gb322 34 #[.int .i64 3, .int .i64 0, .int .i64 t327, .string (strOfNums (l0.take (t327 : Int).toNat)), .int .i64 0] (0, 0) _ rfl (by refine bP #[.int .i64 3, .int .i64 0, .int .i64 t327, .string (strOfNums (l0.take (t327 : Int).toNat)), .int .i64 0] 4 ?_; refine bP #[.int .i64 3, .int .i64 0, .int .i64 t327, .string (⟨#[]⟩ : ByteArray), .int .i64 0] 3 ?_; refine bP #[.int .i64 3, .int .i64 0, .int .i64 0, .string (⟨#[]⟩ : ByteArray), .int .i64 0] 2 ?_; refine bP #[.int .i64 3, .int .i64 0, .int .i64 0, .string (⟨#[]⟩ : ByteArray), .int .i64 0] 1 ?_; refine bP #[.int .i64 0, .int .i64 0, .int .i64 0, .string (⟨#[]⟩ : ByteArray), .int .i64 0] 0 ?_; (with_reducible repeat (first | refine blk_drewN ?_ _ | refine blk_drew ?_ | refine blk_alloc ?_ _)); exact BK322.out) Tryd.underlying34 rfl (by kernel_rfl)) rfl ?_
        exact ⟨eR, bAt HB.out⟩
       ·exact nB H c12
      ·exact nB H c11
     ·rw [if_neg c10] at H
      obtain ⟨c10b0, c10b1⟩ := neB c10
      by_cases c16 : 0 ≤ t327
      ·rw [if_pos c16] at H
       have c16b0 := eq_true c16
       have c16b1 := decide_eq_true c16
       clear c16
       by_cases c17 : t327 ≤ (l0.length : Int)
       ·rw [if_pos c17] at H
        have c17b0 := eq_true c17
        have c17b1 := decide_eq_true c17
        clear c17
        simp only [Option.some.injEq, Prod.mk.injEq] at H
        obtain ⟨rfl, rfl, rfl, rfl, rfl⟩ := H
        go_wp2_with (first | ((with_reducible refine gate_callee (f := 50) rfl ?_); refine gL (some 30) Tryd.func50 #[.slice (some ad323) l0.length c0] rfl gA ?_; (with_reducible refine (tmesisref06_name.calls kj4 _ _ l0 t327 _ ?side1 ?side2 A9.out).mono ?_); (case side1 => exact CAt (Kd.C_below HR0.out HB.out)); (case side2 => exact HC0.out); rintro e w' ⟨rfl, ⟨nd, rfl⟩⟩; refine ⟨_, rfl, ?_⟩; (try (rw [drewN_self wc]; generalize hq_ : World.drewN wc _ = wc; replace BK322 := kq BK322 hq_; replace HB := bq HB hq_; clear hq_)); obtain ⟨i018, hi018, _, hsz18, _⟩ := info_parts info5; obtain ⟨hcut18, hA18, hC18⟩ := print_take_of (P := Tryd.prog) (Value.int .u8) 0 22 5 .i64 Tryd.underlying22 hi018 hsz18 (some ad323) c0 l0 t327 dt dt HC0.out; have HR329 := Aside0.mk (Kd.C_of_reads (h1 := fun _ => rfl) (hA18 _ (Kd.reads_of_C HR0.out))); have HC329 := Aside0.mk hC18; clear hA18 hC18 hi018 hsz18; have hcv19 := Kd.C_string (P := Tryd.prog) (A := (some ad323)) (c := c0) Tryd.underlying22 Tryd.underlying5 Tryd.underlying9 (Kd.C_below HR329.out HB.out); have hcv19z := hcv19; (try rw [List.length_drop, List.length_take, Nat.min_eq_left (Int.toNat_le.mpr dt)] at hcv19z); have hcv19y := hcv19; (try rw [List.length_take, Nat.min_eq_left (Int.toNat_le.mpr dt)] at hcv19y); have hcv19x := hcv19; (try rw [List.length_take, mM] at hcv19x); have hcv19m := hcv19; (try simp only [Int.reduceToNat, List.length_take] at hcv19m); have hcv19q := fun (q_ : Nat) => Kd.C_string (P := Tryd.prog) (A := (some ad323)) (c := c0) Tryd.underlying22 Tryd.underlying5 Tryd.underlying9 (Kd.C_drewN (Kd.C_below HR329.out HB.out) q_); have hcv19qy := hcv19q; (try simp only [List.length_take, Nat.min_eq_left (Int.toNat_le.mpr dt)] at hcv19qy); have hcv19qw := hcv19q; (try simp only [Int.reduceToNat] at hcv19qw); have hcv19qv := hcv19qy; (try simp only [Int.reduceToNat] at hcv19qv); have hcv19qu := hcv19q; (try simp only [Int.reduceToNat, List.length_take] at hcv19qu); obtain ⟨hcz20_0, hcz20_1, hcz20_2, hcz20_3, hcz20_4, hfz20_0, hfz20_1, hfz20_2, hfz20_3, hfz20_4⟩ := blk5 BK322.out))
        refine bodyPost_ret (results_cell_row rfl _ _ gb322 34 #[.int .i64 1, .int .i64 0, .int .i64 t327, .string (strOfNums (l0.take (t327 : Int).toNat)), .int .i64 0] (0, 0) _ rfl (by refine bP #[.int .i64 1, .int .i64 0, .int .i64 t327, .string (strOfNums (l0.take (t327 : Int).toNat)), .int .i64 0] 4 ?_; refine bP #[.int .i64 1, .int .i64 0, .int .i64 t327, .string (⟨#[]⟩ : ByteArray), .int .i64 0] 3 ?_; refine bP #[.int .i64 1, .int .i64 0, .int .i64 0, .string (⟨#[]⟩ : ByteArray), .int .i64 0] 2 ?_; refine bP #[.int .i64 1, .int .i64 0, .int .i64 0, .string (⟨#[]⟩ : ByteArray), .int .i64 0] 1 ?_; refine bP #[.int .i64 0, .int .i64 0, .int .i64 0, .string (⟨#[]⟩ : ByteArray), .int .i64 0] 0 ?_; (with_reducible repeat (first | refine blk_drewN ?_ _ | refine blk_drew ?_ | refine blk_alloc ?_ _)); exact BK322.out) Tryd.underlying34 rfl (by kernel_rfl)) rfl ?_
        exact ⟨eR, bAt HB.out⟩
       ·exact nB H c17
      ·exact nB H c16
    ·replace c8 := Bool.eq_false_iff.mpr c8
     subst c8
     replace H := fP H
     by_cases c21 : t324 = 9
     ·rw [if_pos c21] at H
      obtain ⟨c21b0, c21b1⟩ := eqB c21
      clear c21
      by_cases c22 : t326 = true
      ·subst c22
       replace H := tP H
       by_cases c23 : t325 > 1
       ·rw [if_pos c23] at H
        have c23b0 : decide (1 < t325) = true := decide_eq_true c23
        clear c23
        obtain ⟨t330, A24, H⟩ := bE H
        by_cases c25 : 0 ≤ t330
        ·rw [if_pos c25] at H
         have c25b0 := eq_true c25
         have c25b1 := decide_eq_true c25
         clear c25
         by_cases c26 : t330 ≤ (l0.length : Int)
         ·rw [if_pos c26] at H
          have c26b0 := eq_true c26
          have c26b1 := decide_eq_true c26
          clear c26
          simp only [Option.some.injEq, Prod.mk.injEq] at H
          obtain ⟨rfl, rfl, rfl, rfl, rfl⟩ := H
          go_wp2_with (first | ((with_reducible refine gate_callee (f := 50) rfl ?_); refine gL (some 53) Tryd.func50 #[.slice (some ad323) l0.length c0] rfl gA ?_; (with_reducible refine (tmesisref06_name.calls kj4 _ _ l0 t330 _ ?side1 ?side2 A24.out).mono ?_); (case side1 => exact CAt (Kd.C_below HR0.out HB.out)); (case side2 => exact HC0.out); rintro e w' ⟨rfl, ⟨nd, rfl⟩⟩; refine ⟨_, rfl, ?_⟩; (try (rw [drewN_self wc]; generalize hq_ : World.drewN wc _ = wc; replace BK322 := kq BK322 hq_; replace HB := bq HB hq_; clear hq_)); obtain ⟨i027, hi027, _, hsz27, _⟩ := info_parts info5; obtain ⟨hcut27, hA27, hC27⟩ := print_take_of (P := Tryd.prog) (Value.int .u8) 0 22 5 .i64 Tryd.underlying22 hi027 hsz27 (some ad323) c0 l0 t330 dt dt HC0.out; have HR331 := Aside0.mk (Kd.C_of_reads (h1 := fun _ => rfl) (hA27 _ (Kd.reads_of_C HR0.out))); have HC331 := Aside0.mk hC27; clear hA27 hC27 hi027 hsz27; have hcv28 := Kd.C_string (P := Tryd.prog) (A := (some ad323)) (c := c0) Tryd.underlying22 Tryd.underlying5 Tryd.underlying9 (Kd.C_below HR331.out HB.out); have hcv28z := hcv28; (try rw [List.length_drop, List.length_take, Nat.min_eq_left (Int.toNat_le.mpr dt)] at hcv28z); have hcv28y := hcv28; (try rw [List.length_take, Nat.min_eq_left (Int.toNat_le.mpr dt)] at hcv28y); have hcv28x := hcv28; (try rw [List.length_take, mM] at hcv28x); have hcv28m := hcv28; (try simp only [Int.reduceToNat, List.length_take] at hcv28m); have hcv28q := fun (q_ : Nat) => Kd.C_string (P := Tryd.prog) (A := (some ad323)) (c := c0) Tryd.underlying22 Tryd.underlying5 Tryd.underlying9 (Kd.C_drewN (Kd.C_below HR331.out HB.out) q_); have hcv28qy := hcv28q; (try simp only [List.length_take, Nat.min_eq_left (Int.toNat_le.mpr dt)] at hcv28qy); have hcv28qw := hcv28q; (try simp only [Int.reduceToNat] at hcv28qw); have hcv28qv := hcv28qy; (try simp only [Int.reduceToNat] at hcv28qv); have hcv28qu := hcv28q; (try simp only [Int.reduceToNat, List.length_take] at hcv28qu); obtain ⟨hcz29_0, hcz29_1, hcz29_2, hcz29_3, hcz29_4, hfz29_0, hfz29_1, hfz29_2, hfz29_3, hfz29_4⟩ := blk5 BK322.out))
          refine bodyPost_ret (results_cell_row rfl _ _ gb322 34 #[.int .i64 1, .int .i64 0, .int .i64 t330, .string (strOfNums (l0.take (t330 : Int).toNat)), .int .i64 0] (0, 0) _ rfl (by refine bP #[.int .i64 1, .int .i64 0, .int .i64 t330, .string (strOfNums (l0.take (t330 : Int).toNat)), .int .i64 0] 4 ?_; refine bP #[.int .i64 1, .int .i64 0, .int .i64 t330, .string (⟨#[]⟩ : ByteArray), .int .i64 0] 3 ?_; refine bP #[.int .i64 1, .int .i64 0, .int .i64 0, .string (⟨#[]⟩ : ByteArray), .int .i64 0] 2 ?_; refine bP #[.int .i64 1, .int .i64 0, .int .i64 0, .string (⟨#[]⟩ : ByteArray), .int .i64 0] 1 ?_; refine bP #[.int .i64 0, .int .i64 0, .int .i64 0, .string (⟨#[]⟩ : ByteArray), .int .i64 0] 0 ?_; (with_reducible repeat (first | refine blk_drewN ?_ _ | refine blk_drew ?_ | refine blk_alloc ?_ _)); exact BK322.out) Tryd.underlying34 rfl (by kernel_rfl)) rfl ?_
          exact ⟨eR, bAt HB.out⟩
         ·exact nB H c26
        ·exact nB H c25
       ·rw [if_neg c23] at H
        have c23b0 : decide (1 < t325) = false := decide_eq_false c23
        clear c23
        simp only [Option.some.injEq, Prod.mk.injEq] at H
        obtain ⟨rfl, rfl, rfl, rfl, rfl⟩ := H
        obtain ⟨hcz30_0, hcz30_1, hcz30_2, hcz30_3, hcz30_4, hfz30_0, hfz30_1, hfz30_2, hfz30_3, hfz30_4⟩ := blk5 BK322.out
        go_wp2
        refine bodyPost_ret (results_cell_row rfl _ _ gb322 34 #[.int .i64 8, .int .i64 0, .int .i64 1, .string (⟨#[]⟩ : ByteArray), .int .i64 10] (0, 0) _ rfl (by refine bP #[.int .i64 8, .int .i64 0, .int .i64 1, .string (⟨#[]⟩ : ByteArray), .int .i64 0] 4 ?_; refine bP #[.int .i64 8, .int .i64 0, .int .i64 1, .string (⟨#[]⟩ : ByteArray), .int .i64 0] 3 ?_; refine bP #[.int .i64 8, .int .i64 0, .int .i64 0, .string (⟨#[]⟩ : ByteArray), .int .i64 0] 2 ?_; refine bP #[.int .i64 8, .int .i64 0, .int .i64 0, .string (⟨#[]⟩ : ByteArray), .int .i64 0] 1 ?_; refine bP #[.int .i64 0, .int .i64 0, .int .i64 0, .string (⟨#[]⟩ : ByteArray), .int .i64 0] 0 ?_; (with_reducible repeat (first | refine blk_drewN ?_ _ | refine blk_drew ?_ | refine blk_alloc ?_ _)); exact BK322.out) Tryd.underlying34 rfl (by kernel_rfl)) rfl ?_
        exact ⟨eR, bAt HB.out⟩
      ·replace c22 := Bool.eq_false_iff.mpr c22
       subst c22
       replace H := fP H
       simp only [Option.some.injEq, Prod.mk.injEq] at H
       obtain ⟨rfl, rfl, rfl, rfl, rfl⟩ := H
       obtain ⟨hcz31_0, hcz31_1, hcz31_2, hcz31_3, hcz31_4, hfz31_0, hfz31_1, hfz31_2, hfz31_3, hfz31_4⟩ := blk5 BK322.out
       go_wp2
       refine bodyPost_ret (results_cell_row rfl _ _ gb322 34 #[.int .i64 8, .int .i64 0, .int .i64 1, .string (⟨#[]⟩ : ByteArray), .int .i64 10] (0, 0) _ rfl (by refine bP #[.int .i64 8, .int .i64 0, .int .i64 1, .string (⟨#[]⟩ : ByteArray), .int .i64 0] 4 ?_; refine bP #[.int .i64 8, .int .i64 0, .int .i64 1, .string (⟨#[]⟩ : ByteArray), .int .i64 0] 3 ?_; refine bP #[.int .i64 8, .int .i64 0, .int .i64 0, .string (⟨#[]⟩ : ByteArray), .int .i64 0] 2 ?_; refine bP #[.int .i64 8, .int .i64 0, .int .i64 0, .string (⟨#[]⟩ : ByteArray), .int .i64 0] 1 ?_; refine bP #[.int .i64 0, .int .i64 0, .int .i64 0, .string (⟨#[]⟩ : ByteArray), .int .i64 0] 0 ?_; (with_reducible repeat (first | refine blk_drewN ?_ _ | refine blk_drew ?_ | refine blk_alloc ?_ _)); exact BK322.out) Tryd.underlying34 rfl (by kernel_rfl)) rfl ?_
       exact ⟨eR, bAt HB.out⟩
     ·rw [if_neg c21] at H
      obtain ⟨c21b0, c21b1⟩ := neB c21
      by_cases c32 : t324 = 5
      ·rw [if_pos c32] at H
       obtain ⟨c32b0, c32b1⟩ := eqB c32
       clear c32
       obtain ⟨t332, A33, H⟩ := bE H
       by_cases c34 : t332 = 1
       ·rw [if_pos c34] at H
        obtain ⟨c34b0, c34b1⟩ := eqB c34
        clear c34
        by_cases c35 : 0 < (l0.length : Int)
        ·rw [if_pos c35] at H
         have c35b0 := decide_eq_true c35
         have c35b1 : decide (0 < l0.length) = true := decide_eq_true (by omega)
         clear c35
         by_cases c36 : (rd l0 0) = 46
         ·rw [if_pos c36] at H
          obtain ⟨c36b0, c36b1⟩ := eqB c36
          clear c36
          obtain ⟨t334, A37, H⟩ := bE H
          by_cases c38 : t334 = true
          ·subst c38
           replace H := tP H
           by_cases c39 : 0 ≤ t332
           ·rw [if_pos c39] at H
            have c39b0 := eq_true c39
            have c39b1 := decide_eq_true c39
            clear c39
            by_cases c40 : t332 ≤ (l0.length : Int)
            ·rw [if_pos c40] at H
             have c40b0 := eq_true c40
             have c40b1 := decide_eq_true c40
             clear c40
             simp only [Option.some.injEq, Prod.mk.injEq] at H
             obtain ⟨rfl, rfl, rfl, rfl, rfl⟩ := H
             go_wp2_with (first | ((with_reducible refine gate_callee (f := 51) rfl ?_); refine gL (some 64) Tryd.func51 #[.slice (some ad323) l0.length c0, .int .i64 5] rfl gA ?_; (with_reducible refine (tmesisref02_Run.calls kj4 _ _ l0 5 t332 _ ?side1 ?side2 A33.out).mono ?_); (case side1 => exact CAt (Kd.C_below HR0.out HB.out)); (case side2 => exact HC0.out); rintro e w' ⟨rfl, ⟨nd, rfl⟩⟩; refine ⟨_, rfl, ?_⟩; (try (rw [drewN_self wc]; generalize hq_ : World.drewN wc _ = wc; replace BK322 := kq BK322 hq_; replace HB := bq HB hq_; clear hq_)); have p333 : 0 ≤ (0 : Int) := (by omega); have q333 : 0 < (l0.length : Int) := dt; obtain ⟨ad333, e333, hx333_0⟩ := Kd.at_int HR0.out 0 p333 q333; obtain rfl : ad323 = ad333 := (by injection e333); have qi333 : (0 < l0.length) = True := eq_true (by omega); (try rw [show ((0 : Int)).toNat = 0 from rfl] at hx333_0); (try rw [Addr.add_zero'] at hx333_0); replace hx333_0 := pw_cell_below HB.out hx333_0; replace p333 := eq_true p333; replace q333 := eq_true q333) | ((with_reducible refine gate_callee (f := 52) rfl ?_); (try (refine gate_guard (by rfl) ?_; dsimp only)); refine gL (some 75) Tryd.func52 #[.slice (some ad323) l0.length c0] rfl gA ?_; (with_reducible refine (tmesisref06_ends.calls kj4 _ _ l0 true _ ?side1 ?side2 A37.out).mono ?_); (case side1 => exact CAt (Kd.C_below HR0.out HB.out)); (case side2 => exact HC0.out); rintro e w' ⟨rfl, ⟨nd, rfl⟩⟩; refine ⟨_, rfl, ?_⟩; (try (rw [drewN_self wc]; generalize hq_ : World.drewN wc _ = wc; replace BK322 := kq BK322 hq_; replace HB := bq HB hq_; clear hq_)); obtain ⟨i041, hi041, _, hsz41, _⟩ := info_parts info5; obtain ⟨hcut41, hA41, hC41⟩ := print_take_of (P := Tryd.prog) (Value.int .u8) 0 22 5 .i64 Tryd.underlying22 hi041 hsz41 (some ad323) c0 l0 t332 dt dt HC0.out; have HR335 := Aside0.mk (Kd.C_of_reads (h1 := fun _ => rfl) (hA41 _ (Kd.reads_of_C HR0.out))); have HC335 := Aside0.mk hC41; clear hA41 hC41 hi041 hsz41; have hcv42 := Kd.C_string (P := Tryd.prog) (A := (some ad323)) (c := c0) Tryd.underlying22 Tryd.underlying5 Tryd.underlying9 (Kd.C_below HR335.out HB.out); have hcv42z := hcv42; (try rw [List.length_drop, List.length_take, Nat.min_eq_left (Int.toNat_le.mpr dt)] at hcv42z); have hcv42y := hcv42; (try rw [List.length_take, Nat.min_eq_left (Int.toNat_le.mpr dt)] at hcv42y); have hcv42x := hcv42; (try rw [List.length_take, mM] at hcv42x); have hcv42m := hcv42; (try simp only [Int.reduceToNat, List.length_take] at hcv42m); have hcv42q := fun (q_ : Nat) => Kd.C_string (P := Tryd.prog) (A := (some ad323)) (c := c0) Tryd.underlying22 Tryd.underlying5 Tryd.underlying9 (Kd.C_drewN (Kd.C_below HR335.out HB.out) q_); have hcv42qy := hcv42q; (try simp only [List.length_take, Nat.min_eq_left (Int.toNat_le.mpr dt)] at hcv42qy); have hcv42qw := hcv42q; (try simp only [Int.reduceToNat] at hcv42qw); have hcv42qv := hcv42qy; (try simp only [Int.reduceToNat] at hcv42qv); have hcv42qu := hcv42q; (try simp only [Int.reduceToNat, List.length_take] at hcv42qu); obtain ⟨hcz43_0, hcz43_1, hcz43_2, hcz43_3, hcz43_4, hfz43_0, hfz43_1, hfz43_2, hfz43_3, hfz43_4⟩ := blk5 BK322.out))
             refine bodyPost_ret (results_cell_row rfl _ _ gb322 34 #[.int .i64 7, .int .i64 0, .int .i64 t332, .string (strOfNums (l0.take (t332 : Int).toNat)), .int .i64 0] (0, 0) _ rfl (by refine bP #[.int .i64 7, .int .i64 0, .int .i64 t332, .string (strOfNums (l0.take (t332 : Int).toNat)), .int .i64 0] 4 ?_; refine bP #[.int .i64 7, .int .i64 0, .int .i64 t332, .string (⟨#[]⟩ : ByteArray), .int .i64 0] 3 ?_; refine bP #[.int .i64 7, .int .i64 0, .int .i64 0, .string (⟨#[]⟩ : ByteArray), .int .i64 0] 2 ?_; refine bP #[.int .i64 7, .int .i64 0, .int .i64 0, .string (⟨#[]⟩ : ByteArray), .int .i64 0] 1 ?_; refine bP #[.int .i64 0, .int .i64 0, .int .i64 0, .string (⟨#[]⟩ : ByteArray), .int .i64 0] 0 ?_; (with_reducible repeat (first | refine blk_drewN ?_ _ | refine blk_drew ?_ | refine blk_alloc ?_ _)); exact BK322.out) Tryd.underlying34 rfl (by kernel_rfl)) rfl ?_
             exact ⟨eR, bAt HB.out⟩
            ·exact nB H c40
           ·exact nB H c39
          ·replace c38 := Bool.eq_false_iff.mpr c38
           subst c38
           replace H := fP H
           by_cases c44 : 0 ≤ t332
           ·rw [if_pos c44] at H
            have c44b0 := eq_true c44
            have c44b1 := decide_eq_true c44
            clear c44
            by_cases c45 : t332 ≤ (l0.length : Int)
            ·rw [if_pos c45] at H
             have c45b0 := eq_true c45
             have c45b1 := decide_eq_true c45
             clear c45
             simp only [Option.some.injEq, Prod.mk.injEq] at H
             obtain ⟨rfl, rfl, rfl, rfl, rfl⟩ := H
             go_wp2_with (first | ((with_reducible refine gate_callee (f := 51) rfl ?_); refine gL (some 64) Tryd.func51 #[.slice (some ad323) l0.length c0, .int .i64 5] rfl gA ?_; (with_reducible refine (tmesisref02_Run.calls kj4 _ _ l0 5 t332 _ ?side1 ?side2 A33.out).mono ?_); (case side1 => exact CAt (Kd.C_below HR0.out HB.out)); (case side2 => exact HC0.out); rintro e w' ⟨rfl, ⟨nd, rfl⟩⟩; refine ⟨_, rfl, ?_⟩; (try (rw [drewN_self wc]; generalize hq_ : World.drewN wc _ = wc; replace BK322 := kq BK322 hq_; replace HB := bq HB hq_; clear hq_)); have p333 : 0 ≤ (0 : Int) := (by omega); have q333 : 0 < (l0.length : Int) := dt; obtain ⟨ad333, e333, hx333_0⟩ := Kd.at_int HR0.out 0 p333 q333; obtain rfl : ad323 = ad333 := (by injection e333); have qi333 : (0 < l0.length) = True := eq_true (by omega); (try rw [show ((0 : Int)).toNat = 0 from rfl] at hx333_0); (try rw [Addr.add_zero'] at hx333_0); replace hx333_0 := pw_cell_below HB.out hx333_0; replace p333 := eq_true p333; replace q333 := eq_true q333) | ((with_reducible refine gate_callee (f := 52) rfl ?_); (try (refine gate_guard (by rfl) ?_; dsimp only)); refine gL (some 75) Tryd.func52 #[.slice (some ad323) l0.length c0] rfl gA ?_; (with_reducible refine (tmesisref06_ends.calls kj4 _ _ l0 false _ ?side1 ?side2 A37.out).mono ?_); (case side1 => exact CAt (Kd.C_below HR0.out HB.out)); (case side2 => exact HC0.out); rintro e w' ⟨rfl, ⟨nd, rfl⟩⟩; refine ⟨_, rfl, ?_⟩; (try (rw [drewN_self wc]; generalize hq_ : World.drewN wc _ = wc; replace BK322 := kq BK322 hq_; replace HB := bq HB hq_; clear hq_)); obtain ⟨i046, hi046, _, hsz46, _⟩ := info_parts info5; obtain ⟨hcut46, hA46, hC46⟩ := print_take_of (P := Tryd.prog) (Value.int .u8) 0 22 5 .i64 Tryd.underlying22 hi046 hsz46 (some ad323) c0 l0 t332 dt dt HC0.out; have HR336 := Aside0.mk (Kd.C_of_reads (h1 := fun _ => rfl) (hA46 _ (Kd.reads_of_C HR0.out))); have HC336 := Aside0.mk hC46; clear hA46 hC46 hi046 hsz46; have hcv47 := Kd.C_string (P := Tryd.prog) (A := (some ad323)) (c := c0) Tryd.underlying22 Tryd.underlying5 Tryd.underlying9 (Kd.C_below HR336.out HB.out); have hcv47z := hcv47; (try rw [List.length_drop, List.length_take, Nat.min_eq_left (Int.toNat_le.mpr dt)] at hcv47z); have hcv47y := hcv47; (try rw [List.length_take, Nat.min_eq_left (Int.toNat_le.mpr dt)] at hcv47y); have hcv47x := hcv47; (try rw [List.length_take, mM] at hcv47x); have hcv47m := hcv47; (try simp only [Int.reduceToNat, List.length_take] at hcv47m); have hcv47q := fun (q_ : Nat) => Kd.C_string (P := Tryd.prog) (A := (some ad323)) (c := c0) Tryd.underlying22 Tryd.underlying5 Tryd.underlying9 (Kd.C_drewN (Kd.C_below HR336.out HB.out) q_); have hcv47qy := hcv47q; (try simp only [List.length_take, Nat.min_eq_left (Int.toNat_le.mpr dt)] at hcv47qy); have hcv47qw := hcv47q; (try simp only [Int.reduceToNat] at hcv47qw); have hcv47qv := hcv47qy; (try simp only [Int.reduceToNat] at hcv47qv); have hcv47qu := hcv47q; (try simp only [Int.reduceToNat, List.length_take] at hcv47qu); obtain ⟨hcz48_0, hcz48_1, hcz48_2, hcz48_3, hcz48_4, hfz48_0, hfz48_1, hfz48_2, hfz48_3, hfz48_4⟩ := blk5 BK322.out))
             refine bodyPost_ret (results_cell_row rfl _ _ gb322 34 #[.int .i64 2, .int .i64 0, .int .i64 t332, .string (strOfNums (l0.take (t332 : Int).toNat)), .int .i64 0] (0, 0) _ rfl (by refine bP #[.int .i64 2, .int .i64 0, .int .i64 t332, .string (strOfNums (l0.take (t332 : Int).toNat)), .int .i64 0] 4 ?_; refine bP #[.int .i64 2, .int .i64 0, .int .i64 t332, .string (⟨#[]⟩ : ByteArray), .int .i64 0] 3 ?_; refine bP #[.int .i64 2, .int .i64 0, .int .i64 0, .string (⟨#[]⟩ : ByteArray), .int .i64 0] 2 ?_; refine bP #[.int .i64 2, .int .i64 0, .int .i64 0, .string (⟨#[]⟩ : ByteArray), .int .i64 0] 1 ?_; refine bP #[.int .i64 0, .int .i64 0, .int .i64 0, .string (⟨#[]⟩ : ByteArray), .int .i64 0] 0 ?_; (with_reducible repeat (first | refine blk_drewN ?_ _ | refine blk_drew ?_ | refine blk_alloc ?_ _)); exact BK322.out) Tryd.underlying34 rfl (by kernel_rfl)) rfl ?_
             exact ⟨eR, bAt HB.out⟩
            ·exact nB H c45
           ·exact nB H c44
         ·rw [if_neg c36] at H
          obtain ⟨c36b0, c36b1⟩ := neB c36
          by_cases c49 : 0 ≤ t332
          ·rw [if_pos c49] at H
           have c49b0 := eq_true c49
           have c49b1 := decide_eq_true c49
           clear c49
           by_cases c50 : t332 ≤ (l0.length : Int)
           ·rw [if_pos c50] at H
            have c50b0 := eq_true c50
            have c50b1 := decide_eq_true c50
            clear c50
            simp only [Option.some.injEq, Prod.mk.injEq] at H
            obtain ⟨rfl, rfl, rfl, rfl, rfl⟩ := H
            go_wp2_with (first | ((with_reducible refine gate_callee (f := 51) rfl ?_); refine gL (some 64) Tryd.func51 #[.slice (some ad323) l0.length c0, .int .i64 5] rfl gA ?_; (with_reducible refine (tmesisref02_Run.calls kj4 _ _ l0 5 t332 _ ?side1 ?side2 A33.out).mono ?_); (case side1 => exact CAt (Kd.C_below HR0.out HB.out)); (case side2 => exact HC0.out); rintro e w' ⟨rfl, ⟨nd, rfl⟩⟩; refine ⟨_, rfl, ?_⟩; (try (rw [drewN_self wc]; generalize hq_ : World.drewN wc _ = wc; replace BK322 := kq BK322 hq_; replace HB := bq HB hq_; clear hq_)); have p333 : 0 ≤ (0 : Int) := (by omega); have q333 : 0 < (l0.length : Int) := dt; obtain ⟨ad333, e333, hx333_0⟩ := Kd.at_int HR0.out 0 p333 q333; obtain rfl : ad323 = ad333 := (by injection e333); have qi333 : (0 < l0.length) = True := eq_true (by omega); (try rw [show ((0 : Int)).toNat = 0 from rfl] at hx333_0); (try rw [Addr.add_zero'] at hx333_0); replace hx333_0 := pw_cell_below HB.out hx333_0; replace p333 := eq_true p333; replace q333 := eq_true q333; obtain ⟨i051, hi051, _, hsz51, _⟩ := info_parts info5; obtain ⟨hcut51, hA51, hC51⟩ := print_take_of (P := Tryd.prog) (Value.int .u8) 0 22 5 .i64 Tryd.underlying22 hi051 hsz51 (some ad323) c0 l0 t332 dt dt HC0.out; have HR337 := Aside0.mk (Kd.C_of_reads (h1 := fun _ => rfl) (hA51 _ (Kd.reads_of_C HR0.out))); have HC337 := Aside0.mk hC51; clear hA51 hC51 hi051 hsz51; have hcv52 := Kd.C_string (P := Tryd.prog) (A := (some ad323)) (c := c0) Tryd.underlying22 Tryd.underlying5 Tryd.underlying9 (Kd.C_below HR337.out HB.out); have hcv52z := hcv52; (try rw [List.length_drop, List.length_take, Nat.min_eq_left (Int.toNat_le.mpr dt)] at hcv52z); have hcv52y := hcv52; (try rw [List.length_take, Nat.min_eq_left (Int.toNat_le.mpr dt)] at hcv52y); have hcv52x := hcv52; (try rw [List.length_take, mM] at hcv52x); have hcv52m := hcv52; (try simp only [Int.reduceToNat, List.length_take] at hcv52m); have hcv52q := fun (q_ : Nat) => Kd.C_string (P := Tryd.prog) (A := (some ad323)) (c := c0) Tryd.underlying22 Tryd.underlying5 Tryd.underlying9 (Kd.C_drewN (Kd.C_below HR337.out HB.out) q_); have hcv52qy := hcv52q; (try simp only [List.length_take, Nat.min_eq_left (Int.toNat_le.mpr dt)] at hcv52qy); have hcv52qw := hcv52q; (try simp only [Int.reduceToNat] at hcv52qw); have hcv52qv := hcv52qy; (try simp only [Int.reduceToNat] at hcv52qv); have hcv52qu := hcv52q; (try simp only [Int.reduceToNat, List.length_take] at hcv52qu); obtain ⟨hcz53_0, hcz53_1, hcz53_2, hcz53_3, hcz53_4, hfz53_0, hfz53_1, hfz53_2, hfz53_3, hfz53_4⟩ := blk5 BK322.out))
            refine bodyPost_ret (results_cell_row rfl _ _ gb322 34 #[.int .i64 2, .int .i64 0, .int .i64 t332, .string (strOfNums (l0.take (t332 : Int).toNat)), .int .i64 0] (0, 0) _ rfl (by refine bP #[.int .i64 2, .int .i64 0, .int .i64 t332, .string (strOfNums (l0.take (t332 : Int).toNat)), .int .i64 0] 4 ?_; refine bP #[.int .i64 2, .int .i64 0, .int .i64 t332, .string (⟨#[]⟩ : ByteArray), .int .i64 0] 3 ?_; refine bP #[.int .i64 2, .int .i64 0, .int .i64 0, .string (⟨#[]⟩ : ByteArray), .int .i64 0] 2 ?_; refine bP #[.int .i64 2, .int .i64 0, .int .i64 0, .string (⟨#[]⟩ : ByteArray), .int .i64 0] 1 ?_; refine bP #[.int .i64 0, .int .i64 0, .int .i64 0, .string (⟨#[]⟩ : ByteArray), .int .i64 0] 0 ?_; (with_reducible repeat (first | refine blk_drewN ?_ _ | refine blk_drew ?_ | refine blk_alloc ?_ _)); exact BK322.out) Tryd.underlying34 rfl (by kernel_rfl)) rfl ?_
            exact ⟨eR, bAt HB.out⟩
           ·exact nB H c50
          ·exact nB H c49
        ·exact nB H c35
       ·rw [if_neg c34] at H
        obtain ⟨c34b0, c34b1⟩ := neB c34
        by_cases c54 : 0 ≤ t332
        ·rw [if_pos c54] at H
         have c54b0 := eq_true c54
         have c54b1 := decide_eq_true c54
         clear c54
         by_cases c55 : t332 ≤ (l0.length : Int)
         ·rw [if_pos c55] at H
          have c55b0 := eq_true c55
          have c55b1 := decide_eq_true c55
          clear c55
          simp only [Option.some.injEq, Prod.mk.injEq] at H
          obtain ⟨rfl, rfl, rfl, rfl, rfl⟩ := H
          go_wp2_with (first | ((with_reducible refine gate_callee (f := 51) rfl ?_); refine gL (some 64) Tryd.func51 #[.slice (some ad323) l0.length c0, .int .i64 5] rfl gA ?_; (with_reducible refine (tmesisref02_Run.calls kj4 _ _ l0 5 t332 _ ?side1 ?side2 A33.out).mono ?_); (case side1 => exact CAt (Kd.C_below HR0.out HB.out)); (case side2 => exact HC0.out); rintro e w' ⟨rfl, ⟨nd, rfl⟩⟩; refine ⟨_, rfl, ?_⟩; (try (rw [drewN_self wc]; generalize hq_ : World.drewN wc _ = wc; replace BK322 := kq BK322 hq_; replace HB := bq HB hq_; clear hq_)); obtain ⟨i056, hi056, _, hsz56, _⟩ := info_parts info5; obtain ⟨hcut56, hA56, hC56⟩ := print_take_of (P := Tryd.prog) (Value.int .u8) 0 22 5 .i64 Tryd.underlying22 hi056 hsz56 (some ad323) c0 l0 t332 dt dt HC0.out; have HR338 := Aside0.mk (Kd.C_of_reads (h1 := fun _ => rfl) (hA56 _ (Kd.reads_of_C HR0.out))); have HC338 := Aside0.mk hC56; clear hA56 hC56 hi056 hsz56; have hcv57 := Kd.C_string (P := Tryd.prog) (A := (some ad323)) (c := c0) Tryd.underlying22 Tryd.underlying5 Tryd.underlying9 (Kd.C_below HR338.out HB.out); have hcv57z := hcv57; (try rw [List.length_drop, List.length_take, Nat.min_eq_left (Int.toNat_le.mpr dt)] at hcv57z); have hcv57y := hcv57; (try rw [List.length_take, Nat.min_eq_left (Int.toNat_le.mpr dt)] at hcv57y); have hcv57x := hcv57; (try rw [List.length_take, mM] at hcv57x); have hcv57m := hcv57; (try simp only [Int.reduceToNat, List.length_take] at hcv57m); have hcv57q := fun (q_ : Nat) => Kd.C_string (P := Tryd.prog) (A := (some ad323)) (c := c0) Tryd.underlying22 Tryd.underlying5 Tryd.underlying9 (Kd.C_drewN (Kd.C_below HR338.out HB.out) q_); have hcv57qy := hcv57q; (try simp only [List.length_take, Nat.min_eq_left (Int.toNat_le.mpr dt)] at hcv57qy); have hcv57qw := hcv57q; (try simp only [Int.reduceToNat] at hcv57qw); have hcv57qv := hcv57qy; (try simp only [Int.reduceToNat] at hcv57qv); have hcv57qu := hcv57q; (try simp only [Int.reduceToNat, List.length_take] at hcv57qu); obtain ⟨hcz58_0, hcz58_1, hcz58_2, hcz58_3, hcz58_4, hfz58_0, hfz58_1, hfz58_2, hfz58_3, hfz58_4⟩ := blk5 BK322.out))
          refine bodyPost_ret (results_cell_row rfl _ _ gb322 34 #[.int .i64 2, .int .i64 0, .int .i64 t332, .string (strOfNums (l0.take (t332 : Int).toNat)), .int .i64 0] (0, 0) _ rfl (by refine bP #[.int .i64 2, .int .i64 0, .int .i64 t332, .string (strOfNums (l0.take (t332 : Int).toNat)), .int .i64 0] 4 ?_; refine bP #[.int .i64 2, .int .i64 0, .int .i64 t332, .string (⟨#[]⟩ : ByteArray), .int .i64 0] 3 ?_; refine bP #[.int .i64 2, .int .i64 0, .int .i64 0, .string (⟨#[]⟩ : ByteArray), .int .i64 0] 2 ?_; refine bP #[.int .i64 2, .int .i64 0, .int .i64 0, .string (⟨#[]⟩ : ByteArray), .int .i64 0] 1 ?_; refine bP #[.int .i64 0, .int .i64 0, .int .i64 0, .string (⟨#[]⟩ : ByteArray), .int .i64 0] 0 ?_; (with_reducible repeat (first | refine blk_drewN ?_ _ | refine blk_drew ?_ | refine blk_alloc ?_ _)); exact BK322.out) Tryd.underlying34 rfl (by kernel_rfl)) rfl ?_
          exact ⟨eR, bAt HB.out⟩
         ·exact nB H c55
        ·exact nB H c54
      ·rw [if_neg c32] at H
       obtain ⟨c32b0, c32b1⟩ := neB c32
       by_cases c59 : t324 = 4
       ·rw [if_pos c59] at H
        obtain ⟨c59b0, c59b1⟩ := eqB c59
        clear c59
        obtain ⟨⟨t339, t340, t341⟩, A60, H⟩ := bE H
        replace H : (if t341 = 0 then (if 0 ≤ t340 then (if t340 ≤ (l0.length : Int) then (some (4, 0, t340, strOfNums (l0.take (t340 : Int).toNat), 0)) else (none)) else (none)) else (some (8, 0, t340, (⟨#[]⟩ : ByteArray), t341))) = some (r1, r2, r3, r4, r5) := H
        by_cases c61 : t341 = 0
        ·rw [if_pos c61] at H
         obtain ⟨c61b0, c61b1⟩ := eqB c61
         clear c61
         by_cases c62 : 0 ≤ t340
         ·rw [if_pos c62] at H
          have c62b0 := eq_true c62
          have c62b1 := decide_eq_true c62
          clear c62
          by_cases c63 : t340 ≤ (l0.length : Int)
          ·rw [if_pos c63] at H
           have c63b0 := eq_true c63
           have c63b1 := decide_eq_true c63
           clear c63
           simp only [Option.some.injEq, Prod.mk.injEq] at H
           obtain ⟨rfl, rfl, rfl, rfl, rfl⟩ := H
           go_wp2_with (first | ((with_reducible refine gate_callee (f := 53) rfl ?_); refine gL (some 88) Tryd.func53 #[.slice (some ad323) l0.length c0] rfl gA ?_; (with_reducible refine (tmesisref03_Take.calls kj4 _ _ l0 t339 t340 t341 _ ?side1 ?side2 A60.out).mono ?_); (case side1 => exact CAt (Kd.C_below HR0.out HB.out)); (case side2 => exact HC0.out); rintro e w' ⟨rfl, ⟨nd, rfl⟩⟩; refine ⟨_, rfl, ?_⟩; (try (rw [drewN_self wc]; generalize hq_ : World.drewN wc _ = wc; replace BK322 := kq BK322 hq_; replace HB := bq HB hq_; clear hq_)); obtain ⟨i064, hi064, _, hsz64, _⟩ := info_parts info5; obtain ⟨hcut64, hA64, hC64⟩ := print_take_of (P := Tryd.prog) (Value.int .u8) 0 22 5 .i64 Tryd.underlying22 hi064 hsz64 (some ad323) c0 l0 t340 dt dt HC0.out; have HR342 := Aside0.mk (Kd.C_of_reads (h1 := fun _ => rfl) (hA64 _ (Kd.reads_of_C HR0.out))); have HC342 := Aside0.mk hC64; clear hA64 hC64 hi064 hsz64; have hcv65 := Kd.C_string (P := Tryd.prog) (A := (some ad323)) (c := c0) Tryd.underlying22 Tryd.underlying5 Tryd.underlying9 (Kd.C_below HR342.out HB.out); have hcv65z := hcv65; (try rw [List.length_drop, List.length_take, Nat.min_eq_left (Int.toNat_le.mpr dt)] at hcv65z); have hcv65y := hcv65; (try rw [List.length_take, Nat.min_eq_left (Int.toNat_le.mpr dt)] at hcv65y); have hcv65x := hcv65; (try rw [List.length_take, mM] at hcv65x); have hcv65m := hcv65; (try simp only [Int.reduceToNat, List.length_take] at hcv65m); have hcv65q := fun (q_ : Nat) => Kd.C_string (P := Tryd.prog) (A := (some ad323)) (c := c0) Tryd.underlying22 Tryd.underlying5 Tryd.underlying9 (Kd.C_drewN (Kd.C_below HR342.out HB.out) q_); have hcv65qy := hcv65q; (try simp only [List.length_take, Nat.min_eq_left (Int.toNat_le.mpr dt)] at hcv65qy); have hcv65qw := hcv65q; (try simp only [Int.reduceToNat] at hcv65qw); have hcv65qv := hcv65qy; (try simp only [Int.reduceToNat] at hcv65qv); have hcv65qu := hcv65q; (try simp only [Int.reduceToNat, List.length_take] at hcv65qu); obtain ⟨hcz66_0, hcz66_1, hcz66_2, hcz66_3, hcz66_4, hfz66_0, hfz66_1, hfz66_2, hfz66_3, hfz66_4⟩ := blk5 BK322.out))
           refine bodyPost_ret (results_cell_row rfl _ _ gb322 34 #[.int .i64 4, .int .i64 0, .int .i64 t340, .string (strOfNums (l0.take (t340 : Int).toNat)), .int .i64 0] (0, 0) _ rfl (by refine bP #[.int .i64 4, .int .i64 0, .int .i64 t340, .string (strOfNums (l0.take (t340 : Int).toNat)), .int .i64 0] 4 ?_; refine bP #[.int .i64 4, .int .i64 0, .int .i64 t340, .string (⟨#[]⟩ : ByteArray), .int .i64 0] 3 ?_; refine bP #[.int .i64 4, .int .i64 0, .int .i64 0, .string (⟨#[]⟩ : ByteArray), .int .i64 0] 2 ?_; refine bP #[.int .i64 4, .int .i64 0, .int .i64 0, .string (⟨#[]⟩ : ByteArray), .int .i64 0] 1 ?_; refine bP #[.int .i64 0, .int .i64 0, .int .i64 0, .string (⟨#[]⟩ : ByteArray), .int .i64 0] 0 ?_; (with_reducible repeat (first | refine blk_drewN ?_ _ | refine blk_drew ?_ | refine blk_alloc ?_ _)); exact BK322.out) Tryd.underlying34 rfl (by kernel_rfl)) rfl ?_
           exact ⟨eR, bAt HB.out⟩
          ·exact nB H c63
         ·exact nB H c62
        ·rw [if_neg c61] at H
         obtain ⟨c61b0, c61b1⟩ := neB c61
         simp only [Option.some.injEq, Prod.mk.injEq] at H
         obtain ⟨rfl, rfl, rfl, rfl, rfl⟩ := H
         go_wp2_with (first | ((with_reducible refine gate_callee (f := 53) rfl ?_); refine gL (some 88) Tryd.func53 #[.slice (some ad323) l0.length c0] rfl gA ?_; (with_reducible refine (tmesisref03_Take.calls kj4 _ _ l0 t339 t340 t341 _ ?side1 ?side2 A60.out).mono ?_); (case side1 => exact CAt (Kd.C_below HR0.out HB.out)); (case side2 => exact HC0.out); rintro e w' ⟨rfl, ⟨nd, rfl⟩⟩; refine ⟨_, rfl, ?_⟩; (try (rw [drewN_self wc]; generalize hq_ : World.drewN wc _ = wc; replace BK322 := kq BK322 hq_; replace HB := bq HB hq_; clear hq_)); obtain ⟨hcz67_0, hcz67_1, hcz67_2, hcz67_3, hcz67_4, hfz67_0, hfz67_1, hfz67_2, hfz67_3, hfz67_4⟩ := blk5 BK322.out))
         refine bodyPost_ret (results_cell_row rfl _ _ gb322 34 #[.int .i64 8, .int .i64 0, .int .i64 t340, .string (⟨#[]⟩ : ByteArray), .int .i64 t341] (0, 0) _ rfl (by refine bP #[.int .i64 8, .int .i64 0, .int .i64 t340, .string (⟨#[]⟩ : ByteArray), .int .i64 0] 4 ?_; refine bP #[.int .i64 8, .int .i64 0, .int .i64 t340, .string (⟨#[]⟩ : ByteArray), .int .i64 0] 3 ?_; refine bP #[.int .i64 8, .int .i64 0, .int .i64 0, .string (⟨#[]⟩ : ByteArray), .int .i64 0] 2 ?_; refine bP #[.int .i64 8, .int .i64 0, .int .i64 0, .string (⟨#[]⟩ : ByteArray), .int .i64 0] 1 ?_; refine bP #[.int .i64 0, .int .i64 0, .int .i64 0, .string (⟨#[]⟩ : ByteArray), .int .i64 0] 0 ?_; (with_reducible repeat (first | refine blk_drewN ?_ _ | refine blk_drew ?_ | refine blk_alloc ?_ _)); exact BK322.out) Tryd.underlying34 rfl (by kernel_rfl)) rfl ?_
         exact ⟨eR, bAt HB.out⟩
       ·rw [if_neg c59] at H
        obtain ⟨c59b0, c59b1⟩ := neB c59
        by_cases c68 : t324 = 7
        ·rw [if_pos c68] at H
         obtain ⟨c68b0, c68b1⟩ := eqB c68
         clear c68
         obtain ⟨⟨t343, t344, t345⟩, A69, H⟩ := bE H
         replace H : (if t345 = 0 then (some (5, 0, t344, strOfNums t343, 0)) else (some (8, 0, t344, (⟨#[]⟩ : ByteArray), t345))) = some (r1, r2, r3, r4, r5) := H
         by_cases c70 : t345 = 0
         ·rw [if_pos c70] at H
          obtain ⟨c70b0, c70b1⟩ := eqB c70
          clear c70
          simp only [Option.some.injEq, Prod.mk.injEq] at H
          obtain ⟨rfl, rfl, rfl, rfl, rfl⟩ := H
          go_wp2_with (first | ((with_reducible refine gate_callee (f := 25) rfl ?_); refine gL (some 107) Tryd.func25 #[.slice (some ad323) l0.length c0] rfl gA ?_; (with_reducible refine (tmesisref04_Take.calls kj4 _ _ l0 t343 t344 t345 _ ?side1 ?side2 A69.out).mono ?_); (case side1 => exact CAt (Kd.C_below HR0.out HB.out)); (case side2 => exact HC0.out); rintro e w71 ⟨v346, rfl, ho0, hb⟩; refine ⟨_, rfl, ?_⟩; have HO347 := Aside0.mk (Kd.R_lower ho0 (below_size (bAt HB.out))); replace BK322 := Aside0.mk (blk_below (g := gb322) (o := .cells #[.int .i64 0, .int .i64 0, .int .i64 0, .string (⟨#[]⟩ : ByteArray), .int .i64 0] 34 (0, 0)) (kAt BK322.out) hb); replace HB := Aside0.mk (below_step (bAt HB.out) hb); (try clear hb); (try clear hb2); (try clear hk); (try clear hi); (try clear ho0); (first | (have hcv72 := own_string (P := Tryd.prog) Tryd.underlying22 Tryd.underlying5 Tryd.underlying9 (Kd.own_of_R HO347.out); have hcv72q := fun (q_ : Nat) => own_string (P := Tryd.prog) Tryd.underlying22 Tryd.underlying5 Tryd.underlying9 (pw_own_drewN (Kd.own_of_R HO347.out) q_)) | (have hcv72 := V_string (P := Tryd.prog) Tryd.underlying22 Tryd.underlying5 Tryd.underlying9 HO347.out; have hcv72q := fun (q_ : Nat) => V_string (P := Tryd.prog) Tryd.underlying22 Tryd.underlying5 Tryd.underlying9 (Kd.V_drewN HO347.out q_))); obtain ⟨hcz73_0, hcz73_1, hcz73_2, hcz73_3, hcz73_4, hfz73_0, hfz73_1, hfz73_2, hfz73_3, hfz73_4⟩ := blk5 BK322.out))
          refine bodyPost_ret (results_cell_row rfl _ _ gb322 34 #[.int .i64 5, .int .i64 0, .int .i64 t344, .string (strOfNums t343), .int .i64 0] (0, 0) _ rfl (by refine bP #[.int .i64 5, .int .i64 0, .int .i64 t344, .string (strOfNums t343), .int .i64 0] 4 ?_; refine bP #[.int .i64 5, .int .i64 0, .int .i64 t344, .string (⟨#[]⟩ : ByteArray), .int .i64 0] 3 ?_; refine bP #[.int .i64 5, .int .i64 0, .int .i64 0, .string (⟨#[]⟩ : ByteArray), .int .i64 0] 2 ?_; refine bP #[.int .i64 5, .int .i64 0, .int .i64 0, .string (⟨#[]⟩ : ByteArray), .int .i64 0] 1 ?_; refine bP #[.int .i64 0, .int .i64 0, .int .i64 0, .string (⟨#[]⟩ : ByteArray), .int .i64 0] 0 ?_; (with_reducible repeat (first | refine blk_drewN ?_ _ | refine blk_drew ?_ | refine blk_alloc ?_ _)); exact BK322.out) Tryd.underlying34 rfl (by kernel_rfl)) rfl ?_
          exact ⟨eR, bAt HB.out⟩
         ·rw [if_neg c70] at H
          obtain ⟨c70b0, c70b1⟩ := neB c70
          simp only [Option.some.injEq, Prod.mk.injEq] at H
          obtain ⟨rfl, rfl, rfl, rfl, rfl⟩ := H
          go_wp2_with (first | ((with_reducible refine gate_callee (f := 25) rfl ?_); refine gL (some 107) Tryd.func25 #[.slice (some ad323) l0.length c0] rfl gA ?_; (with_reducible refine (tmesisref04_Take.calls kj4 _ _ l0 t343 t344 t345 _ ?side1 ?side2 A69.out).mono ?_); (case side1 => exact CAt (Kd.C_below HR0.out HB.out)); (case side2 => exact HC0.out); rintro e w74 ⟨v346, rfl, ho0, hb⟩; refine ⟨_, rfl, ?_⟩; have HO347 := Aside0.mk (Kd.R_lower ho0 (below_size (bAt HB.out))); replace BK322 := Aside0.mk (blk_below (g := gb322) (o := .cells #[.int .i64 0, .int .i64 0, .int .i64 0, .string (⟨#[]⟩ : ByteArray), .int .i64 0] 34 (0, 0)) (kAt BK322.out) hb); replace HB := Aside0.mk (below_step (bAt HB.out) hb); (try clear hb); (try clear hb2); (try clear hk); (try clear hi); (try clear ho0); obtain ⟨hcz75_0, hcz75_1, hcz75_2, hcz75_3, hcz75_4, hfz75_0, hfz75_1, hfz75_2, hfz75_3, hfz75_4⟩ := blk5 BK322.out))
          refine bodyPost_ret (results_cell_row rfl _ _ gb322 34 #[.int .i64 8, .int .i64 0, .int .i64 t344, .string (⟨#[]⟩ : ByteArray), .int .i64 t345] (0, 0) _ rfl (by refine bP #[.int .i64 8, .int .i64 0, .int .i64 t344, .string (⟨#[]⟩ : ByteArray), .int .i64 0] 4 ?_; refine bP #[.int .i64 8, .int .i64 0, .int .i64 t344, .string (⟨#[]⟩ : ByteArray), .int .i64 0] 3 ?_; refine bP #[.int .i64 8, .int .i64 0, .int .i64 0, .string (⟨#[]⟩ : ByteArray), .int .i64 0] 2 ?_; refine bP #[.int .i64 8, .int .i64 0, .int .i64 0, .string (⟨#[]⟩ : ByteArray), .int .i64 0] 1 ?_; refine bP #[.int .i64 0, .int .i64 0, .int .i64 0, .string (⟨#[]⟩ : ByteArray), .int .i64 0] 0 ?_; (with_reducible repeat (first | refine blk_drewN ?_ _ | refine blk_drew ?_ | refine blk_alloc ?_ _)); exact BK322.out) Tryd.underlying34 rfl (by kernel_rfl)) rfl ?_
          exact ⟨eR, bAt HB.out⟩
        ·rw [if_neg c68] at H
         obtain ⟨c68b0, c68b1⟩ := neB c68
         by_cases c76 : t324 = 6
         ·rw [if_pos c76] at H
          obtain ⟨c76b0, c76b1⟩ := eqB c76
          clear c76
          by_cases c77 : 1 ≤ (l0.length : Int)
          ·rw [if_pos c77] at H
           have c77b0 := eq_true c77
           have c77b1 := decide_eq_true c77
           clear c77
           simp only [Option.some.injEq, Prod.mk.injEq] at H
           obtain ⟨rfl, rfl, rfl, rfl, rfl⟩ := H
           obtain ⟨i078, hi078, _, hsz78, _⟩ := info_parts info5
           obtain ⟨hcut78, hA78, hC78⟩ := print_take_of (P := Tryd.prog) (Value.int .u8) 0 22 5 .i64 Tryd.underlying22 hi078 hsz78 (some ad323) c0 l0 1 (by omega) dt HC0.out
           have HR348 := Aside0.mk (Kd.C_of_reads (h1 := fun _ => rfl) (hA78 _ (Kd.reads_of_C HR0.out)))
           have HC348 := Aside0.mk hC78
           clear hA78 hC78 hi078 hsz78
           have hcv79 := Kd.C_string (P := Tryd.prog) (A := (some ad323)) (c := c0) Tryd.underlying22 Tryd.underlying5 Tryd.underlying9 (Kd.C_below HR348.out HB.out)
           have hcv79z := hcv79
           (try rw [List.length_drop, List.length_take, Nat.min_eq_left (Int.toNat_le.mpr dt)] at hcv79z)
           have hcv79y := hcv79
           (try rw [List.length_take, Nat.min_eq_left (Int.toNat_le.mpr dt)] at hcv79y)
           have hcv79x := hcv79
           (try rw [List.length_take, mM] at hcv79x)
           have hcv79m := hcv79
           (try simp only [Int.reduceToNat, List.length_take] at hcv79m)
           have hcv79q := fun (q_ : Nat) => Kd.C_string (P := Tryd.prog) (A := (some ad323)) (c := c0) Tryd.underlying22 Tryd.underlying5 Tryd.underlying9 (Kd.C_drewN (Kd.C_below HR348.out HB.out) q_)
           have hcv79qy := hcv79q
           (try simp only [List.length_take, Nat.min_eq_left (Int.toNat_le.mpr dt)] at hcv79qy)
           have hcv79qw := hcv79q
           (try simp only [Int.reduceToNat] at hcv79qw)
           have hcv79qv := hcv79qy
           (try simp only [Int.reduceToNat] at hcv79qv)
           have hcv79qu := hcv79q
           (try simp only [Int.reduceToNat, List.length_take] at hcv79qu)
           obtain ⟨hcz80_0, hcz80_1, hcz80_2, hcz80_3, hcz80_4, hfz80_0, hfz80_1, hfz80_2, hfz80_3, hfz80_4⟩ := blk5 BK322.out
           go_wp2
           refine bodyPost_ret (results_cell_row rfl _ _ gb322 34 #[.int .i64 6, .int .i64 0, .int .i64 1, .string (strOfNums (l0.take 1)), .int .i64 0] (0, 0) _ rfl (by refine bP #[.int .i64 6, .int .i64 0, .int .i64 1, .string (strOfNums (l0.take 1)), .int .i64 0] 4 ?_; refine bP #[.int .i64 6, .int .i64 0, .int .i64 1, .string (⟨#[]⟩ : ByteArray), .int .i64 0] 3 ?_; refine bP #[.int .i64 6, .int .i64 0, .int .i64 0, .string (⟨#[]⟩ : ByteArray), .int .i64 0] 2 ?_; refine bP #[.int .i64 6, .int .i64 0, .int .i64 0, .string (⟨#[]⟩ : ByteArray), .int .i64 0] 1 ?_; refine bP #[.int .i64 0, .int .i64 0, .int .i64 0, .string (⟨#[]⟩ : ByteArray), .int .i64 0] 0 ?_; (with_reducible repeat (first | refine blk_drewN ?_ _ | refine blk_drew ?_ | refine blk_alloc ?_ _)); exact BK322.out) Tryd.underlying34 rfl (by kernel_rfl)) rfl ?_
           exact ⟨eR, bAt HB.out⟩
          ·exact nB H c77
         ·rw [if_neg c76] at H
          obtain ⟨c76b0, c76b1⟩ := neB c76
          simp only [Option.some.injEq, Prod.mk.injEq] at H
          obtain ⟨rfl, rfl, rfl, rfl, rfl⟩ := H
          obtain ⟨hcz81_0, hcz81_1, hcz81_2, hcz81_3, hcz81_4, hfz81_0, hfz81_1, hfz81_2, hfz81_3, hfz81_4⟩ := blk5 BK322.out
          go_wp2
          refine bodyPost_ret (results_cell_row rfl _ _ gb322 34 #[.int .i64 8, .int .i64 0, .int .i64 1, .string (⟨#[]⟩ : ByteArray), .int .i64 11] (0, 0) _ rfl (by refine bP #[.int .i64 8, .int .i64 0, .int .i64 1, .string (⟨#[]⟩ : ByteArray), .int .i64 0] 4 ?_; refine bP #[.int .i64 8, .int .i64 0, .int .i64 1, .string (⟨#[]⟩ : ByteArray), .int .i64 0] 3 ?_; refine bP #[.int .i64 8, .int .i64 0, .int .i64 0, .string (⟨#[]⟩ : ByteArray), .int .i64 0] 2 ?_; refine bP #[.int .i64 8, .int .i64 0, .int .i64 0, .string (⟨#[]⟩ : ByteArray), .int .i64 0] 1 ?_; refine bP #[.int .i64 0, .int .i64 0, .int .i64 0, .string (⟨#[]⟩ : ByteArray), .int .i64 0] 0 ?_; (with_reducible repeat (first | refine blk_drewN ?_ _ | refine blk_drew ?_ | refine blk_alloc ?_ _)); exact BK322.out) Tryd.underlying34 rfl (by kernel_rfl)) rfl ?_
          exact ⟨eR, bAt HB.out⟩
 ·exact nB H c2
def tmesisref06_Next.j0 : Nat → List Int → Int → Bool → Option (Int × Int × Int × ByteArray × Int × Bool)
 | 0, _, _, _ => none
 | k + 1, x0, x1, x17 => if x17 = true then (some (0, 0, 0, (⟨#[]⟩ : ByteArray), 0, false)) else (if 0 ≤ x1 then (if x1 ≤ (x0.length : Int) then ((tmesisref05_Skip.f k (x0.drop (x1 : Int).toNat)).bind fun bt351 => (if bt351.2 = 0 then (if (wrap64 (x1 + bt351.1)) = (x0.length : Int) then (some (0, 0, 0, (⟨#[]⟩ : ByteArray), 0, false)) else (if 0 ≤ (wrap64 (x1 + bt351.1)) then (if (wrap64 (x1 + bt351.1)) ≤ (x0.length : Int) then ((tmesisref06_first.f k (x0.drop ((wrap64 (x1 + bt351.1)) : Int).toNat)).bind fun bt354 => (some (bt354.1, wrap64 (x1 + bt351.1), wrap64 ((wrap64 (x1 + bt351.1)) + bt354.2.2.1), bt354.2.2.2.1, bt354.2.2.2.2, true))) else (none)) else (none))) else (some (8, wrap64 (x1 + bt351.1), (x0.length : Int), (⟨#[]⟩ : ByteArray), bt351.2, true)))) else (none)) else (none))
def tmesisref06_Next.f (k : Nat) (l0 : List Int) (a1 : Int) : Option (Int × Int × Int × ByteArray × Int × Bool) := if a1 < 0 then (tmesisref06_Next.j0 k l0 a1 true) else (tmesisref06_Next.j0 k l0 a1 (decide (a1 > (l0.length : Int))))
theorem tmesisref06_Next.mono_l : ∀ k, (∀ y0 y1 y2, LeO (tmesisref06_Next.j0 k y0 y1 y2) (tmesisref06_Next.j0 (k + 1) y0 y1 y2))
 | 0 => fun _ _ _ r h => by simp [tmesisref06_Next.j0] at h
 | k + 1 => by
  have ih0 := tmesisref06_Next.mono_l k
  ·intro y0 y1 y2
   unfold tmesisref06_Next.j0
   repeat' with_reducible first | exact ih0 _ _ _ | exact tmesisref05_Skip.mono _ _ | exact tmesisref06_first.mono _ _ | exact LeO.refl _ | exact LeO.none _ | refine LeO.ite ?_ ?_ | refine LeO.bind ?_ (fun _ => ?_)
theorem tmesisref06_Next.mono : ∀ a0 a1 k, LeO (tmesisref06_Next.f k a0 a1) (tmesisref06_Next.f (k + 1) a0 a1) := by
 intro a0 a1 k
 have ih0 := tmesisref06_Next.mono_l k
 unfold tmesisref06_Next.f
 repeat' with_reducible first | exact ih0 _ _ _ | exact tmesisref05_Skip.mono _ _ | exact tmesisref06_first.mono _ _ | exact LeO.refl _ | exact LeO.none _ | refine LeO.ite ?_ ?_ | refine LeO.bind ?_ (fun _ => ?_)
set_option maxHeartbeats 8000000 in
set_option maxRecDepth 100000 in
theorem tmesisref06_Next.calls (k : Nat) (A0 : Option Addr) (c0 : Nat) (l0 : List Int) (a1 : Int) (r1 : Int) (r2 : Int) (r3 : Int) (r4 : ByteArray) (r5 : Int) (r6 : Bool) (w : World) (hr0 : Kd.C (Kd.int .u8) w A0 l0.length l0) (hc0 : l0.length ≤ c0) (h : tmesisref06_Next.f k l0 a1 = some (r1, r2, r3, r4, r5, r6)) :
  Calls Tryd.prog 23 #[.slice A0 l0.length c0, .int .i64 a1] w fun e w' => e = .returned (.tuple #[.agg #[.int .i64 r1, .int .i64 r2, .int .i64 r3, .string r4, .int .i64 r5], .bool r6]) ∧ Below w.heap.size w w' := by
 have hu34 := Tryd.underlying34
 have HR0 := Aside0.mk hr0
 have HC0 := Aside0.mk hc0
 clear hr0 hc0
 have HB := Aside0.mk (Below.refl w.heap.size w)
 have H : (if a1 < 0 then (tmesisref06_Next.j0 k l0 a1 true) else (tmesisref06_Next.j0 k l0 a1 (decide (a1 > (l0.length : Int))))) = some (r1, r2, r3, r4, r5, r6) := h
 clear h
 have HC3 := Aside0.mk H
 clear H
 go_enter Tryd.func23, Tryd.ntmps23
 go_upto_region 1 with (first | ((with_reducible refine gate_dst (N := 4) rfl ?_); (try (refine gate_guard (by rfl) ?_; dsimp only)); refine box_event ?hg (N := 4) ?hd (cs := #[.int .i64 0, .int .i64 0, .int .i64 0, .string (⟨#[]⟩ : ByteArray), .int .i64 0]) (t := 34) ?hr ?_; (case hd => rfl); (case hg => rfl); (case hr => first | (go_simp; done) | (go_simp; rfl)); intro gb349 hg w4 hbox hb; have BK349 := Aside0.mk (hbox); have GW349 := Aside0.mk (gE (g := gb349) hg HB.out); have GE349 := Aside0.mk (gE (g := gb349) hg HB.out); replace HB := Aside0.mk (below_step (bAt HB.out) hb); clear hb hbox hg))
 (try simp only [Act.put, List.setIfInBounds_toArray, List.set_cons_zero, List.set_cons_succ])
 go_cut [17] (fun v17 wc => ∃ (kq : Nat) (x17_2 : Bool), v17 = .bool x17_2 ∧ Aside0 (tmesisref06_Next.j0 kq l0 a1 x17_2 = some (r1, r2, r3, r4, r5, r6)) ∧ Aside0 (kq ≤ k) ∧ Aside0 (wc.heap[gb349]? = some (.cells #[.int .i64 0, .int .i64 0, .int .i64 0, .string (⟨#[]⟩ : ByteArray), .int .i64 0] 34 (0, 0))) ∧ Aside0 (Below w.heap.size w wc))
 case first =>
  have H := HC3.out
  clear HC3
  by_cases c5 : a1 < 0
  ·rw [if_pos c5] at H
   have c5b0 := decide_eq_true c5
   clear c5
   (first | rw [c5b0] | (simp only [i64_w, i32_w]; rw [c5b0]) | skip)
   have H' := Aside0.mk H
   clear H
   go_wp2
   go_meet
   case rel => exact ⟨_, (true), sR, H', ⟨by first | omega | exact Nat.le_refl _⟩, ⟨kAt BK349.out⟩, ⟨bAt HB.out⟩⟩
  ·rw [if_neg c5] at H
   have c5b0 := decide_eq_false c5
   clear c5
   (first | rw [c5b0] | (simp only [i64_w, i32_w]; rw [c5b0]) | skip)
   have H' := Aside0.mk H
   clear H
   go_wp2
   go_meet
   case rel => exact ⟨_, (decide (a1 > (l0.length : Int))), sR, H', ⟨by first | omega | exact Nat.le_refl _⟩, ⟨kAt BK349.out⟩, ⟨bAt HB.out⟩⟩
 case rest =>
  clear HC3
  try clear c2
  try clear p2
  try clear c5
  try clear c5b0
  obtain ⟨kq, x17_2, rfl, HA, HJ2, BK349, HB⟩ := hcut
  cases kq with
  | zero => exact absurd HA.out (by simp [tmesisref06_Next.j0])
  | succ kj2 =>
   have H := HA.out
   clear HA
   simp only [tmesisref06_Next.j0] at H
   by_cases c6 : x17_2 = true
   ·subst c6
    replace H := tP H
    simp only [Option.some.injEq, Prod.mk.injEq] at H
    obtain ⟨rfl, rfl, rfl, rfl, rfl, rfl⟩ := H
    obtain ⟨hcz7_0, hcz7_1, hcz7_2, hcz7_3, hcz7_4, hfz7_0, hfz7_1, hfz7_2, hfz7_3, hfz7_4⟩ := blk5 BK349.out
    go_wp2
    refine bodyPost_ret (results_ct rfl _ _ gb349 34 #[.int .i64 0, .int .i64 0, .int .i64 0, .string (⟨#[]⟩ : ByteArray), .int .i64 0] (0, 0) _ rfl (by refine bP #[.int .i64 0, .int .i64 0, .int .i64 0, .string (⟨#[]⟩ : ByteArray), .int .i64 0] 4 ?_; refine bP #[.int .i64 0, .int .i64 0, .int .i64 0, .string (⟨#[]⟩ : ByteArray), .int .i64 0] 3 ?_; refine bP #[.int .i64 0, .int .i64 0, .int .i64 0, .string (⟨#[]⟩ : ByteArray), .int .i64 0] 2 ?_; refine bP #[.int .i64 0, .int .i64 0, .int .i64 0, .string (⟨#[]⟩ : ByteArray), .int .i64 0] 1 ?_; refine bP #[.int .i64 0, .int .i64 0, .int .i64 0, .string (⟨#[]⟩ : ByteArray), .int .i64 0] 0 ?_; (with_reducible repeat (first | refine blk_drewN ?_ _ | refine blk_drew ?_ | refine blk_alloc ?_ _)); exact BK349.out) Tryd.underlying34 rfl (by kernel_rfl)) rfl ?_
    exact ⟨eR, bAt HB.out⟩
   ·replace c6 := Bool.eq_false_iff.mpr c6
    subst c6
    replace H := fP H
    by_cases c8 : 0 ≤ a1
    ·rw [if_pos c8] at H
     have c8b0 := eq_true c8
     have c8b1 := decide_eq_true c8
     clear c8
     by_cases c9 : a1 ≤ (l0.length : Int)
     ·rw [if_pos c9] at H
      have c9b0 := eq_true c9
      have c9b1 := decide_eq_true c9
      clear c9
      obtain ⟨⟨t351, t352⟩, A10, H⟩ := bE H
      replace H : (if t352 = 0 then (if (wrap64 (a1 + t351)) = (l0.length : Int) then (some (0, 0, 0, (⟨#[]⟩ : ByteArray), 0, false)) else (if 0 ≤ (wrap64 (a1 + t351)) then (if (wrap64 (a1 + t351)) ≤ (l0.length : Int) then ((tmesisref06_first.f kj2 (l0.drop ((wrap64 (a1 + t351)) : Int).toNat)).bind fun bt354 => (some (bt354.1, wrap64 (a1 + t351), wrap64 ((wrap64 (a1 + t351)) + bt354.2.2.1), bt354.2.2.2.1, bt354.2.2.2.2, true))) else (none)) else (none))) else (some (8, wrap64 (a1 + t351), (l0.length : Int), (⟨#[]⟩ : ByteArray), t352, true))) = some (r1, r2, r3, r4, r5, r6) := H
      by_cases c11 : t352 = 0
      ·rw [if_pos c11] at H
       obtain ⟨c11b0, c11b1⟩ := eqB c11
       clear c11
       by_cases c12 : (wrap64 (a1 + t351)) = (l0.length : Int)
       ·rw [if_pos c12] at H
        obtain ⟨c12b0, c12b1⟩ := eqB c12
        clear c12
        simp only [Option.some.injEq, Prod.mk.injEq] at H
        obtain ⟨rfl, rfl, rfl, rfl, rfl, rfl⟩ := H
        obtain ⟨i013, hi013, _, hsz13, _⟩ := info_parts info5
        obtain ⟨A13, hcut13, hA13, hC13⟩ := print_drop_of (P := Tryd.prog) (Value.int .u8) 0 22 5 .i64 Tryd.underlying22 hi013 hsz13 A0 c0 l0 a1 dt dt HC0.out
        have HR350 := Aside0.mk (Kd.C_of_reads (h1 := fun _ => rfl) (hA13 _ (Kd.reads_of_C HR0.out)))
        have HC350 := Aside0.mk hC13
        clear hA13 hC13 hi013 hsz13
        go_wp2_with (first | ((with_reducible refine gate_callee (f := 30) rfl ?_); refine gL (some 23) Tryd.func30 #[.slice A13 (l0.drop (a1 : Int).toNat).length (c0 - a1.toNat)] rfl (gD l0 (a1 : Int).toNat) ?_; (with_reducible refine (tmesisref05_Skip.calls kj2 _ _ (l0.drop (a1 : Int).toNat) t351 t352 _ ?side1 ?side2 A10.out).mono ?_); (case side1 => exact CAt (Kd.C_below HR350.out HB.out)); (case side2 => exact HC350.out); rintro e w' ⟨rfl, ⟨nd, rfl⟩⟩; refine ⟨_, rfl, ?_⟩; (try (rw [drewN_self wc]; generalize hq_ : World.drewN wc _ = wc; replace BK349 := kq BK349 hq_; replace HB := bq HB hq_; clear hq_)); obtain ⟨hcz14_0, hcz14_1, hcz14_2, hcz14_3, hcz14_4, hfz14_0, hfz14_1, hfz14_2, hfz14_3, hfz14_4⟩ := blk5 BK349.out))
        refine bodyPost_ret (results_ct rfl _ _ gb349 34 #[.int .i64 0, .int .i64 0, .int .i64 0, .string (⟨#[]⟩ : ByteArray), .int .i64 0] (0, 0) _ rfl (by refine bP #[.int .i64 0, .int .i64 0, .int .i64 0, .string (⟨#[]⟩ : ByteArray), .int .i64 0] 4 ?_; refine bP #[.int .i64 0, .int .i64 0, .int .i64 0, .string (⟨#[]⟩ : ByteArray), .int .i64 0] 3 ?_; refine bP #[.int .i64 0, .int .i64 0, .int .i64 0, .string (⟨#[]⟩ : ByteArray), .int .i64 0] 2 ?_; refine bP #[.int .i64 0, .int .i64 0, .int .i64 0, .string (⟨#[]⟩ : ByteArray), .int .i64 0] 1 ?_; refine bP #[.int .i64 0, .int .i64 0, .int .i64 0, .string (⟨#[]⟩ : ByteArray), .int .i64 0] 0 ?_; (with_reducible repeat (first | refine blk_drewN ?_ _ | refine blk_drew ?_ | refine blk_alloc ?_ _)); exact BK349.out) Tryd.underlying34 rfl (by kernel_rfl)) rfl ?_
        exact ⟨eR, bAt HB.out⟩
       ·rw [if_neg c12] at H
        obtain ⟨c12b0, c12b1⟩ := neB c12
        obtain ⟨ji15, hji15⟩ : ∃ j_ : Int, (wrap64 (a1 + t351)) = j_ := ⟨_, rfl⟩
        replace H : (if 0 ≤ (ji15) then (if (ji15) ≤ (l0.length : Int) then ((tmesisref06_first.f kj2 (l0.drop ((ji15) : Int).toNat)).bind fun bt354 => (some (bt354.1, ji15, wrap64 ((ji15) + bt354.2.2.1), bt354.2.2.2.1, bt354.2.2.2.2, true))) else (none)) else (none)) = some (r1, r2, r3, r4, r5, r6) := by first | (rw [hji15] at H; exact H) | (simp only [hji15] at H ⊢; exact H)
        (try rw [hji15] at c12b0)
        (try rw [hji15] at c12b1)
        (try rw [hji15] at A10)
        have hji15w : (IntKind.i64.wrap (a1 + t351)) = ji15 := (i64_w _).trans hji15
        by_cases c16 : 0 ≤ (ji15)
        ·rw [if_pos c16] at H
         have c16b0 := eq_true c16
         have c16b1 := decide_eq_true c16
         clear c16
         by_cases c17 : (ji15) ≤ (l0.length : Int)
         ·rw [if_pos c17] at H
          have c17b0 := eq_true c17
          have c17b1 := decide_eq_true c17
          clear c17
          obtain ⟨⟨t354, t355, t356, t357, t358⟩, A18, H⟩ := bE H
          replace H : (some (t354, ji15, wrap64 ((ji15) + t356), t357, t358, true)) = some (r1, r2, r3, r4, r5, r6) := H
          simp only [Option.some.injEq, Prod.mk.injEq] at H
          obtain ⟨rfl, rfl, rfl, rfl, rfl, rfl⟩ := H
          obtain ⟨i019, hi019, _, hsz19, _⟩ := info_parts info5
          obtain ⟨A19, hcut19, hA19, hC19⟩ := print_drop_of (P := Tryd.prog) (Value.int .u8) 0 22 5 .i64 Tryd.underlying22 hi019 hsz19 A0 c0 l0 a1 dt dt HC0.out
          have HR350 := Aside0.mk (Kd.C_of_reads (h1 := fun _ => rfl) (hA19 _ (Kd.reads_of_C HR0.out)))
          have HC350 := Aside0.mk hC19
          clear hA19 hC19 hi019 hsz19
          go_wp2_with (first | ((with_reducible refine gate_callee (f := 30) rfl ?_); refine gL (some 23) Tryd.func30 #[.slice A19 (l0.drop (a1 : Int).toNat).length (c0 - a1.toNat)] rfl (gD l0 (a1 : Int).toNat) ?_; (with_reducible refine (tmesisref05_Skip.calls kj2 _ _ (l0.drop (a1 : Int).toNat) t351 t352 _ ?side1 ?side2 A10.out).mono ?_); (case side1 => exact CAt (Kd.C_below HR350.out HB.out)); (case side2 => exact HC350.out); rintro e w' ⟨rfl, ⟨nd, rfl⟩⟩; refine ⟨_, rfl, ?_⟩; (try (rw [drewN_self wc]; generalize hq_ : World.drewN wc _ = wc; replace BK349 := kq BK349 hq_; replace HB := bq HB hq_; clear hq_)); obtain ⟨i020, hi020, _, hsz20, _⟩ := info_parts info5; obtain ⟨A20, hcut20, hA20, hC20⟩ := print_drop_of (P := Tryd.prog) (Value.int .u8) 0 22 5 .i64 Tryd.underlying22 hi020 hsz20 A0 c0 l0 (ji15) dt dt HC0.out; have HR353 := Aside0.mk (Kd.C_of_reads (h1 := fun _ => rfl) (hA20 _ (Kd.reads_of_C HR0.out))); have HC353 := Aside0.mk hC20; clear hA20 hC20 hi020 hsz20) | ((with_reducible refine gate_callee (f := 31) rfl ?_); refine gL (some 44) Tryd.func31 #[.slice A20 (l0.drop ((ji15) : Int).toNat).length (c0 - (ji15).toNat)] rfl (by (try simp only [List.map_toArray, List.map_cons, List.map_nil]); first | done | (rw [show (l0.drop ((ji15) : Int).toNat).length = (l0.length - (ji15).toNat) from List.length_drop] <;> rfl) | (simp only [hji15]; rfl) | rfl | (simp only [List.length_drop, List.length_take]; rfl)) ?_; (with_reducible refine (tmesisref06_first.calls kj2 _ _ (l0.drop ((ji15) : Int).toNat) t354 t355 t356 t357 t358 _ ?side1 ?side2 A18.out).mono ?_); (case side1 => exact CAt (Kd.C_below HR353.out HB.out)); (case side2 => exact HC353.out); rintro e w21 ⟨rfl, hb⟩; refine ⟨_, rfl, ?_⟩; replace BK349 := Aside0.mk (blk_below (g := gb349) (o := .cells #[.int .i64 0, .int .i64 0, .int .i64 0, .string (⟨#[]⟩ : ByteArray), .int .i64 0] 34 (0, 0)) (kAt BK349.out) hb); replace HB := Aside0.mk (below_step (bAt HB.out) hb); (try clear hb); (try clear hb2); (try clear hk); (try clear hi); have hcy0 : ∀ o_ : Obj, (w21.alloc o_).cell? ⟨gb349, 0, none⟩ = some (.int .i64 0) := fun o_ => (blk_cell (blk_alloc BK349.out o_) 0).trans rfl; have hfy0 := fun o_ : Obj => blk_frozen (blk_alloc BK349.out o_) 0; have hcy1 : ∀ o_ : Obj, (w21.alloc o_).cell? ⟨gb349, 1, none⟩ = some (.int .i64 0) := fun o_ => (blk_cell (blk_alloc BK349.out o_) 1).trans rfl; have hfy1 := fun o_ : Obj => blk_frozen (blk_alloc BK349.out o_) 1; have hcy2 : ∀ o_ : Obj, (w21.alloc o_).cell? ⟨gb349, 2, none⟩ = some (.int .i64 0) := fun o_ => (blk_cell (blk_alloc BK349.out o_) 2).trans rfl; have hfy2 := fun o_ : Obj => blk_frozen (blk_alloc BK349.out o_) 2; have hcy3 : ∀ o_ : Obj, (w21.alloc o_).cell? ⟨gb349, 3, none⟩ = some (.string (⟨#[]⟩ : ByteArray)) := fun o_ => (blk_cell (blk_alloc BK349.out o_) 3).trans rfl; have hfy3 := fun o_ : Obj => blk_frozen (blk_alloc BK349.out o_) 3; have hcy4 : ∀ o_ : Obj, (w21.alloc o_).cell? ⟨gb349, 4, none⟩ = some (.int .i64 0) := fun o_ => (blk_cell (blk_alloc BK349.out o_) 4).trans rfl; have hfy4 := fun o_ : Obj => blk_frozen (blk_alloc BK349.out o_) 4))
          refine bodyPost_ret (results_ct rfl _ _ gb349 34 _ (0, 0) _ rfl (by first | (refine bP #[.int .i64 t354, .int .i64 ji15, .int .i64 (wrap64 ((ji15) + t356)), .string t357, .int .i64 0] 4 ?_; refine bP #[.int .i64 t354, .int .i64 ji15, .int .i64 (wrap64 ((ji15) + t356)), .string (⟨#[]⟩ : ByteArray), .int .i64 0] 3 ?_; refine bP #[.int .i64 t354, .int .i64 ji15, .int .i64 0, .string (⟨#[]⟩ : ByteArray), .int .i64 0] 2 ?_; refine bP #[.int .i64 t354, .int .i64 0, .int .i64 0, .string (⟨#[]⟩ : ByteArray), .int .i64 0] 1 ?_; refine bP #[.int .i64 0, .int .i64 0, .int .i64 0, .string (⟨#[]⟩ : ByteArray), .int .i64 0] 0 ?_; (with_reducible repeat (first | refine blk_drewN ?_ _ | refine blk_drew ?_ | refine blk_alloc ?_ _)); exact BK349.out)) Tryd.underlying34 rfl (by kernel_rfl)) rfl ?_
          exact ⟨by first | rfl | (simp [errW_none, errW_some] <;> rfl) | (simp only [← hji15]; first | rfl | (simp [errW_none, errW_some] <;> rfl)) | (simp [*, errW_none, errW_some] <;> rfl), bAt HB.out⟩
         ·exact nB H c17
        ·exact nB H c16
      ·rw [if_neg c11] at H
       obtain ⟨c11b0, c11b1⟩ := neB c11
       simp only [Option.some.injEq, Prod.mk.injEq] at H
       obtain ⟨rfl, rfl, rfl, rfl, rfl, rfl⟩ := H
       obtain ⟨i026, hi026, _, hsz26, _⟩ := info_parts info5
       obtain ⟨A26, hcut26, hA26, hC26⟩ := print_drop_of (P := Tryd.prog) (Value.int .u8) 0 22 5 .i64 Tryd.underlying22 hi026 hsz26 A0 c0 l0 a1 dt dt HC0.out
       have HR350 := Aside0.mk (Kd.C_of_reads (h1 := fun _ => rfl) (hA26 _ (Kd.reads_of_C HR0.out)))
       have HC350 := Aside0.mk hC26
       clear hA26 hC26 hi026 hsz26
       go_wp2_with (first | ((with_reducible refine gate_callee (f := 30) rfl ?_); refine gL (some 23) Tryd.func30 #[.slice A26 (l0.drop (a1 : Int).toNat).length (c0 - a1.toNat)] rfl (gD l0 (a1 : Int).toNat) ?_; (with_reducible refine (tmesisref05_Skip.calls kj2 _ _ (l0.drop (a1 : Int).toNat) t351 t352 _ ?side1 ?side2 A10.out).mono ?_); (case side1 => exact CAt (Kd.C_below HR350.out HB.out)); (case side2 => exact HC350.out); rintro e w' ⟨rfl, ⟨nd, rfl⟩⟩; refine ⟨_, rfl, ?_⟩; (try (rw [drewN_self wc]; generalize hq_ : World.drewN wc _ = wc; replace BK349 := kq BK349 hq_; replace HB := bq HB hq_; clear hq_)); obtain ⟨hcz27_0, hcz27_1, hcz27_2, hcz27_3, hcz27_4, hfz27_0, hfz27_1, hfz27_2, hfz27_3, hfz27_4⟩ := blk5 BK349.out))
       refine bodyPost_ret (results_ct rfl _ _ gb349 34 #[.int .i64 8, .int .i64 (wrap64 (a1 + t351)), .int .i64 (l0.length : Int), .string (⟨#[]⟩ : ByteArray), .int .i64 t352] (0, 0) _ rfl (by refine bP #[.int .i64 8, .int .i64 (wrap64 (a1 + t351)), .int .i64 (l0.length : Int), .string (⟨#[]⟩ : ByteArray), .int .i64 0] 4 ?_; refine bP #[.int .i64 8, .int .i64 (wrap64 (a1 + t351)), .int .i64 (l0.length : Int), .string (⟨#[]⟩ : ByteArray), .int .i64 0] 3 ?_; refine bP #[.int .i64 8, .int .i64 (wrap64 (a1 + t351)), .int .i64 0, .string (⟨#[]⟩ : ByteArray), .int .i64 0] 2 ?_; refine bP #[.int .i64 8, .int .i64 0, .int .i64 0, .string (⟨#[]⟩ : ByteArray), .int .i64 0] 1 ?_; refine bP #[.int .i64 0, .int .i64 0, .int .i64 0, .string (⟨#[]⟩ : ByteArray), .int .i64 0] 0 ?_; (with_reducible repeat (first | refine blk_drewN ?_ _ | refine blk_drew ?_ | refine blk_alloc ?_ _)); exact BK349.out) Tryd.underlying34 rfl (by kernel_rfl)) rfl ?_
       exact ⟨eR, bAt HB.out⟩
     ·exact nB H c9
    ·exact nB H c8
def tmesisref07_All.l0 : Nat → List Int → List (S34) → Int → Option ((List (S34)))
 | 0, _, _, _ => none
 | k + 1, x0, x3, x4 => (tmesisref06_Next.f k x0 x4).bind fun bt363 => (if bt363.2.2.2.2.2 = true then (if x3.length < 2932031007402 then (tmesisref07_All.l0 k x0 (x3 ++ [(⟨bt363.1, bt363.2.1, bt363.2.2.1, bt363.2.2.2.1, bt363.2.2.2.2.1⟩ : S34)]) bt363.2.2.1) else (none)) else (some x3))
def tmesisref07_All.f (k : Nat) (l0 : List Int) : Option ((List (S34))) := tmesisref07_All.l0 k l0 (([] : List (S34))) 0
theorem tmesisref07_All.mono_l : ∀ k, (∀ y0 y1 y2, LeO (tmesisref07_All.l0 k y0 y1 y2) (tmesisref07_All.l0 (k + 1) y0 y1 y2))
 | 0 => fun _ _ _ r h => by simp [tmesisref07_All.l0] at h
 | k + 1 => by
  have ih0 := tmesisref07_All.mono_l k
  ·intro y0 y1 y2
   unfold tmesisref07_All.l0
   repeat' with_reducible first | exact ih0 _ _ _ | exact tmesisref06_Next.mono _ _ _ | exact LeO.refl _ | exact LeO.none _ | refine LeO.ite ?_ ?_ | refine LeO.bind ?_ (fun _ => ?_)
theorem tmesisref07_All.mono : ∀ a0 k, LeO (tmesisref07_All.f k a0) (tmesisref07_All.f (k + 1) a0) := by
 intro a0 k
 have ih0 := tmesisref07_All.mono_l k
 unfold tmesisref07_All.f
 repeat' with_reducible first | exact ih0 _ _ _ | exact tmesisref06_Next.mono _ _ _ | exact LeO.refl _ | exact LeO.none _ | refine LeO.ite ?_ ?_ | refine LeO.bind ?_ (fun _ => ?_)
set_option maxHeartbeats 8000000 in
set_option maxRecDepth 100000 in
theorem tmesisref07_All.calls (k : Nat) (A0 : Option Addr) (c0 : Nat) (l0 : List Int) (r : List (S34)) (w : World) (hr0 : Kd.C (Kd.int .u8) w A0 l0.length l0) (hc0 : l0.length ≤ c0) (h : tmesisref07_All.f k l0 = some r) :
  Calls Tryd.prog 16 #[.slice A0 l0.length c0] w fun e w' => ∃ v0_ : Value, e = .returned (v0_) ∧ Kd.R k34 34 w' w.heap.size (fun _ => True) v0_ r ∧ Below w.heap.size w w' := by
 have hu34 := Tryd.underlying34
 have HR0 := Aside0.mk hr0
 have HC0 := Aside0.mk hc0
 clear hr0 hc0
 have HB := Aside0.mk (Below.refl w.heap.size w)
 have H : (tmesisref07_All.l0 k l0 (([] : List (S34))) 0) = some r := h
 clear h
 obtain ⟨y360, hy360⟩ : ∃ y_ : List (S34), y_ = (([] : List (S34))) := ⟨_, rfl⟩
 replace H : (tmesisref07_All.l0 k l0 y360 0) = some r := by first | (rw [hy360]; with_reducible exact H) | (have H2_ := (Option.bind_some _ _).symm.trans H; rw [hy360]; with_reducible exact H2_) | (have H2_ := (Option.bind_some _ _).symm.trans H; with_reducible exact H2_) | with_reducible exact H | (rw [hy360]; exact H) | exact H
 have Ny360 := Aside0.mk hy360
 clear hy360
 have H' := Aside0.mk H
 clear H
 go_enter Tryd.func16, Tryd.ntmps16
 go_wp2_with (first | ((with_reducible refine gate_dst (N := 7) rfl ?_); refine Kd.R_lit k34 _ 34 ?hg (N := 7) ?hd (xs := ([] : List (S34))) (inner := []) (ok := fun _ => True) (okp := fun _ => True) ?hr ?hp (fun _ hk => hk) trivial (Below.refl _ _) (Nat.le_refl _) (by simp) ?_; (case hd => rfl); (case hg => rfl); (case hr => first | (go_simp; done) | (go_simp; rfl)); (case hp => exact (Reps.none _ _)); intro v361 w2 ho3 hb hg_ hnew_; clear hg_ hnew_; (first | rw [← Ny360.out] at ho3 | (simp only [Int.reduceToNat] at ho3; rw [← Ny360.out] at ho3)); have HO362 := Aside0.mk (Kd.R_lower ho3 (below_size (bAt HB.out))); replace HB := Aside0.mk (below_step (bAt HB.out) hb); clear hb ho3))
 go_loopg [3, 4] k (fun kq v3 v4 w' => ∃ (x3_1 : List (S34)) (x4_1 : Int), v4 = .int .i64 x4_1 ∧ Aside0 (tmesisref07_All.l0 kq l0 x3_1 x4_1 = some r) ∧ Aside0 (kq ≤ k) ∧ Aside0 (Kd.R k34 34 w' w.heap.size (fun _ => True) v3 x3_1) ∧ Aside0 (Below w.heap.size w w'))
 case atStart => exact ⟨(y360), (0), sR, H', ⟨Nat.le_refl _⟩, ⟨RAt HO362.out⟩, ⟨bAt HB.out⟩⟩
 case round =>
  clear H'
  try clear c1
  try clear p2
  obtain ⟨x3_1, x4_1, rfl, HA, HK1, HO_3, HB⟩ := hrel
  cases gk with
  | zero => exact absurd HA.out (by simp [tmesisref07_All.l0])
  | succ k1 =>
   have H := HA.out
   clear HA
   simp only [tmesisref07_All.l0] at H
   obtain ⟨⟨t363, t364, t365, t366, t367, t368⟩, A4, H⟩ := bE H
   replace H : (if t368 = true then (if x3_1.length < 2932031007402 then (tmesisref07_All.l0 k1 l0 (x3_1 ++ [(⟨t363, t364, t365, t366, t367⟩ : S34)]) t365) else (none)) else (some x3_1)) = some r := H
   by_cases c5 : t368 = true
   ·subst c5
    replace H := tP H
    by_cases c6 : x3_1.length < 2932031007402
    ·rw [if_pos c6] at H
     have LMc6 := Aside0.mk c6
     clear c6
     obtain ⟨y370, hy370⟩ : ∃ y_ : List (S34), y_ = (x3_1 ++ [(⟨t363, t364, t365, t366, t367⟩ : S34)]) := ⟨_, rfl⟩
     replace H : (tmesisref07_All.l0 k1 l0 y370 t365) = some r := by first | (rw [hy370]; with_reducible exact H) | (have H2_ := (Option.bind_some _ _).symm.trans H; rw [hy370]; with_reducible exact H2_) | (have H2_ := (Option.bind_some _ _).symm.trans H; with_reducible exact H2_) | with_reducible exact H | (rw [hy370]; exact H) | exact H
     have Ny370 := Aside0.mk hy370
     clear hy370
     have H' := Aside0.mk H
     clear H
     go_wp2_with (first | ((with_reducible refine gate_callee (f := 23) rfl ?_); refine gL (some 11) Tryd.func23 #[.slice A0 l0.length c0, .int .i64 x4_1] rfl gA ?_; (with_reducible refine (tmesisref06_Next.calls k1 _ _ l0 x4_1 t363 t364 t365 t366 t367 true _ ?side1 ?side2 A4.out).mono ?_); (case side1 => exact CAt (Kd.C_below HR0.out HB.out)); (case side2 => exact HC0.out); rintro e w7 ⟨rfl, hb⟩; refine ⟨_, rfl, ?_⟩; replace HO_3 := Aside0.mk (Kd.R_below (RAt HO_3.out) hb); replace HB := Aside0.mk (below_step (bAt HB.out) hb); (try clear hb); (try clear hb2); (try clear hk); (try clear hi)) | ((with_reducible refine gate_dst (N := 5) rfl ?_); refine box_event ?hg (N := 5) ?hd (cs := #[.int .i64 0, .int .i64 0, .int .i64 0, .string (⟨#[]⟩ : ByteArray), .int .i64 0]) (t := 34) ?hr ?_; (case hd => rfl); (case hg => rfl); (case hr => first | (go_simp; done) | (go_simp; rfl)); intro gb369 hg w8 hbox hb; replace HO_3 := Aside0.mk (Kd.R_below (Kd.R_elderB (RAt HO_3.out) gb369 (Nat.le_of_eq hg.symm)) hb); have BK369 := Aside0.mk (hbox); have GW369 := Aside0.mk (gE (g := gb369) hg HB.out); have GE369 := Aside0.mk (gE (g := gb369) hg HB.out); replace HB := Aside0.mk (below_step (bAt HB.out) hb); clear hb hbox hg; obtain ⟨hcz9_0, hcz9_1, hcz9_2, hcz9_3, hcz9_4, hfz9_0, hfz9_1, hfz9_2, hfz9_3, hfz9_4⟩ := blk5 BK369.out) | ((with_reducible refine gate_builtin (b := .append) (xs := #[.tmp 17, .tmp 19]) rfl ?_); at_builtin; refine Kd.R_append k34 (w0 := w) w.heap.size rfl (.tmp 17) (.tmp 19) 23 34 (.agg #[(.int .i64 0), (.int .i64 0), (.int .i64 0), (.string ⟨#[]⟩), (.int .i64 0)]) 48 rfl Tryd.underlying23 info34 rfl (by decide) (by omega) u3 x3_1 (⟨t363, t364, t365, t366, t367⟩ : S34) [.int .i64 t363, .int .i64 t364, .int .i64 t365, .string t366, .int .i64 t367] (fun k_ => k_ ≠ gb369) (fun _ => False) rfl (by first | (go_simp; done) | (go_simp; rfl)) ?aP (fun _ hk => hk.elim) ?aF ?aO ?aB ?aS ?aL ?_; (case aP => exact k34_mkM _ _ _ (⟨t363, t364, t365, t366, t367⟩ : S34)); (case aB => exact (bAt HB.out)); (case aF => exact (fun k_ hk => Kd.freshB (g := gb369) (o := .cells #[.int .i64 t363, .int .i64 t364, .int .i64 t365, .string t366, .int .i64 t367] 34 (0, 0)) (by refine bP #[.int .i64 t363, .int .i64 t364, .int .i64 t365, .string t366, .int .i64 0] 4 ?_; refine bP #[.int .i64 t363, .int .i64 t364, .int .i64 t365, .string (⟨#[]⟩ : ByteArray), .int .i64 0] 3 ?_; refine bP #[.int .i64 t363, .int .i64 t364, .int .i64 0, .string (⟨#[]⟩ : ByteArray), .int .i64 0] 2 ?_; refine bP #[.int .i64 t363, .int .i64 0, .int .i64 0, .string (⟨#[]⟩ : ByteArray), .int .i64 0] 1 ?_; refine bP #[.int .i64 0, .int .i64 0, .int .i64 0, .string (⟨#[]⟩ : ByteArray), .int .i64 0] 0 ?_; (with_reducible repeat (first | refine blk_drewN ?_ _ | refine blk_drew ?_ | refine blk_alloc ?_ _)); exact BK369.out) k_ hk)); (case aO => exact (RAt (Kd.R_mono (Kd.R_far (p := ⟨gb369, 4, none⟩) (Kd.R_far (p := ⟨gb369, 3, none⟩) (Kd.R_far (p := ⟨gb369, 2, none⟩) (Kd.R_far (p := ⟨gb369, 1, none⟩) (Kd.R_far (p := ⟨gb369, 0, none⟩) (Kd.R_mono HO_3.out (fun k_ hk => (⟨hk, hk.2⟩ : _ ∧ k_ ≠ gb369))) (fun _ hk => hk.2) (.int .i64 t363)) (fun _ hk => hk.2) (.int .i64 t364)) (fun _ hk => hk.2) (.int .i64 t365)) (fun _ hk => hk.2) (.string t366)) (fun _ hk => hk.2) (.int .i64 t367)) (fun _ hk => hk.1.2)))); (case aS => exact (below_size (bAt HB.out))); (case aL => have := LMc6.out; omega); intro v371 w10 ho hb hg hat; rw [← Ny370.out] at ho; replace BK369 := Aside0.mk (blk_grown (g := gb369) (o := .cells #[.int .i64 t363, .int .i64 t364, .int .i64 t365, .string t366, .int .i64 t367] 34 (0, 0)) (by refine bP #[.int .i64 t363, .int .i64 t364, .int .i64 t365, .string t366, .int .i64 0] 4 ?_; refine bP #[.int .i64 t363, .int .i64 t364, .int .i64 t365, .string (⟨#[]⟩ : ByteArray), .int .i64 0] 3 ?_; refine bP #[.int .i64 t363, .int .i64 t364, .int .i64 0, .string (⟨#[]⟩ : ByteArray), .int .i64 0] 2 ?_; refine bP #[.int .i64 t363, .int .i64 0, .int .i64 0, .string (⟨#[]⟩ : ByteArray), .int .i64 0] 1 ?_; refine bP #[.int .i64 0, .int .i64 0, .int .i64 0, .string (⟨#[]⟩ : ByteArray), .int .i64 0] 0 ?_; (with_reducible repeat (first | refine blk_drewN ?_ _ | refine blk_drew ?_ | refine blk_alloc ?_ _)); exact BK369.out) hg (Kd.R_away HO_3.out (fun _ hk => hk.2))); replace HB := Aside0.mk (hb); have HO372 := Aside0.mk (ho); clear HO_3; clear ho hb hg hat; obtain ⟨hcz11_0, hcz11_1, hcz11_2, hcz11_3, hcz11_4, hfz11_0, hfz11_1, hfz11_2, hfz11_3, hfz11_4⟩ := blk5 BK369.out))
     go_roundg k1
     case measure => have := HK1.out; omega
     case rel => exact ⟨(y370), (t365), sR, H', ⟨by have := HK1.out; omega⟩, ⟨RAt (Kd.R_mono HO372.out (fun _ hk => trivial))⟩, ⟨bAt HB.out⟩⟩
    ·exact nB H c6
   ·replace c5 := Bool.eq_false_iff.mpr c5
    subst c5
    replace H := fP H
    obtain rfl := Option.some.inj H
    go_wp2_with (first | ((with_reducible refine gate_callee (f := 23) rfl ?_); refine gL (some 11) Tryd.func23 #[.slice A0 l0.length c0, .int .i64 x4_1] rfl gA ?_; (with_reducible refine (tmesisref06_Next.calls k1 _ _ l0 x4_1 t363 t364 t365 t366 t367 false _ ?side1 ?side2 A4.out).mono ?_); (case side1 => exact CAt (Kd.C_below HR0.out HB.out)); (case side2 => exact HC0.out); rintro e w12 ⟨rfl, hb⟩; refine ⟨_, rfl, ?_⟩; replace HO_3 := Aside0.mk (Kd.R_below (RAt HO_3.out) hb); replace HB := Aside0.mk (below_step (bAt HB.out) hb); (try clear hb); (try clear hb2); (try clear hk); (try clear hi)) | ((with_reducible refine gate_dst (N := 5) rfl ?_); refine box_event ?hg (N := 5) ?hd (cs := #[.int .i64 0, .int .i64 0, .int .i64 0, .string (⟨#[]⟩ : ByteArray), .int .i64 0]) (t := 34) ?hr ?_; (case hd => rfl); (case hg => rfl); (case hr => first | (go_simp; done) | (go_simp; rfl)); intro gb369 hg w13 hbox hb; replace HO_3 := Aside0.mk (Kd.R_below (Kd.R_elderB (RAt HO_3.out) gb369 (Nat.le_of_eq hg.symm)) hb); have BK369 := Aside0.mk (hbox); have GW369 := Aside0.mk (gE (g := gb369) hg HB.out); have GE369 := Aside0.mk (gE (g := gb369) hg HB.out); replace HB := Aside0.mk (below_step (bAt HB.out) hb); clear hb hbox hg; obtain ⟨hcz14_0, hcz14_1, hcz14_2, hcz14_3, hcz14_4, hfz14_0, hfz14_1, hfz14_2, hfz14_3, hfz14_4⟩ := blk5 BK369.out))
    go_ret
    exact ⟨_, eR, RAt (Kd.R_mono (Kd.R_far (p := ⟨gb369, 4, none⟩) (Kd.R_far (p := ⟨gb369, 3, none⟩) (Kd.R_far (p := ⟨gb369, 2, none⟩) (Kd.R_far (p := ⟨gb369, 1, none⟩) (Kd.R_far (p := ⟨gb369, 0, none⟩) (Kd.R_mono HO_3.out (fun k_ hk => (⟨hk, hk.2⟩ : _ ∧ k_ ≠ gb369))) (fun _ hk => hk.2) (.int .i64 t363)) (fun _ hk => hk.2) (.int .i64 t364)) (fun _ hk => hk.2) (.int .i64 t365)) (fun _ hk => hk.2) (.string t366)) (fun _ hk => hk.2) (.int .i64 t367)) (fun _ hk => trivial)), bAt HB.out⟩
end Go.Proofs.YtdejidhgeefmeaaDoor.P
