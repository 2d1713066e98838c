/- Part of the proof: what the theorem needs of this text. -/
import Derived.Test.YtflekegjmjjdmaaDoorKHG
import Derived.Test.YtflekegjmjjdmaaDoorKPx0
import Derived.Test.YtflekegjmjjdmaaDoorKPx2
namespace Go.Proofs.YtflekegjmjjdmaaDoor.P
open Go.RowKit Go.Proofs.YtflekegjmjjdmaaDoorW.PrintWords Go.Proofs.YtflekegjmjjdmaaDoorW.PrintLast Go.Proofs.YtflekegjmjjdmaaDoorW.PrintMore
attribute [local go_sem] max2_int min2_int max_two min_two max_three min_three max_four min_four   -- for this text's walks alone
set_option linter.unusedVariables false
set_option linter.unusedSimpArgs false
def digits_Take.l0 : Nat → Int → Int → Int → List Int → Int → Int → Option (Int × Int × Int)
 | 0, _, _, _, _, _, _ => none
 | k + 1, x2, x3, x4, x13, x14, x15 => if x15 < x14 then (if 0 ≤ x15 then (if x15 < (x13.length : Int) then (if (wrap64 ((wrap64 (x2 * 10)) + (((rd x13 x15) - 48) % 256))) > 2147483647 then (some (0, x3, 4)) else (digits_Take.l0 k (wrap64 ((wrap64 (x2 * 10)) + (((rd x13 x15) - 48) % 256))) x3 x4 x13 x14 (wrap64 (x15 + 1)))) else (none)) else (none)) else (some (x2, x3, x4))
def digits_Take.f (k : Nat) (l0 : List Int) : Option (Int × Int × Int) := (class_Run.f k l0 4).bind fun t122 => (if t122 = 0 then (some (0, t122, 2)) else (if 0 ≤ t122 then (if t122 ≤ (l0.length : Int) then (digits_Take.l0 k 0 t122 0 (l0.take (t122 : Int).toNat) ((l0.take (t122 : Int).toNat).length : Int) 0) else (none)) else (none)))
theorem digits_Take.mono_l : ∀ k, (∀ y0 y1 y2 y3 y4 y5, LeO (digits_Take.l0 k y0 y1 y2 y3 y4 y5) (digits_Take.l0 (k + 1) y0 y1 y2 y3 y4 y5))
 | 0 => fun _ _ _ _ _ _ r h => by simp [digits_Take.l0] at h
 | k + 1 => by
  have ih0 := digits_Take.mono_l k
  ·intro y0 y1 y2 y3 y4 y5
   unfold digits_Take.l0
   repeat' with_reducible first | exact ih0 _ _ _ _ _ _ | exact class_Run.mono _ _ _ | exact LeO.refl _ | exact LeO.none _ | refine LeO.ite ?_ ?_ | refine LeO.bind ?_ (fun _ => ?_)
theorem digits_Take.mono : ∀ a0 k, LeO (digits_Take.f k a0) (digits_Take.f (k + 1) a0) := by
 intro a0 k
 have ih0 := digits_Take.mono_l k
 unfold digits_Take.f
 repeat' with_reducible first | exact ih0 _ _ _ _ _ _ | exact class_Run.mono _ _ _ | exact LeO.refl _ | exact LeO.none _ | refine LeO.ite ?_ ?_ | refine LeO.bind ?_ (fun _ => ?_)
set_option maxHeartbeats 8000000 in
set_option maxRecDepth 100000 in
theorem digits_Take.calls (k : Nat) (A0 : Option Addr) (c0 : Nat) (l0 : List Int) (r1 : Int) (r2 : Int) (r3 : Int) (w : World) (hG : Gl w) (hr0 : Kd.C (Kd.int .u8) w A0 l0.length l0) (hc0 : l0.length ≤ c0) (h : digits_Take.f k l0 = some (r1, r2, r3)) :
  Calls Tryd.prog 43 #[.slice A0 l0.length c0] w fun e w' => e = .returned (.tuple #[.int .i64 r1, .int .i64 r2, .int .i64 r3]) ∧ Below w.heap.size w w' := by
 have HR0 := Aside0.mk hr0
 have HC0 := Aside0.mk hc0
 clear hr0 hc0
 have HB := Aside0.mk (Below.refl w.heap.size w)
 have HG := Aside0.mk hG
 clear hG
 have H : ((class_Run.f k l0 4).bind fun t122 => (if t122 = 0 then (some (0, t122, 2)) else (if 0 ≤ t122 then (if t122 ≤ (l0.length : Int) then (digits_Take.l0 k 0 t122 0 (l0.take (t122 : Int).toNat) ((l0.take (t122 : Int).toNat).length : Int) 0) else (none)) else (none)))) = some (r1, r2, r3) := h
 clear h
 obtain ⟨t122, A2, H⟩ := bE H
 by_cases c3 : t122 = 0
 ·rw [if_pos c3] at H
  obtain ⟨c3b0, c3b1⟩ := eqB c3
  clear c3
  simp only [Option.some.injEq, Prod.mk.injEq] at H
  obtain ⟨rfl, rfl, rfl⟩ := H
  go_enter Tryd.func43, Tryd.ntmps43
  go_wp2_with (first | ((with_reducible refine gate_callee (f := 19) rfl ?_); refine gL (some 8) Tryd.func19 #[.slice A0 l0.length c0, .int .i64 4] rfl gA ?_; (with_reducible refine (class_Run.calls k _ _ l0 4 t122 _ ?side1 ?side2 ?side3 A2.out).mono ?_); (case side1 => exact Gl.below HG.out (bAt HB.out)); (case side2 => exact CAt HR0.out); (case side3 => exact HC0.out); rintro e w4 ⟨rfl, hb⟩; refine ⟨_, rfl, ?_⟩; replace HB := Aside0.mk (below_step (bAt HB.out) hb); (try clear hb); (try clear hb2); (try clear hk); (try clear hi)))
  go_ret3
  exact ⟨eR, bAt HB.out⟩
 ·rw [if_neg c3] at H
  obtain ⟨c3b0, c3b1⟩ := neB c3
  by_cases c5 : 0 ≤ t122
  ·rw [if_pos c5] at H
   have c5b0 := eq_true c5
   have c5b1 := decide_eq_true c5
   clear c5
   by_cases c6 : t122 ≤ (l0.length : Int)
   ·rw [if_pos c6] at H
    have c6b0 := eq_true c6
    have c6b1 := decide_eq_true c6
    clear c6
    have H' := Aside0.mk H
    clear H
    go_enter Tryd.func43, Tryd.ntmps43
    go_wp2_with (first | ((with_reducible refine gate_callee (f := 19) rfl ?_); refine gL (some 8) Tryd.func19 #[.slice A0 l0.length c0, .int .i64 4] rfl gA ?_; (with_reducible refine (class_Run.calls k _ _ l0 4 t122 _ ?side1 ?side2 ?side3 A2.out).mono ?_); (case side1 => exact Gl.below HG.out (bAt HB.out)); (case side2 => exact CAt HR0.out); (case side3 => exact HC0.out); rintro e w7 ⟨rfl, hb⟩; refine ⟨_, rfl, ?_⟩; replace HB := Aside0.mk (below_step (bAt HB.out) hb); (try clear hb); (try clear hb2); (try clear hk); (try clear hi); obtain ⟨i08, hi08, _, hsz8, _⟩ := info_parts info5; obtain ⟨hcut8, hA8, hC8⟩ := print_take_of (P := Tryd.prog) (Value.int .u8) 0 22 5 .i64 Tryd.underlying22 hi08 hsz8 A0 c0 l0 t122 dt dt HC0.out; have HR123 := Aside0.mk (Kd.C_of_reads (h1 := fun _ => rfl) (hA8 _ (Kd.reads_of_C HR0.out))); have HC123 := Aside0.mk hC8; clear hA8 hC8 hi08 hsz8))
    obtain ⟨mz1, hmz1⟩ : ∃ mz_ : Int, (max t122 0 : Int) = mz_ := ⟨_, rfl⟩
    (try rw [hmz1])
    have HMZ1 := Aside0.mk (show ((l0.take (t122 : Int).toNat).length : Int) = mz1 from by have z1_ : t122 ≤ (l0.length : Int) := (by first | exact dt | exact of_eq_true (by assumption)); have z0_ : 0 ≤ t122 := (by first | exact dt | exact of_eq_true (by assumption)); rw [List.length_take, ← hmz1]; omega)
    go_loopg [2, 4, 15] k (fun kq v2 v4 v15 w' => ∃ (x2_1 : Int) (x4_1 : Int) (x15_1 : Int), v2 = .int .i64 x2_1 ∧ v4 = .int .i64 x4_1 ∧ v15 = .int .i64 x15_1 ∧ Aside0 (digits_Take.l0 kq x2_1 t122 x4_1 (l0.take (t122 : Int).toNat) ((l0.take (t122 : Int).toNat).length : Int) x15_1 = some (r1, r2, r3)) ∧ Aside0 (kq ≤ k) ∧ Aside0 (Below w.heap.size w w'))
    case atStart => exact ⟨(0), (0), (0), sR, sR, sR, H', ⟨Nat.le_refl _⟩, ⟨bAt HB.out⟩⟩
    case round =>
     clear H'
     try clear c1
     try clear p2
     try clear c3
     try clear c3b0 c3b1
     try clear c4
     try clear c5
     try clear c5b0 c5b1
     try clear c6
     try clear c6b0 c6b1
     obtain ⟨x2_1, x4_1, x15_1, rfl, rfl, rfl, HA, HK1, HB⟩ := hrel
     cases gk with
     | zero => exact absurd HA.out (by simp [digits_Take.l0])
     | succ k1 =>
      have H := HA.out
      clear HA
      simp only [digits_Take.l0] at H
      by_cases c9 : x15_1 < ((l0.take (t122 : Int).toNat).length : Int)
      ·rw [if_pos c9] at H
       have c9b0 := decide_eq_true c9
       (try (have c9b0z := c9b0; rw [HMZ1.out] at c9b0z))
       clear c9
       by_cases c10 : 0 ≤ x15_1
       ·rw [if_pos c10] at H
        have c10b0 := decide_eq_true c10
        clear c10
        by_cases c11 : x15_1 < ((l0.take (t122 : Int).toNat).length : Int)
        ·rw [if_pos c11] at H
         have c11b0 := decide_eq_true c11
         (try (have c11b0z := c11b0; rw [HMZ1.out] at c11b0z))
         clear c11
         by_cases c12 : (wrap64 ((wrap64 (x2_1 * 10)) + (((rd (l0.take (t122 : Int).toNat) x15_1) - 48) % 256))) > 2147483647
         ·rw [if_pos c12] at H
          have c12b0 : decide (2147483647 < (wrap64 ((wrap64 (x2_1 * 10)) + (((rd (l0.take (t122 : Int).toNat) x15_1) - 48) % 256)))) = true := decide_eq_true c12
          clear c12
          simp only [Option.some.injEq, Prod.mk.injEq] at H
          obtain ⟨rfl, rfl, rfl⟩ := H
          have p124 : 0 ≤ (x15_1 : Int) := dt
          have q124 : x15_1 < ((l0.take (t122 : Int).toNat).length : Int) := dt
          (try (have q124z := q124; rw [HMZ1.out] at q124z; replace q124z := eq_true q124z))
          obtain ⟨ad124, e124, hx124_0⟩ := Kd.at_int HR123.out x15_1 p124 q124
          cases e124
          replace hx124_0 := pw_cell_below HB.out hx124_0
          replace p124 := eq_true p124
          replace q124 := eq_true q124
          go_wp2
          go_ret3
          exact ⟨eR, bAt HB.out⟩
         ·rw [if_neg c12] at H
          have c12b0 : decide (2147483647 < (wrap64 ((wrap64 (x2_1 * 10)) + (((rd (l0.take (t122 : Int).toNat) x15_1) - 48) % 256)))) = false := decide_eq_false c12
          clear c12
          have H' := Aside0.mk H
          clear H
          have p124 : 0 ≤ (x15_1 : Int) := dt
          have q124 : x15_1 < ((l0.take (t122 : Int).toNat).length : Int) := dt
          (try (have q124z := q124; rw [HMZ1.out] at q124z; replace q124z := eq_true q124z))
          obtain ⟨ad124, e124, hx124_0⟩ := Kd.at_int HR123.out x15_1 p124 q124
          cases e124
          replace hx124_0 := pw_cell_below HB.out hx124_0
          replace p124 := eq_true p124
          replace q124 := eq_true q124
          go_wp2
          go_roundg k1
          case measure => have := HK1.out; omega
          case rel => exact ⟨(wrap64 ((wrap64 (x2_1 * 10)) + (((rd (l0.take (t122 : Int).toNat) x15_1) - 48) % 256))), (x4_1), (wrap64 (x15_1 + 1)), sR, sR, sR, H', ⟨by have := HK1.out; omega⟩, ⟨bAt HB.out⟩⟩
        ·exact nB H c11
       ·exact nB H c10
      ·rw [if_neg c9] at H
       have c9b0 := decide_eq_false c9
       (try (have c9b0z := c9b0; rw [HMZ1.out] at c9b0z))
       clear c9
       simp only [Option.some.injEq, Prod.mk.injEq] at H
       obtain ⟨rfl, rfl, rfl⟩ := H
       go_wp2
       go_ret3
       exact ⟨eR, bAt HB.out⟩
   ·exact nB H c6
  ·exact nB H c5
def token_number.f (k : Nat) (l0 : List Int) : Option (Int × Int × ByteArray × Int) := (digits_Take.f k l0).bind fun bt125 => (if 0 ≤ bt125.2.1 then (if bt125.2.1 ≤ (l0.length : Int) then (some (4, bt125.2.1, strOfNums (l0.take (bt125.2.1 : Int).toNat), bt125.2.2)) else (none)) else (none))
theorem token_number.mono : ∀ a0 k, LeO (token_number.f k a0) (token_number.f (k + 1) a0) := by
 intro a0 k
 unfold token_number.f
 repeat' with_reducible first | exact digits_Take.mono _ _ | exact LeO.refl _ | exact LeO.none _ | refine LeO.ite ?_ ?_ | refine LeO.bind ?_ (fun _ => ?_)
set_option maxHeartbeats 8000000 in
set_option maxRecDepth 100000 in
theorem token_number.calls (k : Nat) (A0 : Option Addr) (c0 : Nat) (l0 : List Int) (r1 : Int) (r2 : Int) (r3 : ByteArray) (r4 : Int) (w : World) (hG : Gl w) (hr0 : Kd.C (Kd.int .u8) w A0 l0.length l0) (hc0 : l0.length ≤ c0) (h : token_number.f k l0 = some (r1, r2, r3, r4)) :
  Calls Tryd.prog 26 #[.slice A0 l0.length c0] w fun e w' => e = .returned (.tuple #[.int .i64 r1, .int .i64 r2, .string r3, .int .i64 r4]) ∧ Below w.heap.size w w' := by
 have HR0 := Aside0.mk hr0
 have HC0 := Aside0.mk hc0
 clear hr0 hc0
 have HB := Aside0.mk (Below.refl w.heap.size w)
 have HG := Aside0.mk hG
 clear hG
 have H : ((digits_Take.f k l0).bind fun bt125 => (if 0 ≤ bt125.2.1 then (if bt125.2.1 ≤ (l0.length : Int) then (some (4, bt125.2.1, strOfNums (l0.take (bt125.2.1 : Int).toNat), bt125.2.2)) else (none)) else (none))) = some (r1, r2, r3, r4) := h
 clear h
 obtain ⟨⟨t125, t126, t127⟩, A2, H⟩ := bE H
 replace H : (if 0 ≤ t126 then (if t126 ≤ (l0.length : Int) then (some (4, t126, strOfNums (l0.take (t126 : Int).toNat), t127)) else (none)) else (none)) = some (r1, r2, r3, r4) := H
 by_cases c3 : 0 ≤ t126
 ·rw [if_pos c3] at H
  have c3b0 := eq_true c3
  have c3b1 := decide_eq_true c3
  clear c3
  by_cases c4 : t126 ≤ (l0.length : Int)
  ·rw [if_pos c4] at H
   have c4b0 := eq_true c4
   have c4b1 := decide_eq_true c4
   clear c4
   simp only [Option.some.injEq, Prod.mk.injEq] at H
   obtain ⟨rfl, rfl, rfl, rfl⟩ := H
   go_enter Tryd.func26, Tryd.ntmps26
   go_wp2_with (first | (go_at_call 43; (with_reducible refine (digits_Take.calls k _ _ l0 t125 t126 t127 _ ?side1 ?side2 ?side3 A2.out).mono ?_); (case side1 => exact Gl.below HG.out (bAt HB.out)); (case side2 => exact CAt HR0.out); (case side3 => exact HC0.out); rintro e w5 ⟨rfl, hb⟩; replace HB := Aside0.mk (below_step (bAt HB.out) hb); (try clear hb); (try clear hb2); (try clear hk); (try clear hi); obtain ⟨i06, hi06, _, hsz6, _⟩ := info_parts info5; obtain ⟨hcut6, hA6, hC6⟩ := print_take_of (P := Tryd.prog) (Value.int .u8) 0 22 5 .i64 Tryd.underlying22 hi06 hsz6 A0 c0 l0 t126 dt dt HC0.out; have HR128 := Aside0.mk (Kd.C_of_reads (h1 := fun _ => rfl) (hA6 _ (Kd.reads_of_C HR0.out))); have HC128 := Aside0.mk hC6; clear hA6 hC6 hi06 hsz6; have hcv7 := Kd.C_string (P := Tryd.prog) (A := A0) (c := c0) Tryd.underlying22 Tryd.underlying5 Tryd.underlying9 (Kd.C_below HR128.out HB.out); have hcv7z := hcv7; (try rw [List.length_drop, List.length_take, Nat.min_eq_left (Int.toNat_le.mpr dt)] at hcv7z); have hcv7y := hcv7; (try rw [List.length_take, Nat.min_eq_left (Int.toNat_le.mpr dt)] at hcv7y); have hcv7x := hcv7; (try rw [List.length_take, mM] at hcv7x); have hcv7m := hcv7; (try simp only [Int.reduceToNat, List.length_take] at hcv7m); have hcv7q := fun (q_ : Nat) => Kd.C_string (P := Tryd.prog) (A := A0) (c := c0) Tryd.underlying22 Tryd.underlying5 Tryd.underlying9 (Kd.C_drewN (Kd.C_below HR128.out HB.out) q_); have hcv7qy := hcv7q; (try simp only [List.length_take, Nat.min_eq_left (Int.toNat_le.mpr dt)] at hcv7qy); have hcv7qw := hcv7q; (try simp only [Int.reduceToNat] at hcv7qw); have hcv7qv := hcv7qy; (try simp only [Int.reduceToNat] at hcv7qv); have hcv7qu := hcv7q; (try simp only [Int.reduceToNat, List.length_take] at hcv7qu)))
   repeat (go_quiet (first | (go_at_call 43; (with_reducible refine (digits_Take.calls k _ _ l0 t125 t126 t127 _ ?side1 ?side2 ?side3 A2.out).mono ?_); (case side1 => exact Gl.below HG.out (bAt HB.out)); (case side2 => exact CAt HR0.out); (case side3 => exact HC0.out); rintro e w5 ⟨rfl, hb⟩; replace HB := Aside0.mk (below_step (bAt HB.out) hb); (try clear hb); (try clear hb2); (try clear hk); (try clear hi); obtain ⟨i06, hi06, _, hsz6, _⟩ := info_parts info5; obtain ⟨hcut6, hA6, hC6⟩ := print_take_of (P := Tryd.prog) (Value.int .u8) 0 22 5 .i64 Tryd.underlying22 hi06 hsz6 A0 c0 l0 t126 dt dt HC0.out; have HR128 := Aside0.mk (Kd.C_of_reads (h1 := fun _ => rfl) (hA6 _ (Kd.reads_of_C HR0.out))); have HC128 := Aside0.mk hC6; clear hA6 hC6 hi06 hsz6; have hcv7 := Kd.C_string (P := Tryd.prog) (A := A0) (c := c0) Tryd.underlying22 Tryd.underlying5 Tryd.underlying9 (Kd.C_below HR128.out HB.out); have hcv7z := hcv7; (try rw [List.length_drop, List.length_take, Nat.min_eq_left (Int.toNat_le.mpr dt)] at hcv7z); have hcv7y := hcv7; (try rw [List.length_take, Nat.min_eq_left (Int.toNat_le.mpr dt)] at hcv7y); have hcv7x := hcv7; (try rw [List.length_take, mM] at hcv7x); have hcv7m := hcv7; (try simp only [Int.reduceToNat, List.length_take] at hcv7m); have hcv7q := fun (q_ : Nat) => Kd.C_string (P := Tryd.prog) (A := A0) (c := c0) Tryd.underlying22 Tryd.underlying5 Tryd.underlying9 (Kd.C_drewN (Kd.C_below HR128.out HB.out) q_); have hcv7qy := hcv7q; (try simp only [List.length_take, Nat.min_eq_left (Int.toNat_le.mpr dt)] at hcv7qy); have hcv7qw := hcv7q; (try simp only [Int.reduceToNat] at hcv7qw); have hcv7qv := hcv7qy; (try simp only [Int.reduceToNat] at hcv7qv); have hcv7qu := hcv7q; (try simp only [Int.reduceToNat, List.length_take] at hcv7qu))); try go_wp2_with (first | (go_at_call 43; (with_reducible refine (digits_Take.calls k _ _ l0 t125 t126 t127 _ ?side1 ?side2 ?side3 A2.out).mono ?_); (case side1 => exact Gl.below HG.out (bAt HB.out)); (case side2 => exact CAt HR0.out); (case side3 => exact HC0.out); rintro e w5 ⟨rfl, hb⟩; replace HB := Aside0.mk (below_step (bAt HB.out) hb); (try clear hb); (try clear hb2); (try clear hk); (try clear hi); obtain ⟨i06, hi06, _, hsz6, _⟩ := info_parts info5; obtain ⟨hcut6, hA6, hC6⟩ := print_take_of (P := Tryd.prog) (Value.int .u8) 0 22 5 .i64 Tryd.underlying22 hi06 hsz6 A0 c0 l0 t126 dt dt HC0.out; have HR128 := Aside0.mk (Kd.C_of_reads (h1 := fun _ => rfl) (hA6 _ (Kd.reads_of_C HR0.out))); have HC128 := Aside0.mk hC6; clear hA6 hC6 hi06 hsz6; have hcv7 := Kd.C_string (P := Tryd.prog) (A := A0) (c := c0) Tryd.underlying22 Tryd.underlying5 Tryd.underlying9 (Kd.C_below HR128.out HB.out); have hcv7z := hcv7; (try rw [List.length_drop, List.length_take, Nat.min_eq_left (Int.toNat_le.mpr dt)] at hcv7z); have hcv7y := hcv7; (try rw [List.length_take, Nat.min_eq_left (Int.toNat_le.mpr dt)] at hcv7y); have hcv7x := hcv7; (try rw [List.length_take, mM] at hcv7x); have hcv7m := hcv7; (try simp only [Int.reduceToNat, List.length_take] at hcv7m); have hcv7q := fun (q_ : Nat) => Kd.C_string (P := Tryd.prog) (A := A0) (c := c0) Tryd.underlying22 Tryd.underlying5 Tryd.underlying9 (Kd.C_drewN (Kd.C_below HR128.out HB.out) q_); have hcv7qy := hcv7q; (try simp only [List.length_take, Nat.min_eq_left (Int.toNat_le.mpr dt)] at hcv7qy); have hcv7qw := hcv7q; (try simp only [Int.reduceToNat] at hcv7qw); have hcv7qv := hcv7qy; (try simp only [Int.reduceToNat] at hcv7qv); have hcv7qu := hcv7q; (try simp only [Int.reduceToNat, List.length_take] at hcv7qu))))
   refine bodyPost_ret (results_list (rs := [.tmp 2, .tmp 3, .tmp 4, .tmp 5]) rfl (by simp) (.tmp (.tmp (.tmp (.tmp .nil))))) rfl ?_
   exact ⟨eR, bAt HB.out⟩
  ·exact nB H c4
 ·exact nB H c3
end Go.Proofs.YtflekegjmjjdmaaDoor.P
