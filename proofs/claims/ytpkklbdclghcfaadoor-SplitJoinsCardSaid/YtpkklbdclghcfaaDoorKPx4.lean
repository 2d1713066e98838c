/- Part of the proof: what the theorem needs of this text. -/
import Derived.Test.YtpkklbdclghcfaaDoorKHG
import Derived.Test.YtpkklbdclghcfaaDoorKPx0
namespace Go.Proofs.YtpkklbdclghcfaaDoor.P
open Go.RowKit Go.Proofs.YtpkklbdclghcfaaDoorW.PrintWords Go.Proofs.YtpkklbdclghcfaaDoorW.PrintLast Go.Proofs.YtpkklbdclghcfaaDoorW.PrintMore
attribute [local go_sem] max2_int min2_int max_two min_two max_three min_three max_four min_four   -- for this text's walks alone
set_option linter.unusedVariables false
set_option linter.unusedSimpArgs false
def class_Run.l0 : Nat → List Int → Int → List Int → Int → Int → Option (Int)
 | 0, _, _, _, _, _ => none
 | k + 1, x0, x1, x7, x8, x9 => if x9 < x8 then (if 0 ≤ x9 then (if x9 < (x7.length : Int) then ((class_Of.f (rd x7 x9)).bind fun t131 => (if t131 = x1 then (class_Run.l0 k x0 x1 x7 x8 (wrap64 (x9 + 1))) else (some x9))) else (none)) else (none)) else (some (x0.length : Int))
def class_Run.f (k : Nat) (l0 : List Int) (a1 : Int) : Option (Int) := class_Run.l0 k l0 a1 l0 (l0.length : Int) 0
theorem class_Run.mono_l : ∀ k, (∀ y0 y1 y2 y3 y4, LeO (class_Run.l0 k y0 y1 y2 y3 y4) (class_Run.l0 (k + 1) y0 y1 y2 y3 y4))
 | 0 => fun _ _ _ _ _ r h => by simp [class_Run.l0] at h
 | k + 1 => by
  have ih0 := class_Run.mono_l k
  ·intro y0 y1 y2 y3 y4
   unfold class_Run.l0
   repeat' with_reducible first | exact ih0 _ _ _ _ _ | exact LeO.refl _ | exact LeO.none _ | refine LeO.ite ?_ ?_ | refine LeO.bind ?_ (fun _ => ?_)
theorem class_Run.mono : ∀ a0 a1 k, LeO (class_Run.f k a0 a1) (class_Run.f (k + 1) a0 a1) := by
 intro a0 a1 k
 have ih0 := class_Run.mono_l k
 unfold class_Run.f
 repeat' with_reducible first | exact ih0 _ _ _ _ _ | exact LeO.refl _ | exact LeO.none _ | refine LeO.ite ?_ ?_ | refine LeO.bind ?_ (fun _ => ?_)
set_option maxHeartbeats 8000000 in
set_option maxRecDepth 100000 in
theorem class_Run.calls (k : Nat) (A0 : Option Addr) (c0 : Nat) (l0 : List Int) (a1 : Int) (r : Int) (w : World) (hG : Gl w) (hr0 : Kd.C (Kd.int .u8) w A0 l0.length l0) (hc0 : l0.length ≤ c0) (h : class_Run.f k l0 a1 = some r) :
  Calls Tryd.prog 50 #[.slice A0 l0.length c0, .int .i64 a1] w fun e w' => e = .returned (.int .i64 r) ∧ Below w.heap.size w w' := by
 have HR0 := Aside0.mk hr0
 have HC0 := Aside0.mk hc0
 clear hr0 hc0
 have HB := Aside0.mk (Below.refl w.heap.size w)
 have HG := Aside0.mk hG
 clear hG
 have H : (class_Run.l0 k l0 a1 l0 (l0.length : Int) 0) = some r := h
 clear h
 have H' := Aside0.mk H
 clear H
 go_enter Tryd.func50, Tryd.ntmps50
 go_wp2
 go_loopg [9] k (fun kq v9 w' => ∃ (x9_1 : Int), v9 = .int .i64 x9_1 ∧ Aside0 (class_Run.l0 kq l0 a1 l0 (l0.length : Int) x9_1 = some r) ∧ Aside0 (kq ≤ k) ∧ Aside0 (Below w.heap.size w w'))
 case atStart => exact ⟨(0), sR, H', ⟨Nat.le_refl _⟩, ⟨bAt HB.out⟩⟩
 case round =>
  clear H'
  try clear p2
  obtain ⟨x9_1, rfl, HA, HK1, HB⟩ := hrel
  cases gk with
  | zero => exact absurd HA.out (by simp [class_Run.l0])
  | succ k1 =>
   have H := HA.out
   clear HA
   simp only [class_Run.l0] at H
   by_cases c3 : x9_1 < (l0.length : Int)
   ·rw [if_pos c3] at H
    have c3b0 := decide_eq_true c3
    clear c3
    by_cases c4 : 0 ≤ x9_1
    ·rw [if_pos c4] at H
     have c4b0 := decide_eq_true c4
     clear c4
     by_cases c5 : x9_1 < (l0.length : Int)
     ·rw [if_pos c5] at H
      have c5b0 := decide_eq_true c5
      clear c5
      obtain ⟨t131, A6, H⟩ := bE H
      by_cases c7 : t131 = a1
      ·rw [if_pos c7] at H
       obtain ⟨c7b0, c7b1⟩ := eqB c7
       clear c7
       have H' := Aside0.mk H
       clear H
       have p130 : 0 ≤ (x9_1 : Int) := dt
       have q130 : x9_1 < (l0.length : Int) := dt
       obtain ⟨ad130, e130, hx130_0⟩ := Kd.at_int HR0.out x9_1 p130 q130
       cases e130
       replace hx130_0 := pw_cell_below HB.out hx130_0
       replace p130 := eq_true p130
       replace q130 := eq_true q130
       go_wp2_with (first | ((with_reducible refine gate_callee (f := 35) rfl ?_); refine gL (some 15) Tryd.func35 #[.int .u8 (rd l0 x9_1)] rfl gA ?_; (with_reducible refine (class_Of.calls (rd l0 x9_1) t131 _ ?side1 A6.out).mono ?_); (case side1 => exact Gl.below HG.out (bAt HB.out)); rintro e w8 ⟨rfl, hb⟩; refine ⟨_, rfl, ?_⟩; replace HB := Aside0.mk (below_step (bAt HB.out) hb); (try clear hb); (try clear hb2); (try clear hk); (try clear hi)))
       go_roundg k1
       case measure => have := HK1.out; omega
       case rel => exact ⟨(wrap64 (x9_1 + 1)), sR, H', ⟨by have := HK1.out; omega⟩, ⟨bAt HB.out⟩⟩
      ·rw [if_neg c7] at H
       obtain ⟨c7b0, c7b1⟩ := neB c7
       obtain rfl := Option.some.inj H
       have p130 : 0 ≤ (x9_1 : Int) := dt
       have q130 : x9_1 < (l0.length : Int) := dt
       obtain ⟨ad130, e130, hx130_0⟩ := Kd.at_int HR0.out x9_1 p130 q130
       cases e130
       replace hx130_0 := pw_cell_below HB.out hx130_0
       replace p130 := eq_true p130
       replace q130 := eq_true q130
       go_wp2_with (first | ((with_reducible refine gate_callee (f := 35) rfl ?_); refine gL (some 15) Tryd.func35 #[.int .u8 (rd l0 x9_1)] rfl gA ?_; (with_reducible refine (class_Of.calls (rd l0 x9_1) t131 _ ?side1 A6.out).mono ?_); (case side1 => exact Gl.below HG.out (bAt HB.out)); rintro e w9 ⟨rfl, hb⟩; refine ⟨_, rfl, ?_⟩; replace HB := Aside0.mk (below_step (bAt HB.out) hb); (try clear hb); (try clear hb2); (try clear hk); (try clear hi)))
       go_ret
       exact ⟨eR, bAt HB.out⟩
     ·exact nB H c5
    ·exact nB H c4
   ·rw [if_neg c3] at H
    have c3b0 := decide_eq_false c3
    clear c3
    obtain rfl := Option.some.inj H
    go_wp2
    go_ret
    exact ⟨eR, bAt HB.out⟩
def token_symbol.f (k : Nat) (l0 : List Int) : Option (Int × Int × ByteArray × Int) := (class_Run.f k l0 5).bind fun t132 => (if 0 ≤ t132 then (if t132 ≤ (l0.length : Int) then (if (strOfNums (l0.take (t132 : Int).toNat)).toList = ([46] : List UInt8) then (if t132 = (l0.length : Int) then (some (7, t132, strOfNums (l0.take (t132 : Int).toNat), 0)) else (if t132 < (l0.length : Int) then ((class_Of.f (rd l0 t132)).bind fun t135 => (if t135 = 1 then (some (7, t132, strOfNums (l0.take (t132 : Int).toNat), 0)) else ((class_Of.f (rd l0 t132)).bind fun t137 => (if t137 = 8 then (some (7, t132, strOfNums (l0.take (t132 : Int).toNat), 0)) else (some (2, t132, strOfNums (l0.take (t132 : Int).toNat), 0)))))) else (none))) else (some (2, t132, strOfNums (l0.take (t132 : Int).toNat), 0))) else (none)) else (none))
theorem token_symbol.mono : ∀ a0 k, LeO (token_symbol.f k a0) (token_symbol.f (k + 1) a0) := by
 intro a0 k
 unfold token_symbol.f
 repeat' with_reducible first | exact class_Run.mono _ _ _ | exact LeO.refl _ | exact LeO.none _ | refine LeO.ite ?_ ?_ | refine LeO.bind ?_ (fun _ => ?_)
set_option maxHeartbeats 8000000 in
set_option maxRecDepth 100000 in
theorem token_symbol.calls (k : Nat) (A0 : Option Addr) (c0 : Nat) (l0 : List Int) (r1 : Int) (r2 : Int) (r3 : ByteArray) (r4 : Int) (w : World) (hG : Gl w) (hr0 : Kd.C (Kd.int .u8) w A0 l0.length l0) (hc0 : l0.length ≤ c0) (h : token_symbol.f k l0 = some (r1, r2, r3, r4)) :
  Calls Tryd.prog 56 #[.slice A0 l0.length c0] w fun e w' => e = .returned (.tuple #[.int .i64 r1, .int .i64 r2, .string r3, .int .i64 r4]) ∧ Below w.heap.size w w' := by
 have HR0 := Aside0.mk hr0
 have HC0 := Aside0.mk hc0
 clear hr0 hc0
 have HB := Aside0.mk (Below.refl w.heap.size w)
 have HG := Aside0.mk hG
 clear hG
 have H : ((class_Run.f k l0 5).bind fun t132 => (if 0 ≤ t132 then (if t132 ≤ (l0.length : Int) then (if (strOfNums (l0.take (t132 : Int).toNat)).toList = ([46] : List UInt8) then (if t132 = (l0.length : Int) then (some (7, t132, strOfNums (l0.take (t132 : Int).toNat), 0)) else (if t132 < (l0.length : Int) then ((class_Of.f (rd l0 t132)).bind fun t135 => (if t135 = 1 then (some (7, t132, strOfNums (l0.take (t132 : Int).toNat), 0)) else ((class_Of.f (rd l0 t132)).bind fun t137 => (if t137 = 8 then (some (7, t132, strOfNums (l0.take (t132 : Int).toNat), 0)) else (some (2, t132, strOfNums (l0.take (t132 : Int).toNat), 0)))))) else (none))) else (some (2, t132, strOfNums (l0.take (t132 : Int).toNat), 0))) else (none)) else (none))) = some (r1, r2, r3, r4) := h
 clear h
 obtain ⟨t132, A2, H⟩ := bE H
 by_cases c3 : 0 ≤ t132
 ·rw [if_pos c3] at H
  have c3b0 := eq_true c3
  have c3b1 := decide_eq_true c3
  clear c3
  by_cases c4 : t132 ≤ (l0.length : Int)
  ·rw [if_pos c4] at H
   have c4b0 := eq_true c4
   have c4b1 := decide_eq_true c4
   clear c4
   by_cases c5 : (strOfNums (l0.take (t132 : Int).toNat)).toList = ([46] : List UInt8)
   ·rw [if_pos c5] at H
    obtain ⟨c5b0, c5b1⟩ := eqB c5
    clear c5
    by_cases c6 : t132 = (l0.length : Int)
    ·rw [if_pos c6] at H
     obtain ⟨c6b0, c6b1⟩ := eqB c6
     clear c6
     simp only [Option.some.injEq, Prod.mk.injEq] at H
     obtain ⟨rfl, rfl, rfl, rfl⟩ := H
     go_enter Tryd.func56, Tryd.ntmps56
     go_wp2_with (first | ((with_reducible refine gate_callee (f := 50) rfl ?_); refine gL (some 9) Tryd.func50 #[.slice A0 l0.length c0, .int .i64 5] rfl gA ?_; (with_reducible refine (class_Run.calls k _ _ l0 5 t132 _ ?side1 ?side2 ?side3 A2.out).mono ?_); (case side1 => exact Gl.below HG.out (bAt HB.out)); (case side2 => exact CAt HR0.out); (case side3 => exact HC0.out); rintro e w7 ⟨rfl, hb⟩; refine ⟨_, rfl, ?_⟩; replace HB := Aside0.mk (below_step (bAt HB.out) hb); (try clear hb); (try clear hb2); (try clear hk); (try clear hi); obtain ⟨i08, hi08, _, hsz8, _⟩ := info_parts info5; obtain ⟨hcut8, hA8, hC8⟩ := print_take_of (P := Tryd.prog) (Value.int .u8) 0 22 5 .i64 Tryd.underlying22 hi08 hsz8 A0 c0 l0 t132 dt dt HC0.out; have HR133 := Aside0.mk (Kd.C_of_reads (h1 := fun _ => rfl) (hA8 _ (Kd.reads_of_C HR0.out))); have HC133 := Aside0.mk hC8; clear hA8 hC8 hi08 hsz8; have hcv9 := Kd.C_string (P := Tryd.prog) (A := A0) (c := c0) Tryd.underlying22 Tryd.underlying5 Tryd.underlying9 (Kd.C_below HR133.out HB.out); have hcv9z := hcv9; (try rw [List.length_drop, List.length_take, Nat.min_eq_left (Int.toNat_le.mpr dt)] at hcv9z); have hcv9y := hcv9; (try rw [List.length_take, Nat.min_eq_left (Int.toNat_le.mpr dt)] at hcv9y); have hcv9x := hcv9; (try rw [List.length_take, mM] at hcv9x); have hcv9m := hcv9; (try simp only [Int.reduceToNat, List.length_take] at hcv9m); have hcv9q := fun (q_ : Nat) => Kd.C_string (P := Tryd.prog) (A := A0) (c := c0) Tryd.underlying22 Tryd.underlying5 Tryd.underlying9 (Kd.C_drewN (Kd.C_below HR133.out HB.out) q_); have hcv9qy := hcv9q; (try simp only [List.length_take, Nat.min_eq_left (Int.toNat_le.mpr dt)] at hcv9qy); have hcv9qw := hcv9q; (try simp only [Int.reduceToNat] at hcv9qw); have hcv9qv := hcv9qy; (try simp only [Int.reduceToNat] at hcv9qv); have hcv9qu := hcv9q; (try simp only [Int.reduceToNat, List.length_take] at hcv9qu)))
     refine bodyPost_ret (results_list (rs := [.tmp 2, .tmp 3, .tmp 4, .tmp 5]) rfl (by simp) (.tmp (.tmp (.tmp (.tmp .nil))))) rfl ?_
     exact ⟨eR, bAt HB.out⟩
    ·rw [if_neg c6] at H
     obtain ⟨c6b0, c6b1⟩ := neB c6
     by_cases c10 : t132 < (l0.length : Int)
     ·rw [if_pos c10] at H
      have c10b0 := decide_eq_true c10
      clear c10
      obtain ⟨t135, A11, H⟩ := bE H
      by_cases c12 : t135 = 1
      ·rw [if_pos c12] at H
       obtain ⟨c12b0, c12b1⟩ := eqB c12
       clear c12
       simp only [Option.some.injEq, Prod.mk.injEq] at H
       obtain ⟨rfl, rfl, rfl, rfl⟩ := H
       go_enter Tryd.func56, Tryd.ntmps56
       go_wp2_with (first | ((with_reducible refine gate_callee (f := 50) rfl ?_); refine gL (some 9) Tryd.func50 #[.slice A0 l0.length c0, .int .i64 5] rfl gA ?_; (with_reducible refine (class_Run.calls k _ _ l0 5 t132 _ ?side1 ?side2 ?side3 A2.out).mono ?_); (case side1 => exact Gl.below HG.out (bAt HB.out)); (case side2 => exact CAt HR0.out); (case side3 => exact HC0.out); rintro e w13 ⟨rfl, hb⟩; refine ⟨_, rfl, ?_⟩; replace HB := Aside0.mk (below_step (bAt HB.out) hb); (try clear hb); (try clear hb2); (try clear hk); (try clear hi); obtain ⟨i014, hi014, _, hsz14, _⟩ := info_parts info5; obtain ⟨hcut14, hA14, hC14⟩ := print_take_of (P := Tryd.prog) (Value.int .u8) 0 22 5 .i64 Tryd.underlying22 hi014 hsz14 A0 c0 l0 t132 dt dt HC0.out; have HR133 := Aside0.mk (Kd.C_of_reads (h1 := fun _ => rfl) (hA14 _ (Kd.reads_of_C HR0.out))); have HC133 := Aside0.mk hC14; clear hA14 hC14 hi014 hsz14; have hcv15 := Kd.C_string (P := Tryd.prog) (A := A0) (c := c0) Tryd.underlying22 Tryd.underlying5 Tryd.underlying9 (Kd.C_below HR133.out HB.out); have hcv15z := hcv15; (try rw [List.length_drop, List.length_take, Nat.min_eq_left (Int.toNat_le.mpr dt)] at hcv15z); have hcv15y := hcv15; (try rw [List.length_take, Nat.min_eq_left (Int.toNat_le.mpr dt)] at hcv15y); have hcv15x := hcv15; (try rw [List.length_take, mM] at hcv15x); have hcv15m := hcv15; (try simp only [Int.reduceToNat, List.length_take] at hcv15m); have hcv15q := fun (q_ : Nat) => Kd.C_string (P := Tryd.prog) (A := A0) (c := c0) Tryd.underlying22 Tryd.underlying5 Tryd.underlying9 (Kd.C_drewN (Kd.C_below HR133.out HB.out) q_); have hcv15qy := hcv15q; (try simp only [List.length_take, Nat.min_eq_left (Int.toNat_le.mpr dt)] at hcv15qy); have hcv15qw := hcv15q; (try simp only [Int.reduceToNat] at hcv15qw); have hcv15qv := hcv15qy; (try simp only [Int.reduceToNat] at hcv15qv); have hcv15qu := hcv15q; (try simp only [Int.reduceToNat, List.length_take] at hcv15qu); have p134 : 0 ≤ (t132 : Int) := dt; have q134 : t132 < (l0.length : Int) := dt; obtain ⟨ad134, e134, hx134_0⟩ := Kd.at_int HR0.out t132 p134 q134; cases e134; replace hx134_0 := pw_cell_below HB.out hx134_0; replace p134 := eq_true p134; replace q134 := eq_true q134) | ((with_reducible refine gate_callee (f := 35) rfl ?_); (try (refine gate_guard (by rfl) ?_; dsimp only)); refine gL (some 25) Tryd.func35 #[.int .u8 (rd l0 t132)] rfl gA ?_; (with_reducible refine (class_Of.calls (rd l0 t132) t135 _ ?side1 A11.out).mono ?_); (case side1 => exact Gl.below HG.out (bAt HB.out)); rintro e w16 ⟨rfl, hb⟩; refine ⟨_, rfl, ?_⟩; replace HB := Aside0.mk (below_step (bAt HB.out) hb); (try clear hb); (try clear hb2); (try clear hk); (try clear hi)))
       refine bodyPost_ret (results_list (rs := [.tmp 2, .tmp 3, .tmp 4, .tmp 5]) rfl (by simp) (.tmp (.tmp (.tmp (.tmp .nil))))) rfl ?_
       exact ⟨eR, bAt HB.out⟩
      ·rw [if_neg c12] at H
       obtain ⟨c12b0, c12b1⟩ := neB c12
       obtain ⟨t137, A17, H⟩ := bE H
       by_cases c18 : t137 = 8
       ·rw [if_pos c18] at H
        obtain ⟨c18b0, c18b1⟩ := eqB c18
        clear c18
        simp only [Option.some.injEq, Prod.mk.injEq] at H
        obtain ⟨rfl, rfl, rfl, rfl⟩ := H
        go_enter Tryd.func56, Tryd.ntmps56
        go_wp2_with (first | ((with_reducible refine gate_callee (f := 50) rfl ?_); refine gL (some 9) Tryd.func50 #[.slice A0 l0.length c0, .int .i64 5] rfl gA ?_; (with_reducible refine (class_Run.calls k _ _ l0 5 t132 _ ?side1 ?side2 ?side3 A2.out).mono ?_); (case side1 => exact Gl.below HG.out (bAt HB.out)); (case side2 => exact CAt HR0.out); (case side3 => exact HC0.out); rintro e w19 ⟨rfl, hb⟩; refine ⟨_, rfl, ?_⟩; replace HB := Aside0.mk (below_step (bAt HB.out) hb); (try clear hb); (try clear hb2); (try clear hk); (try clear hi); obtain ⟨i020, hi020, _, hsz20, _⟩ := info_parts info5; obtain ⟨hcut20, hA20, hC20⟩ := print_take_of (P := Tryd.prog) (Value.int .u8) 0 22 5 .i64 Tryd.underlying22 hi020 hsz20 A0 c0 l0 t132 dt dt HC0.out; have HR133 := Aside0.mk (Kd.C_of_reads (h1 := fun _ => rfl) (hA20 _ (Kd.reads_of_C HR0.out))); have HC133 := Aside0.mk hC20; clear hA20 hC20 hi020 hsz20; have hcv21 := Kd.C_string (P := Tryd.prog) (A := A0) (c := c0) Tryd.underlying22 Tryd.underlying5 Tryd.underlying9 (Kd.C_below HR133.out HB.out); have hcv21z := hcv21; (try rw [List.length_drop, List.length_take, Nat.min_eq_left (Int.toNat_le.mpr dt)] at hcv21z); have hcv21y := hcv21; (try rw [List.length_take, Nat.min_eq_left (Int.toNat_le.mpr dt)] at hcv21y); have hcv21x := hcv21; (try rw [List.length_take, mM] at hcv21x); have hcv21m := hcv21; (try simp only [Int.reduceToNat, List.length_take] at hcv21m); have hcv21q := fun (q_ : Nat) => Kd.C_string (P := Tryd.prog) (A := A0) (c := c0) Tryd.underlying22 Tryd.underlying5 Tryd.underlying9 (Kd.C_drewN (Kd.C_below HR133.out HB.out) q_); have hcv21qy := hcv21q; (try simp only [List.length_take, Nat.min_eq_left (Int.toNat_le.mpr dt)] at hcv21qy); have hcv21qw := hcv21q; (try simp only [Int.reduceToNat] at hcv21qw); have hcv21qv := hcv21qy; (try simp only [Int.reduceToNat] at hcv21qv); have hcv21qu := hcv21q; (try simp only [Int.reduceToNat, List.length_take] at hcv21qu); have p134 : 0 ≤ (t132 : Int) := dt; have q134 : t132 < (l0.length : Int) := dt; obtain ⟨ad134, e134, hx134_0⟩ := Kd.at_int HR0.out t132 p134 q134; cases e134; replace hx134_0 := pw_cell_below HB.out hx134_0; replace p134 := eq_true p134; replace q134 := eq_true q134) | ((with_reducible refine gate_callee (f := 35) rfl ?_); (try (refine gate_guard (by rfl) ?_; dsimp only)); refine gL (some 25) Tryd.func35 #[.int .u8 (rd l0 t132)] rfl gA ?_; (with_reducible refine (class_Of.calls (rd l0 t132) t135 _ ?side1 A11.out).mono ?_); (case side1 => exact Gl.below HG.out (bAt HB.out)); rintro e w22 ⟨rfl, hb⟩; refine ⟨_, rfl, ?_⟩; replace HB := Aside0.mk (below_step (bAt HB.out) hb); (try clear hb); (try clear hb2); (try clear hk); (try clear hi); have p136 : 0 ≤ (t132 : Int) := dt; have q136 : t132 < (l0.length : Int) := dt; obtain ⟨ad136, e136, hx136_0⟩ := Kd.at_int HR0.out t132 p136 q136; obtain rfl : ad134 = ad136 := (by injection e136); replace hx136_0 := pw_cell_below HB.out hx136_0; replace p136 := eq_true p136; replace q136 := eq_true q136) | ((with_reducible refine gate_callee (f := 35) rfl ?_); (try (refine gate_guard (by rfl) ?_; dsimp only)); refine gL (some 33) Tryd.func35 #[.int .u8 (rd l0 t132)] rfl gA ?_; (with_reducible refine (class_Of.calls (rd l0 t132) t137 _ ?side1 A17.out).mono ?_); (case side1 => exact Gl.below HG.out (bAt HB.out)); rintro e w23 ⟨rfl, hb⟩; refine ⟨_, rfl, ?_⟩; replace HB := Aside0.mk (below_step (bAt HB.out) hb); (try clear hb); (try clear hb2); (try clear hk); (try clear hi)))
        refine bodyPost_ret (results_list (rs := [.tmp 2, .tmp 3, .tmp 4, .tmp 5]) rfl (by simp) (.tmp (.tmp (.tmp (.tmp .nil))))) rfl ?_
        exact ⟨eR, bAt HB.out⟩
       ·rw [if_neg c18] at H
        obtain ⟨c18b0, c18b1⟩ := neB c18
        simp only [Option.some.injEq, Prod.mk.injEq] at H
        obtain ⟨rfl, rfl, rfl, rfl⟩ := H
        go_enter Tryd.func56, Tryd.ntmps56
        go_wp2_with (first | ((with_reducible refine gate_callee (f := 50) rfl ?_); refine gL (some 9) Tryd.func50 #[.slice A0 l0.length c0, .int .i64 5] rfl gA ?_; (with_reducible refine (class_Run.calls k _ _ l0 5 t132 _ ?side1 ?side2 ?side3 A2.out).mono ?_); (case side1 => exact Gl.below HG.out (bAt HB.out)); (case side2 => exact CAt HR0.out); (case side3 => exact HC0.out); rintro e w24 ⟨rfl, hb⟩; refine ⟨_, rfl, ?_⟩; replace HB := Aside0.mk (below_step (bAt HB.out) hb); (try clear hb); (try clear hb2); (try clear hk); (try clear hi); obtain ⟨i025, hi025, _, hsz25, _⟩ := info_parts info5; obtain ⟨hcut25, hA25, hC25⟩ := print_take_of (P := Tryd.prog) (Value.int .u8) 0 22 5 .i64 Tryd.underlying22 hi025 hsz25 A0 c0 l0 t132 dt dt HC0.out; have HR133 := Aside0.mk (Kd.C_of_reads (h1 := fun _ => rfl) (hA25 _ (Kd.reads_of_C HR0.out))); have HC133 := Aside0.mk hC25; clear hA25 hC25 hi025 hsz25; have hcv26 := Kd.C_string (P := Tryd.prog) (A := A0) (c := c0) Tryd.underlying22 Tryd.underlying5 Tryd.underlying9 (Kd.C_below HR133.out HB.out); have hcv26z := hcv26; (try rw [List.length_drop, List.length_take, Nat.min_eq_left (Int.toNat_le.mpr dt)] at hcv26z); have hcv26y := hcv26; (try rw [List.length_take, Nat.min_eq_left (Int.toNat_le.mpr dt)] at hcv26y); have hcv26x := hcv26; (try rw [List.length_take, mM] at hcv26x); have hcv26m := hcv26; (try simp only [Int.reduceToNat, List.length_take] at hcv26m); have hcv26q := fun (q_ : Nat) => Kd.C_string (P := Tryd.prog) (A := A0) (c := c0) Tryd.underlying22 Tryd.underlying5 Tryd.underlying9 (Kd.C_drewN (Kd.C_below HR133.out HB.out) q_); have hcv26qy := hcv26q; (try simp only [List.length_take, Nat.min_eq_left (Int.toNat_le.mpr dt)] at hcv26qy); have hcv26qw := hcv26q; (try simp only [Int.reduceToNat] at hcv26qw); have hcv26qv := hcv26qy; (try simp only [Int.reduceToNat] at hcv26qv); have hcv26qu := hcv26q; (try simp only [Int.reduceToNat, List.length_take] at hcv26qu); have p134 : 0 ≤ (t132 : Int) := dt; have q134 : t132 < (l0.length : Int) := dt; obtain ⟨ad134, e134, hx134_0⟩ := Kd.at_int HR0.out t132 p134 q134; cases e134; replace hx134_0 := pw_cell_below HB.out hx134_0; replace p134 := eq_true p134; replace q134 := eq_true q134) | ((with_reducible refine gate_callee (f := 35) rfl ?_); (try (refine gate_guard (by rfl) ?_; dsimp only)); refine gL (some 25) Tryd.func35 #[.int .u8 (rd l0 t132)] rfl gA ?_; (with_reducible refine (class_Of.calls (rd l0 t132) t135 _ ?side1 A11.out).mono ?_); (case side1 => exact Gl.below HG.out (bAt HB.out)); rintro e w27 ⟨rfl, hb⟩; refine ⟨_, rfl, ?_⟩; replace HB := Aside0.mk (below_step (bAt HB.out) hb); (try clear hb); (try clear hb2); (try clear hk); (try clear hi); have p136 : 0 ≤ (t132 : Int) := dt; have q136 : t132 < (l0.length : Int) := dt; obtain ⟨ad136, e136, hx136_0⟩ := Kd.at_int HR0.out t132 p136 q136; obtain rfl : ad134 = ad136 := (by injection e136); replace hx136_0 := pw_cell_below HB.out hx136_0; replace p136 := eq_true p136; replace q136 := eq_true q136) | ((with_reducible refine gate_callee (f := 35) rfl ?_); (try (refine gate_guard (by rfl) ?_; dsimp only)); refine gL (some 33) Tryd.func35 #[.int .u8 (rd l0 t132)] rfl gA ?_; (with_reducible refine (class_Of.calls (rd l0 t132) t137 _ ?side1 A17.out).mono ?_); (case side1 => exact Gl.below HG.out (bAt HB.out)); rintro e w28 ⟨rfl, hb⟩; refine ⟨_, rfl, ?_⟩; replace HB := Aside0.mk (below_step (bAt HB.out) hb); (try clear hb); (try clear hb2); (try clear hk); (try clear hi)))
        refine bodyPost_ret (results_list (rs := [.tmp 2, .tmp 3, .tmp 4, .tmp 5]) rfl (by simp) (.tmp (.tmp (.tmp (.tmp .nil))))) rfl ?_
        exact ⟨eR, bAt HB.out⟩
     ·exact nB H c10
   ·rw [if_neg c5] at H
    obtain ⟨c5b0, c5b1⟩ := neB c5
    simp only [Option.some.injEq, Prod.mk.injEq] at H
    obtain ⟨rfl, rfl, rfl, rfl⟩ := H
    go_enter Tryd.func56, Tryd.ntmps56
    go_wp2_with (first | ((with_reducible refine gate_callee (f := 50) rfl ?_); refine gL (some 9) Tryd.func50 #[.slice A0 l0.length c0, .int .i64 5] rfl gA ?_; (with_reducible refine (class_Run.calls k _ _ l0 5 t132 _ ?side1 ?side2 ?side3 A2.out).mono ?_); (case side1 => exact Gl.below HG.out (bAt HB.out)); (case side2 => exact CAt HR0.out); (case side3 => exact HC0.out); rintro e w29 ⟨rfl, hb⟩; refine ⟨_, rfl, ?_⟩; replace HB := Aside0.mk (below_step (bAt HB.out) hb); (try clear hb); (try clear hb2); (try clear hk); (try clear hi); obtain ⟨i030, hi030, _, hsz30, _⟩ := info_parts info5; obtain ⟨hcut30, hA30, hC30⟩ := print_take_of (P := Tryd.prog) (Value.int .u8) 0 22 5 .i64 Tryd.underlying22 hi030 hsz30 A0 c0 l0 t132 dt dt HC0.out; have HR133 := Aside0.mk (Kd.C_of_reads (h1 := fun _ => rfl) (hA30 _ (Kd.reads_of_C HR0.out))); have HC133 := Aside0.mk hC30; clear hA30 hC30 hi030 hsz30; have hcv31 := Kd.C_string (P := Tryd.prog) (A := A0) (c := c0) Tryd.underlying22 Tryd.underlying5 Tryd.underlying9 (Kd.C_below HR133.out HB.out); have hcv31z := hcv31; (try rw [List.length_drop, List.length_take, Nat.min_eq_left (Int.toNat_le.mpr dt)] at hcv31z); have hcv31y := hcv31; (try rw [List.length_take, Nat.min_eq_left (Int.toNat_le.mpr dt)] at hcv31y); have hcv31x := hcv31; (try rw [List.length_take, mM] at hcv31x); have hcv31m := hcv31; (try simp only [Int.reduceToNat, List.length_take] at hcv31m); have hcv31q := fun (q_ : Nat) => Kd.C_string (P := Tryd.prog) (A := A0) (c := c0) Tryd.underlying22 Tryd.underlying5 Tryd.underlying9 (Kd.C_drewN (Kd.C_below HR133.out HB.out) q_); have hcv31qy := hcv31q; (try simp only [List.length_take, Nat.min_eq_left (Int.toNat_le.mpr dt)] at hcv31qy); have hcv31qw := hcv31q; (try simp only [Int.reduceToNat] at hcv31qw); have hcv31qv := hcv31qy; (try simp only [Int.reduceToNat] at hcv31qv); have hcv31qu := hcv31q; (try simp only [Int.reduceToNat, List.length_take] at hcv31qu)))
    refine bodyPost_ret (results_list (rs := [.tmp 2, .tmp 3, .tmp 4, .tmp 5]) rfl (by simp) (.tmp (.tmp (.tmp (.tmp .nil))))) rfl ?_
    exact ⟨eR, bAt HB.out⟩
  ·exact nB H c4
 ·exact nB H c3
def digits_Take.l0 : Nat → Int → Int → Int → List Int → Int → Int → Option (Int × Int × Int)
 | 0, _, _, _, _, _, _ => none
 | k + 1, x2, x3, x4, x13, x14, x15 => if x15 < x14 then (if 0 ≤ x15 then (if x15 < (x13.length : Int) then (if (wrap64 ((wrap64 (x2 * 10)) + (((rd x13 x15) - 48) % 256))) > 2147483647 then (some (0, x3, 4)) else (digits_Take.l0 k (wrap64 ((wrap64 (x2 * 10)) + (((rd x13 x15) - 48) % 256))) x3 x4 x13 x14 (wrap64 (x15 + 1)))) else (none)) else (none)) else (some (x2, x3, x4))
def digits_Take.f (k : Nat) (l0 : List Int) : Option (Int × Int × Int) := (class_Run.f k l0 4).bind fun t138 => (if t138 = 0 then (some (0, t138, 2)) else (if 0 ≤ t138 then (if t138 ≤ (l0.length : Int) then (digits_Take.l0 k 0 t138 0 (l0.take (t138 : Int).toNat) ((l0.take (t138 : Int).toNat).length : Int) 0) else (none)) else (none)))
theorem digits_Take.mono_l : ∀ k, (∀ y0 y1 y2 y3 y4 y5, LeO (digits_Take.l0 k y0 y1 y2 y3 y4 y5) (digits_Take.l0 (k + 1) y0 y1 y2 y3 y4 y5))
 | 0 => fun _ _ _ _ _ _ r h => by simp [digits_Take.l0] at h
 | k + 1 => by
  have ih0 := digits_Take.mono_l k
  ·intro y0 y1 y2 y3 y4 y5
   unfold digits_Take.l0
   repeat' with_reducible first | exact ih0 _ _ _ _ _ _ | exact class_Run.mono _ _ _ | exact LeO.refl _ | exact LeO.none _ | refine LeO.ite ?_ ?_ | refine LeO.bind ?_ (fun _ => ?_)
theorem digits_Take.mono : ∀ a0 k, LeO (digits_Take.f k a0) (digits_Take.f (k + 1) a0) := by
 intro a0 k
 have ih0 := digits_Take.mono_l k
 unfold digits_Take.f
 repeat' with_reducible first | exact ih0 _ _ _ _ _ _ | exact class_Run.mono _ _ _ | exact LeO.refl _ | exact LeO.none _ | refine LeO.ite ?_ ?_ | refine LeO.bind ?_ (fun _ => ?_)
set_option maxHeartbeats 8000000 in
set_option maxRecDepth 100000 in
theorem digits_Take.calls (k : Nat) (A0 : Option Addr) (c0 : Nat) (l0 : List Int) (r1 : Int) (r2 : Int) (r3 : Int) (w : World) (hG : Gl w) (hr0 : Kd.C (Kd.int .u8) w A0 l0.length l0) (hc0 : l0.length ≤ c0) (h : digits_Take.f k l0 = some (r1, r2, r3)) :
  Calls Tryd.prog 80 #[.slice A0 l0.length c0] w fun e w' => e = .returned (.tuple #[.int .i64 r1, .int .i64 r2, .int .i64 r3]) ∧ Below w.heap.size w w' := by
 have HR0 := Aside0.mk hr0
 have HC0 := Aside0.mk hc0
 clear hr0 hc0
 have HB := Aside0.mk (Below.refl w.heap.size w)
 have HG := Aside0.mk hG
 clear hG
 have H : ((class_Run.f k l0 4).bind fun t138 => (if t138 = 0 then (some (0, t138, 2)) else (if 0 ≤ t138 then (if t138 ≤ (l0.length : Int) then (digits_Take.l0 k 0 t138 0 (l0.take (t138 : Int).toNat) ((l0.take (t138 : Int).toNat).length : Int) 0) else (none)) else (none)))) = some (r1, r2, r3) := h
 clear h
 obtain ⟨t138, A2, H⟩ := bE H
 by_cases c3 : t138 = 0
 ·rw [if_pos c3] at H
  obtain ⟨c3b0, c3b1⟩ := eqB c3
  clear c3
  simp only [Option.some.injEq, Prod.mk.injEq] at H
  obtain ⟨rfl, rfl, rfl⟩ := H
  go_enter Tryd.func80, Tryd.ntmps80
  go_wp2_with (first | ((with_reducible refine gate_callee (f := 50) rfl ?_); refine gL (some 8) Tryd.func50 #[.slice A0 l0.length c0, .int .i64 4] rfl gA ?_; (with_reducible refine (class_Run.calls k _ _ l0 4 t138 _ ?side1 ?side2 ?side3 A2.out).mono ?_); (case side1 => exact Gl.below HG.out (bAt HB.out)); (case side2 => exact CAt HR0.out); (case side3 => exact HC0.out); rintro e w4 ⟨rfl, hb⟩; refine ⟨_, rfl, ?_⟩; replace HB := Aside0.mk (below_step (bAt HB.out) hb); (try clear hb); (try clear hb2); (try clear hk); (try clear hi)))
  go_ret3
  exact ⟨eR, bAt HB.out⟩
 ·rw [if_neg c3] at H
  obtain ⟨c3b0, c3b1⟩ := neB c3
  by_cases c5 : 0 ≤ t138
  ·rw [if_pos c5] at H
   have c5b0 := eq_true c5
   have c5b1 := decide_eq_true c5
   clear c5
   by_cases c6 : t138 ≤ (l0.length : Int)
   ·rw [if_pos c6] at H
    have c6b0 := eq_true c6
    have c6b1 := decide_eq_true c6
    clear c6
    have H' := Aside0.mk H
    clear H
    go_enter Tryd.func80, Tryd.ntmps80
    go_wp2_with (first | ((with_reducible refine gate_callee (f := 50) rfl ?_); refine gL (some 8) Tryd.func50 #[.slice A0 l0.length c0, .int .i64 4] rfl gA ?_; (with_reducible refine (class_Run.calls k _ _ l0 4 t138 _ ?side1 ?side2 ?side3 A2.out).mono ?_); (case side1 => exact Gl.below HG.out (bAt HB.out)); (case side2 => exact CAt HR0.out); (case side3 => exact HC0.out); rintro e w7 ⟨rfl, hb⟩; refine ⟨_, rfl, ?_⟩; replace HB := Aside0.mk (below_step (bAt HB.out) hb); (try clear hb); (try clear hb2); (try clear hk); (try clear hi); obtain ⟨i08, hi08, _, hsz8, _⟩ := info_parts info5; obtain ⟨hcut8, hA8, hC8⟩ := print_take_of (P := Tryd.prog) (Value.int .u8) 0 22 5 .i64 Tryd.underlying22 hi08 hsz8 A0 c0 l0 t138 dt dt HC0.out; have HR139 := Aside0.mk (Kd.C_of_reads (h1 := fun _ => rfl) (hA8 _ (Kd.reads_of_C HR0.out))); have HC139 := Aside0.mk hC8; clear hA8 hC8 hi08 hsz8))
    obtain ⟨mz1, hmz1⟩ : ∃ mz_ : Int, (max t138 0 : Int) = mz_ := ⟨_, rfl⟩
    (try rw [hmz1])
    have HMZ1 := Aside0.mk (show ((l0.take (t138 : Int).toNat).length : Int) = mz1 from by have z1_ : t138 ≤ (l0.length : Int) := (by first | exact dt | exact of_eq_true (by assumption)); have z0_ : 0 ≤ t138 := (by first | exact dt | exact of_eq_true (by assumption)); rw [List.length_take, ← hmz1]; omega)
    go_loopg [2, 4, 15] k (fun kq v2 v4 v15 w' => ∃ (x2_1 : Int) (x4_1 : Int) (x15_1 : Int), v2 = .int .i64 x2_1 ∧ v4 = .int .i64 x4_1 ∧ v15 = .int .i64 x15_1 ∧ Aside0 (digits_Take.l0 kq x2_1 t138 x4_1 (l0.take (t138 : Int).toNat) ((l0.take (t138 : Int).toNat).length : Int) x15_1 = some (r1, r2, r3)) ∧ Aside0 (kq ≤ k) ∧ Aside0 (Below w.heap.size w w'))
    case atStart => exact ⟨(0), (0), (0), sR, sR, sR, H', ⟨Nat.le_refl _⟩, ⟨bAt HB.out⟩⟩
    case round =>
     clear H'
     try clear p2
     try clear c3
     try clear c3b0 c3b1
     try clear c5
     try clear c5b0 c5b1
     try clear c6
     try clear c6b0 c6b1
     try clear c8
     obtain ⟨x2_1, x4_1, x15_1, rfl, rfl, rfl, HA, HK1, HB⟩ := hrel
     cases gk with
     | zero => exact absurd HA.out (by simp [digits_Take.l0])
     | succ k1 =>
      have H := HA.out
      clear HA
      simp only [digits_Take.l0] at H
      by_cases c9 : x15_1 < ((l0.take (t138 : Int).toNat).length : Int)
      ·rw [if_pos c9] at H
       have c9b0 := decide_eq_true c9
       (try (have c9b0z := c9b0; rw [HMZ1.out] at c9b0z))
       clear c9
       by_cases c10 : 0 ≤ x15_1
       ·rw [if_pos c10] at H
        have c10b0 := decide_eq_true c10
        clear c10
        by_cases c11 : x15_1 < ((l0.take (t138 : Int).toNat).length : Int)
        ·rw [if_pos c11] at H
         have c11b0 := decide_eq_true c11
         (try (have c11b0z := c11b0; rw [HMZ1.out] at c11b0z))
         clear c11
         by_cases c12 : (wrap64 ((wrap64 (x2_1 * 10)) + (((rd (l0.take (t138 : Int).toNat) x15_1) - 48) % 256))) > 2147483647
         ·rw [if_pos c12] at H
          have c12b0 : decide (2147483647 < (wrap64 ((wrap64 (x2_1 * 10)) + (((rd (l0.take (t138 : Int).toNat) x15_1) - 48) % 256)))) = true := decide_eq_true c12
          clear c12
          simp only [Option.some.injEq, Prod.mk.injEq] at H
          obtain ⟨rfl, rfl, rfl⟩ := H
          have p140 : 0 ≤ (x15_1 : Int) := dt
          have q140 : x15_1 < ((l0.take (t138 : Int).toNat).length : Int) := dt
          (try (have q140z := q140; rw [HMZ1.out] at q140z; replace q140z := eq_true q140z))
          obtain ⟨ad140, e140, hx140_0⟩ := Kd.at_int HR139.out x15_1 p140 q140
          cases e140
          replace hx140_0 := pw_cell_below HB.out hx140_0
          replace p140 := eq_true p140
          replace q140 := eq_true q140
          go_wp2
          go_ret3
          exact ⟨eR, bAt HB.out⟩
         ·rw [if_neg c12] at H
          have c12b0 : decide (2147483647 < (wrap64 ((wrap64 (x2_1 * 10)) + (((rd (l0.take (t138 : Int).toNat) x15_1) - 48) % 256)))) = false := decide_eq_false c12
          clear c12
          have H' := Aside0.mk H
          clear H
          have p140 : 0 ≤ (x15_1 : Int) := dt
          have q140 : x15_1 < ((l0.take (t138 : Int).toNat).length : Int) := dt
          (try (have q140z := q140; rw [HMZ1.out] at q140z; replace q140z := eq_true q140z))
          obtain ⟨ad140, e140, hx140_0⟩ := Kd.at_int HR139.out x15_1 p140 q140
          cases e140
          replace hx140_0 := pw_cell_below HB.out hx140_0
          replace p140 := eq_true p140
          replace q140 := eq_true q140
          go_wp2
          go_roundg k1
          case measure => have := HK1.out; omega
          case rel => exact ⟨(wrap64 ((wrap64 (x2_1 * 10)) + (((rd (l0.take (t138 : Int).toNat) x15_1) - 48) % 256))), (x4_1), (wrap64 (x15_1 + 1)), sR, sR, sR, H', ⟨by have := HK1.out; omega⟩, ⟨bAt HB.out⟩⟩
        ·exact nB H c11
       ·exact nB H c10
      ·rw [if_neg c9] at H
       have c9b0 := decide_eq_false c9
       (try (have c9b0z := c9b0; rw [HMZ1.out] at c9b0z))
       clear c9
       simp only [Option.some.injEq, Prod.mk.injEq] at H
       obtain ⟨rfl, rfl, rfl⟩ := H
       go_wp2
       go_ret3
       exact ⟨eR, bAt HB.out⟩
   ·exact nB H c6
  ·exact nB H c5
def token_number.f (k : Nat) (l0 : List Int) : Option (Int × Int × ByteArray × Int) := (digits_Take.f k l0).bind fun bt141 => (if 0 ≤ bt141.2.1 then (if bt141.2.1 ≤ (l0.length : Int) then (some (4, bt141.2.1, strOfNums (l0.take (bt141.2.1 : Int).toNat), bt141.2.2)) else (none)) else (none))
theorem token_number.mono : ∀ a0 k, LeO (token_number.f k a0) (token_number.f (k + 1) a0) := by
 intro a0 k
 unfold token_number.f
 repeat' with_reducible first | exact digits_Take.mono _ _ | exact LeO.refl _ | exact LeO.none _ | refine LeO.ite ?_ ?_ | refine LeO.bind ?_ (fun _ => ?_)
set_option maxHeartbeats 8000000 in
set_option maxRecDepth 100000 in
theorem token_number.calls (k : Nat) (A0 : Option Addr) (c0 : Nat) (l0 : List Int) (r1 : Int) (r2 : Int) (r3 : ByteArray) (r4 : Int) (w : World) (hG : Gl w) (hr0 : Kd.C (Kd.int .u8) w A0 l0.length l0) (hc0 : l0.length ≤ c0) (h : token_number.f k l0 = some (r1, r2, r3, r4)) :
  Calls Tryd.prog 57 #[.slice A0 l0.length c0] w fun e w' => e = .returned (.tuple #[.int .i64 r1, .int .i64 r2, .string r3, .int .i64 r4]) ∧ Below w.heap.size w w' := by
 have HR0 := Aside0.mk hr0
 have HC0 := Aside0.mk hc0
 clear hr0 hc0
 have HB := Aside0.mk (Below.refl w.heap.size w)
 have HG := Aside0.mk hG
 clear hG
 have H : ((digits_Take.f k l0).bind fun bt141 => (if 0 ≤ bt141.2.1 then (if bt141.2.1 ≤ (l0.length : Int) then (some (4, bt141.2.1, strOfNums (l0.take (bt141.2.1 : Int).toNat), bt141.2.2)) else (none)) else (none))) = some (r1, r2, r3, r4) := h
 clear h
 obtain ⟨⟨t141, t142, t143⟩, A2, H⟩ := bE H
 replace H : (if 0 ≤ t142 then (if t142 ≤ (l0.length : Int) then (some (4, t142, strOfNums (l0.take (t142 : Int).toNat), t143)) else (none)) else (none)) = some (r1, r2, r3, r4) := H
 by_cases c3 : 0 ≤ t142
 ·rw [if_pos c3] at H
  have c3b0 := eq_true c3
  have c3b1 := decide_eq_true c3
  clear c3
  by_cases c4 : t142 ≤ (l0.length : Int)
  ·rw [if_pos c4] at H
   have c4b0 := eq_true c4
   have c4b1 := decide_eq_true c4
   clear c4
   simp only [Option.some.injEq, Prod.mk.injEq] at H
   obtain ⟨rfl, rfl, rfl, rfl⟩ := H
   go_enter Tryd.func57, Tryd.ntmps57
   go_wp2_with (first | (go_at_call 80; (with_reducible refine (digits_Take.calls k _ _ l0 t141 t142 t143 _ ?side1 ?side2 ?side3 A2.out).mono ?_); (case side1 => exact Gl.below HG.out (bAt HB.out)); (case side2 => exact CAt HR0.out); (case side3 => exact HC0.out); rintro e w5 ⟨rfl, hb⟩; replace HB := Aside0.mk (below_step (bAt HB.out) hb); (try clear hb); (try clear hb2); (try clear hk); (try clear hi); obtain ⟨i06, hi06, _, hsz6, _⟩ := info_parts info5; obtain ⟨hcut6, hA6, hC6⟩ := print_take_of (P := Tryd.prog) (Value.int .u8) 0 22 5 .i64 Tryd.underlying22 hi06 hsz6 A0 c0 l0 t142 dt dt HC0.out; have HR144 := Aside0.mk (Kd.C_of_reads (h1 := fun _ => rfl) (hA6 _ (Kd.reads_of_C HR0.out))); have HC144 := Aside0.mk hC6; clear hA6 hC6 hi06 hsz6; have hcv7 := Kd.C_string (P := Tryd.prog) (A := A0) (c := c0) Tryd.underlying22 Tryd.underlying5 Tryd.underlying9 (Kd.C_below HR144.out HB.out); have hcv7z := hcv7; (try rw [List.length_drop, List.length_take, Nat.min_eq_left (Int.toNat_le.mpr dt)] at hcv7z); have hcv7y := hcv7; (try rw [List.length_take, Nat.min_eq_left (Int.toNat_le.mpr dt)] at hcv7y); have hcv7x := hcv7; (try rw [List.length_take, mM] at hcv7x); have hcv7m := hcv7; (try simp only [Int.reduceToNat, List.length_take] at hcv7m); have hcv7q := fun (q_ : Nat) => Kd.C_string (P := Tryd.prog) (A := A0) (c := c0) Tryd.underlying22 Tryd.underlying5 Tryd.underlying9 (Kd.C_drewN (Kd.C_below HR144.out HB.out) q_); have hcv7qy := hcv7q; (try simp only [List.length_take, Nat.min_eq_left (Int.toNat_le.mpr dt)] at hcv7qy); have hcv7qw := hcv7q; (try simp only [Int.reduceToNat] at hcv7qw); have hcv7qv := hcv7qy; (try simp only [Int.reduceToNat] at hcv7qv); have hcv7qu := hcv7q; (try simp only [Int.reduceToNat, List.length_take] at hcv7qu)))
   repeat (go_quiet (first | (go_at_call 80; (with_reducible refine (digits_Take.calls k _ _ l0 t141 t142 t143 _ ?side1 ?side2 ?side3 A2.out).mono ?_); (case side1 => exact Gl.below HG.out (bAt HB.out)); (case side2 => exact CAt HR0.out); (case side3 => exact HC0.out); rintro e w5 ⟨rfl, hb⟩; replace HB := Aside0.mk (below_step (bAt HB.out) hb); (try clear hb); (try clear hb2); (try clear hk); (try clear hi); obtain ⟨i06, hi06, _, hsz6, _⟩ := info_parts info5; obtain ⟨hcut6, hA6, hC6⟩ := print_take_of (P := Tryd.prog) (Value.int .u8) 0 22 5 .i64 Tryd.underlying22 hi06 hsz6 A0 c0 l0 t142 dt dt HC0.out; have HR144 := Aside0.mk (Kd.C_of_reads (h1 := fun _ => rfl) (hA6 _ (Kd.reads_of_C HR0.out))); have HC144 := Aside0.mk hC6; clear hA6 hC6 hi06 hsz6; have hcv7 := Kd.C_string (P := Tryd.prog) (A := A0) (c := c0) Tryd.underlying22 Tryd.underlying5 Tryd.underlying9 (Kd.C_below HR144.out HB.out); have hcv7z := hcv7; (try rw [List.length_drop, List.length_take, Nat.min_eq_left (Int.toNat_le.mpr dt)] at hcv7z); have hcv7y := hcv7; (try rw [List.length_take, Nat.min_eq_left (Int.toNat_le.mpr dt)] at hcv7y); have hcv7x := hcv7; (try rw [List.length_take, mM] at hcv7x); have hcv7m := hcv7; (try simp only [Int.reduceToNat, List.length_take] at hcv7m); have hcv7q := fun (q_ : Nat) => Kd.C_string (P := Tryd.prog) (A := A0) (c := c0) Tryd.underlying22 Tryd.underlying5 Tryd.underlying9 (Kd.C_drewN (Kd.C_below HR144.out HB.out) q_); have hcv7qy := hcv7q; (try simp only [List.length_take, Nat.min_eq_left (Int.toNat_le.mpr dt)] at hcv7qy); have hcv7qw := hcv7q; (try simp only [Int.reduceToNat] at hcv7qw); have hcv7qv := hcv7qy; (try simp only [Int.reduceToNat] at hcv7qv); have hcv7qu := hcv7q; (try simp only [Int.reduceToNat, List.length_take] at hcv7qu))); try go_wp2_with (first | (go_at_call 80; (with_reducible refine (digits_Take.calls k _ _ l0 t141 t142 t143 _ ?side1 ?side2 ?side3 A2.out).mono ?_); (case side1 => exact Gl.below HG.out (bAt HB.out)); (case side2 => exact CAt HR0.out); (case side3 => exact HC0.out); rintro e w5 ⟨rfl, hb⟩; replace HB := Aside0.mk (below_step (bAt HB.out) hb); (try clear hb); (try clear hb2); (try clear hk); (try clear hi); obtain ⟨i06, hi06, _, hsz6, _⟩ := info_parts info5; obtain ⟨hcut6, hA6, hC6⟩ := print_take_of (P := Tryd.prog) (Value.int .u8) 0 22 5 .i64 Tryd.underlying22 hi06 hsz6 A0 c0 l0 t142 dt dt HC0.out; have HR144 := Aside0.mk (Kd.C_of_reads (h1 := fun _ => rfl) (hA6 _ (Kd.reads_of_C HR0.out))); have HC144 := Aside0.mk hC6; clear hA6 hC6 hi06 hsz6; have hcv7 := Kd.C_string (P := Tryd.prog) (A := A0) (c := c0) Tryd.underlying22 Tryd.underlying5 Tryd.underlying9 (Kd.C_below HR144.out HB.out); have hcv7z := hcv7; (try rw [List.length_drop, List.length_take, Nat.min_eq_left (Int.toNat_le.mpr dt)] at hcv7z); have hcv7y := hcv7; (try rw [List.length_take, Nat.min_eq_left (Int.toNat_le.mpr dt)] at hcv7y); have hcv7x := hcv7; (try rw [List.length_take, mM] at hcv7x); have hcv7m := hcv7; (try simp only [Int.reduceToNat, List.length_take] at hcv7m); have hcv7q := fun (q_ : Nat) => Kd.C_string (P := Tryd.prog) (A := A0) (c := c0) Tryd.underlying22 Tryd.underlying5 Tryd.underlying9 (Kd.C_drewN (Kd.C_below HR144.out HB.out) q_); have hcv7qy := hcv7q; (try simp only [List.length_take, Nat.min_eq_left (Int.toNat_le.mpr dt)] at hcv7qy); have hcv7qw := hcv7q; (try simp only [Int.reduceToNat] at hcv7qw); have hcv7qv := hcv7qy; (try simp only [Int.reduceToNat] at hcv7qv); have hcv7qu := hcv7q; (try simp only [Int.reduceToNat, List.length_take] at hcv7qu))))
   refine bodyPost_ret (results_list (rs := [.tmp 2, .tmp 3, .tmp 4, .tmp 5]) rfl (by simp) (.tmp (.tmp (.tmp (.tmp .nil))))) rfl ?_
   exact ⟨eR, bAt HB.out⟩
  ·exact nB H c4
 ·exact nB H c3
end Go.Proofs.YtpkklbdclghcfaaDoor.P
