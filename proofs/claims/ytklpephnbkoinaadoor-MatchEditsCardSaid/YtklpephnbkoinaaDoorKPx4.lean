/- Part of the proof: what the theorem needs of this text. -/
import Derived.Test.YtklpephnbkoinaaDoorKHG
import Derived.Test.YtklpephnbkoinaaDoorKPx0
import Derived.Test.YtklpephnbkoinaaDoorKPx3
namespace Go.Proofs.YtklpephnbkoinaaDoor.P
open Go.RowKit Go.Proofs.YtklpephnbkoinaaDoorW.PrintWords Go.Proofs.YtklpephnbkoinaaDoorW.PrintLast Go.Proofs.YtklpephnbkoinaaDoorW.PrintMore
attribute [local go_sem] max2_int min2_int max_two min_two max_three min_three max_four min_four   -- for this text's walks alone
set_option linter.unusedVariables false
set_option linter.unusedSimpArgs false
def token_name.l0 : Nat → List Int → Int → Option (Int)
 | 0, _, _ => none
 | k + 1, x0, x3 => if x3 < (x0.length : Int) then (if 0 ≤ x3 then (if x3 ≤ (x0.length : Int) then ((utf_Take.f k (x0.drop (x3 : Int).toNat)).bind fun bt167 => (if bt167.2 = true then (if bt167.1 = 1 then ((class_Name.f (rd x0 x3)).bind fun t170 => (if t170 = true then (token_name.l0 k x0 (wrap64 (x3 + bt167.1))) else (some x3))) else (token_name.l0 k x0 (wrap64 (x3 + bt167.1)))) else (some x3))) else (none)) else (none)) else (some (x0.length : Int))
def token_name.f (k : Nat) (l0 : List Int) : Option (Int) := token_name.l0 k l0 0
theorem token_name.mono_l : ∀ k, (∀ y0 y1, LeO (token_name.l0 k y0 y1) (token_name.l0 (k + 1) y0 y1))
 | 0 => fun _ _ r h => by simp [token_name.l0] at h
 | k + 1 => by
  have ih0 := token_name.mono_l k
  ·intro y0 y1
   unfold token_name.l0
   repeat' with_reducible first | exact ih0 _ _ | exact utf_Take.mono _ _ | exact LeO.refl _ | exact LeO.none _ | refine LeO.ite ?_ ?_ | refine LeO.bind ?_ (fun _ => ?_)
theorem token_name.mono : ∀ a0 k, LeO (token_name.f k a0) (token_name.f (k + 1) a0) := by
 intro a0 k
 have ih0 := token_name.mono_l k
 unfold token_name.f
 repeat' with_reducible first | exact ih0 _ _ | exact utf_Take.mono _ _ | exact LeO.refl _ | exact LeO.none _ | refine LeO.ite ?_ ?_ | refine LeO.bind ?_ (fun _ => ?_)
set_option maxHeartbeats 8000000 in
set_option maxRecDepth 100000 in
theorem token_name.calls (k : Nat) (A0 : Option Addr) (c0 : Nat) (l0 : List Int) (r : Int) (w : World) (hG : Gl w) (hr0 : Kd.C (Kd.int .u8) w A0 l0.length l0) (hc0 : l0.length ≤ c0) (h : token_name.f k l0 = some r) :
  Calls Tryd.prog 38 #[.slice A0 l0.length c0] w fun e w' => e = .returned (.int .i64 r) ∧ Below w.heap.size w w' := by
 have HR0 := Aside0.mk hr0
 have HC0 := Aside0.mk hc0
 clear hr0 hc0
 have HB := Aside0.mk (Below.refl w.heap.size w)
 have HG := Aside0.mk hG
 clear hG
 have H : (token_name.l0 k l0 0) = some r := h
 clear h
 have H' := Aside0.mk H
 clear H
 go_enter Tryd.func38, Tryd.ntmps38
 go_wp2
 go_loopg [3] k (fun kq v3 w' => ∃ (x3_1 : Int), v3 = .int .i64 x3_1 ∧ Aside0 (token_name.l0 kq l0 x3_1 = some r) ∧ Aside0 (kq ≤ k) ∧ Aside0 (Below w.heap.size w w'))
 case atStart => exact ⟨(0), sR, H', ⟨Nat.le_refl _⟩, ⟨bAt HB.out⟩⟩
 case round =>
  clear H'
  obtain ⟨x3_1, rfl, HA, HK1, HB⟩ := hrel
  cases gk with
  | zero => exact absurd HA.out (by simp [token_name.l0])
  | succ k1 =>
   have H := HA.out
   clear HA
   simp only [token_name.l0] at H
   by_cases c2 : x3_1 < (l0.length : Int)
   ·rw [if_pos c2] at H
    have c2b0 := decide_eq_true c2
    clear c2
    by_cases c3 : 0 ≤ x3_1
    ·rw [if_pos c3] at H
     have c3b0 := eq_true c3
     have c3b1 := decide_eq_true c3
     clear c3
     by_cases c4 : x3_1 ≤ (l0.length : Int)
     ·rw [if_pos c4] at H
      have c4b0 := eq_true c4
      have c4b1 := decide_eq_true c4
      clear c4
      obtain ⟨⟨t167, t168⟩, A5, H⟩ := bE H
      replace H : (if t168 = true then (if t167 = 1 then ((class_Name.f (rd l0 x3_1)).bind fun t170 => (if t170 = true then (token_name.l0 k1 l0 (wrap64 (x3_1 + t167))) else (some x3_1))) else (token_name.l0 k1 l0 (wrap64 (x3_1 + t167)))) else (some x3_1)) = some r := H
      by_cases c6 : t168 = true
      ·subst c6
       replace H := tP H
       by_cases c7 : t167 = 1
       ·rw [if_pos c7] at H
        obtain ⟨c7b0, c7b1⟩ := eqB c7
        clear c7
        obtain ⟨t170, A8, H⟩ := bE H
        by_cases c9 : t170 = true
        ·subst c9
         replace H := tP H
         have H' := Aside0.mk H
         clear H
         obtain ⟨i010, hi010, _, hsz10, _⟩ := info_parts info5
         obtain ⟨A10, hcut10, hA10, hC10⟩ := print_drop_of (P := Tryd.prog) (Value.int .u8) 0 22 5 .i64 Tryd.underlying22 hi010 hsz10 A0 c0 l0 x3_1 dt dt HC0.out
         have HR166 := Aside0.mk (Kd.C_of_reads (h1 := fun _ => rfl) (hA10 _ (Kd.reads_of_C HR0.out)))
         have HC166 := Aside0.mk hC10
         clear hA10 hC10 hi010 hsz10
         go_wp2_with (first | ((with_reducible refine gate_callee (f := 39) rfl ?_); refine gL (some 14) Tryd.func39 #[.slice A10 (l0.drop (x3_1 : Int).toNat).length (c0 - x3_1.toNat)] rfl (gD l0 (x3_1 : Int).toNat) ?_; (with_reducible refine (utf_Take.calls k1 _ _ (l0.drop (x3_1 : Int).toNat) t167 true _ ?side1 ?side2 A5.out).mono ?_); (case side1 => exact CAt (Kd.C_below HR166.out HB.out)); (case side2 => exact HC166.out); rintro e w11 ⟨rfl, hb⟩; refine ⟨_, rfl, ?_⟩; replace HB := Aside0.mk (below_step (bAt HB.out) hb); (try clear hb); (try clear hb2); (try clear hk); (try clear hi); have p169 : 0 ≤ (x3_1 : Int) := dt; have q169 : x3_1 < (l0.length : Int) := dt; obtain ⟨ad169, e169, hx169_0⟩ := Kd.at_int HR0.out x3_1 p169 q169; cases e169; replace hx169_0 := pw_cell_below HB.out hx169_0; replace p169 := eq_true p169; replace q169 := eq_true q169) | ((with_reducible refine gate_callee (f := 43) rfl ?_); (try (refine gate_guard (by rfl) ?_; dsimp only)); refine gL (some 27) Tryd.func43 #[.int .u8 (rd l0 x3_1)] rfl gA ?_; (with_reducible refine (class_Name.calls (rd l0 x3_1) true _ ?side1 A8.out).mono ?_); (case side1 => exact Gl.below HG.out (bAt HB.out)); rintro e w12 ⟨rfl, hb⟩; refine ⟨_, rfl, ?_⟩; replace HB := Aside0.mk (below_step (bAt HB.out) hb); (try clear hb); (try clear hb2); (try clear hk); (try clear hi)))
         go_roundg k1
         case measure => have := HK1.out; omega
         case rel => exact ⟨(wrap64 (x3_1 + t167)), sR, H', ⟨by have := HK1.out; omega⟩, ⟨bAt HB.out⟩⟩
        ·replace c9 := Bool.eq_false_iff.mpr c9
         subst c9
         replace H := fP H
         obtain rfl := Option.some.inj H
         obtain ⟨i013, hi013, _, hsz13, _⟩ := info_parts info5
         obtain ⟨A13, hcut13, hA13, hC13⟩ := print_drop_of (P := Tryd.prog) (Value.int .u8) 0 22 5 .i64 Tryd.underlying22 hi013 hsz13 A0 c0 l0 x3_1 dt dt HC0.out
         have HR166 := Aside0.mk (Kd.C_of_reads (h1 := fun _ => rfl) (hA13 _ (Kd.reads_of_C HR0.out)))
         have HC166 := Aside0.mk hC13
         clear hA13 hC13 hi013 hsz13
         go_wp2_with (first | ((with_reducible refine gate_callee (f := 39) rfl ?_); refine gL (some 14) Tryd.func39 #[.slice A13 (l0.drop (x3_1 : Int).toNat).length (c0 - x3_1.toNat)] rfl (gD l0 (x3_1 : Int).toNat) ?_; (with_reducible refine (utf_Take.calls k1 _ _ (l0.drop (x3_1 : Int).toNat) t167 true _ ?side1 ?side2 A5.out).mono ?_); (case side1 => exact CAt (Kd.C_below HR166.out HB.out)); (case side2 => exact HC166.out); rintro e w14 ⟨rfl, hb⟩; refine ⟨_, rfl, ?_⟩; replace HB := Aside0.mk (below_step (bAt HB.out) hb); (try clear hb); (try clear hb2); (try clear hk); (try clear hi); have p169 : 0 ≤ (x3_1 : Int) := dt; have q169 : x3_1 < (l0.length : Int) := dt; obtain ⟨ad169, e169, hx169_0⟩ := Kd.at_int HR0.out x3_1 p169 q169; cases e169; replace hx169_0 := pw_cell_below HB.out hx169_0; replace p169 := eq_true p169; replace q169 := eq_true q169) | ((with_reducible refine gate_callee (f := 43) rfl ?_); (try (refine gate_guard (by rfl) ?_; dsimp only)); refine gL (some 27) Tryd.func43 #[.int .u8 (rd l0 x3_1)] rfl gA ?_; (with_reducible refine (class_Name.calls (rd l0 x3_1) false _ ?side1 A8.out).mono ?_); (case side1 => exact Gl.below HG.out (bAt HB.out)); rintro e w15 ⟨rfl, hb⟩; refine ⟨_, rfl, ?_⟩; replace HB := Aside0.mk (below_step (bAt HB.out) hb); (try clear hb); (try clear hb2); (try clear hk); (try clear hi)))
         go_ret
         exact ⟨eR, bAt HB.out⟩
       ·rw [if_neg c7] at H
        obtain ⟨c7b0, c7b1⟩ := neB c7
        have H' := Aside0.mk H
        clear H
        obtain ⟨i016, hi016, _, hsz16, _⟩ := info_parts info5
        obtain ⟨A16, hcut16, hA16, hC16⟩ := print_drop_of (P := Tryd.prog) (Value.int .u8) 0 22 5 .i64 Tryd.underlying22 hi016 hsz16 A0 c0 l0 x3_1 dt dt HC0.out
        have HR166 := Aside0.mk (Kd.C_of_reads (h1 := fun _ => rfl) (hA16 _ (Kd.reads_of_C HR0.out)))
        have HC166 := Aside0.mk hC16
        clear hA16 hC16 hi016 hsz16
        go_wp2_with (first | ((with_reducible refine gate_callee (f := 39) rfl ?_); refine gL (some 14) Tryd.func39 #[.slice A16 (l0.drop (x3_1 : Int).toNat).length (c0 - x3_1.toNat)] rfl (gD l0 (x3_1 : Int).toNat) ?_; (with_reducible refine (utf_Take.calls k1 _ _ (l0.drop (x3_1 : Int).toNat) t167 true _ ?side1 ?side2 A5.out).mono ?_); (case side1 => exact CAt (Kd.C_below HR166.out HB.out)); (case side2 => exact HC166.out); rintro e w17 ⟨rfl, hb⟩; refine ⟨_, rfl, ?_⟩; replace HB := Aside0.mk (below_step (bAt HB.out) hb); (try clear hb); (try clear hb2); (try clear hk); (try clear hi)))
        go_roundg k1
        case measure => have := HK1.out; omega
        case rel => exact ⟨(wrap64 (x3_1 + t167)), sR, H', ⟨by have := HK1.out; omega⟩, ⟨bAt HB.out⟩⟩
      ·replace c6 := Bool.eq_false_iff.mpr c6
       subst c6
       replace H := fP H
       obtain rfl := Option.some.inj H
       obtain ⟨i018, hi018, _, hsz18, _⟩ := info_parts info5
       obtain ⟨A18, hcut18, hA18, hC18⟩ := print_drop_of (P := Tryd.prog) (Value.int .u8) 0 22 5 .i64 Tryd.underlying22 hi018 hsz18 A0 c0 l0 x3_1 dt dt HC0.out
       have HR166 := Aside0.mk (Kd.C_of_reads (h1 := fun _ => rfl) (hA18 _ (Kd.reads_of_C HR0.out)))
       have HC166 := Aside0.mk hC18
       clear hA18 hC18 hi018 hsz18
       go_wp2_with (first | ((with_reducible refine gate_callee (f := 39) rfl ?_); refine gL (some 14) Tryd.func39 #[.slice A18 (l0.drop (x3_1 : Int).toNat).length (c0 - x3_1.toNat)] rfl (gD l0 (x3_1 : Int).toNat) ?_; (with_reducible refine (utf_Take.calls k1 _ _ (l0.drop (x3_1 : Int).toNat) t167 false _ ?side1 ?side2 A5.out).mono ?_); (case side1 => exact CAt (Kd.C_below HR166.out HB.out)); (case side2 => exact HC166.out); rintro e w19 ⟨rfl, hb⟩; refine ⟨_, rfl, ?_⟩; replace HB := Aside0.mk (below_step (bAt HB.out) hb); (try clear hb); (try clear hb2); (try clear hk); (try clear hi)))
       go_ret
       exact ⟨eR, bAt HB.out⟩
     ·exact nB H c4
    ·exact nB H c3
   ·rw [if_neg c2] at H
    have c2b0 := decide_eq_false c2
    clear c2
    obtain rfl := Option.some.inj H
    go_wp2
    go_ret
    exact ⟨eR, bAt HB.out⟩
def class_Run.l0 : Nat → List Int → Int → List Int → Int → Int → Option (Int)
 | 0, _, _, _, _, _ => none
 | k + 1, x0, x1, x7, x8, x9 => if x9 < x8 then (if 0 ≤ x9 then (if x9 < (x7.length : Int) then ((class_Of.f (rd x7 x9)).bind fun t172 => (if t172 = x1 then (class_Run.l0 k x0 x1 x7 x8 (wrap64 (x9 + 1))) else (some x9))) else (none)) else (none)) else (some (x0.length : Int))
def class_Run.f (k : Nat) (l0 : List Int) (a1 : Int) : Option (Int) := class_Run.l0 k l0 a1 l0 (l0.length : Int) 0
theorem class_Run.mono_l : ∀ k, (∀ y0 y1 y2 y3 y4, LeO (class_Run.l0 k y0 y1 y2 y3 y4) (class_Run.l0 (k + 1) y0 y1 y2 y3 y4))
 | 0 => fun _ _ _ _ _ r h => by simp [class_Run.l0] at h
 | k + 1 => by
  have ih0 := class_Run.mono_l k
  ·intro y0 y1 y2 y3 y4
   unfold class_Run.l0
   repeat' with_reducible first | exact ih0 _ _ _ _ _ | exact LeO.refl _ | exact LeO.none _ | refine LeO.ite ?_ ?_ | refine LeO.bind ?_ (fun _ => ?_)
theorem class_Run.mono : ∀ a0 a1 k, LeO (class_Run.f k a0 a1) (class_Run.f (k + 1) a0 a1) := by
 intro a0 a1 k
 have ih0 := class_Run.mono_l k
 unfold class_Run.f
 repeat' with_reducible first | exact ih0 _ _ _ _ _ | exact LeO.refl _ | exact LeO.none _ | refine LeO.ite ?_ ?_ | refine LeO.bind ?_ (fun _ => ?_)
set_option maxHeartbeats 8000000 in
set_option maxRecDepth 100000 in
theorem class_Run.calls (k : Nat) (A0 : Option Addr) (c0 : Nat) (l0 : List Int) (a1 : Int) (r : Int) (w : World) (hG : Gl w) (hr0 : Kd.C (Kd.int .u8) w A0 l0.length l0) (hc0 : l0.length ≤ c0) (h : class_Run.f k l0 a1 = some r) :
  Calls Tryd.prog 26 #[.slice A0 l0.length c0, .int .i64 a1] w fun e w' => e = .returned (.int .i64 r) ∧ Below w.heap.size w w' := by
 have HR0 := Aside0.mk hr0
 have HC0 := Aside0.mk hc0
 clear hr0 hc0
 have HB := Aside0.mk (Below.refl w.heap.size w)
 have HG := Aside0.mk hG
 clear hG
 have H : (class_Run.l0 k l0 a1 l0 (l0.length : Int) 0) = some r := h
 clear h
 have H' := Aside0.mk H
 clear H
 go_enter Tryd.func26, Tryd.ntmps26
 go_wp2
 go_loopg [9] k (fun kq v9 w' => ∃ (x9_1 : Int), v9 = .int .i64 x9_1 ∧ Aside0 (class_Run.l0 kq l0 a1 l0 (l0.length : Int) x9_1 = some r) ∧ Aside0 (kq ≤ k) ∧ Aside0 (Below w.heap.size w w'))
 case atStart => exact ⟨(0), sR, H', ⟨Nat.le_refl _⟩, ⟨bAt HB.out⟩⟩
 case round =>
  clear H'
  try clear c2
  try clear p2
  obtain ⟨x9_1, rfl, HA, HK1, HB⟩ := hrel
  cases gk with
  | zero => exact absurd HA.out (by simp [class_Run.l0])
  | succ k1 =>
   have H := HA.out
   clear HA
   simp only [class_Run.l0] at H
   by_cases c3 : x9_1 < (l0.length : Int)
   ·rw [if_pos c3] at H
    have c3b0 := decide_eq_true c3
    clear c3
    by_cases c4 : 0 ≤ x9_1
    ·rw [if_pos c4] at H
     have c4b0 := decide_eq_true c4
     clear c4
     by_cases c5 : x9_1 < (l0.length : Int)
     ·rw [if_pos c5] at H
      have c5b0 := decide_eq_true c5
      clear c5
      obtain ⟨t172, A6, H⟩ := bE H
      by_cases c7 : t172 = a1
      ·rw [if_pos c7] at H
       obtain ⟨c7b0, c7b1⟩ := eqB c7
       clear c7
       have H' := Aside0.mk H
       clear H
       have p171 : 0 ≤ (x9_1 : Int) := dt
       have q171 : x9_1 < (l0.length : Int) := dt
       obtain ⟨ad171, e171, hx171_0⟩ := Kd.at_int HR0.out x9_1 p171 q171
       cases e171
       replace hx171_0 := pw_cell_below HB.out hx171_0
       replace p171 := eq_true p171
       replace q171 := eq_true q171
       go_wp2_with (first | ((with_reducible refine gate_callee (f := 24) rfl ?_); refine gL (some 15) Tryd.func24 #[.int .u8 (rd l0 x9_1)] rfl gA ?_; (with_reducible refine (class_Of.calls (rd l0 x9_1) t172 _ ?side1 A6.out).mono ?_); (case side1 => exact Gl.below HG.out (bAt HB.out)); rintro e w8 ⟨rfl, hb⟩; refine ⟨_, rfl, ?_⟩; replace HB := Aside0.mk (below_step (bAt HB.out) hb); (try clear hb); (try clear hb2); (try clear hk); (try clear hi)))
       go_roundg k1
       case measure => have := HK1.out; omega
       case rel => exact ⟨(wrap64 (x9_1 + 1)), sR, H', ⟨by have := HK1.out; omega⟩, ⟨bAt HB.out⟩⟩
      ·rw [if_neg c7] at H
       obtain ⟨c7b0, c7b1⟩ := neB c7
       obtain rfl := Option.some.inj H
       have p171 : 0 ≤ (x9_1 : Int) := dt
       have q171 : x9_1 < (l0.length : Int) := dt
       obtain ⟨ad171, e171, hx171_0⟩ := Kd.at_int HR0.out x9_1 p171 q171
       cases e171
       replace hx171_0 := pw_cell_below HB.out hx171_0
       replace p171 := eq_true p171
       replace q171 := eq_true q171
       go_wp2_with (first | ((with_reducible refine gate_callee (f := 24) rfl ?_); refine gL (some 15) Tryd.func24 #[.int .u8 (rd l0 x9_1)] rfl gA ?_; (with_reducible refine (class_Of.calls (rd l0 x9_1) t172 _ ?side1 A6.out).mono ?_); (case side1 => exact Gl.below HG.out (bAt HB.out)); rintro e w9 ⟨rfl, hb⟩; refine ⟨_, rfl, ?_⟩; replace HB := Aside0.mk (below_step (bAt HB.out) hb); (try clear hb); (try clear hb2); (try clear hk); (try clear hi)))
       go_ret
       exact ⟨eR, bAt HB.out⟩
     ·exact nB H c5
    ·exact nB H c4
   ·rw [if_neg c3] at H
    have c3b0 := decide_eq_false c3
    clear c3
    obtain rfl := Option.some.inj H
    go_wp2
    go_ret
    exact ⟨eR, bAt HB.out⟩
def token_symbol.f (k : Nat) (l0 : List Int) : Option (Int × Int × ByteArray × Int) := (class_Run.f k l0 5).bind fun t173 => (if 0 ≤ t173 then (if t173 ≤ (l0.length : Int) then (if (strOfNums (l0.take (t173 : Int).toNat)).toList = ([46] : List UInt8) then (if t173 = (l0.length : Int) then (some (7, t173, strOfNums (l0.take (t173 : Int).toNat), 0)) else (if t173 < (l0.length : Int) then ((class_Of.f (rd l0 t173)).bind fun t176 => (if t176 = 1 then (some (7, t173, strOfNums (l0.take (t173 : Int).toNat), 0)) else ((class_Of.f (rd l0 t173)).bind fun t178 => (if t178 = 8 then (some (7, t173, strOfNums (l0.take (t173 : Int).toNat), 0)) else (some (2, t173, strOfNums (l0.take (t173 : Int).toNat), 0)))))) else (none))) else (some (2, t173, strOfNums (l0.take (t173 : Int).toNat), 0))) else (none)) else (none))
theorem token_symbol.mono : ∀ a0 k, LeO (token_symbol.f k a0) (token_symbol.f (k + 1) a0) := by
 intro a0 k
 unfold token_symbol.f
 repeat' with_reducible first | exact class_Run.mono _ _ _ | exact LeO.refl _ | exact LeO.none _ | refine LeO.ite ?_ ?_ | refine LeO.bind ?_ (fun _ => ?_)
set_option maxHeartbeats 8000000 in
set_option maxRecDepth 100000 in
theorem token_symbol.calls (k : Nat) (A0 : Option Addr) (c0 : Nat) (l0 : List Int) (r1 : Int) (r2 : Int) (r3 : ByteArray) (r4 : Int) (w : World) (hG : Gl w) (hr0 : Kd.C (Kd.int .u8) w A0 l0.length l0) (hc0 : l0.length ≤ c0) (h : token_symbol.f k l0 = some (r1, r2, r3, r4)) :
  Calls Tryd.prog 32 #[.slice A0 l0.length c0] w fun e w' => e = .returned (.tuple #[.int .i64 r1, .int .i64 r2, .string r3, .int .i64 r4]) ∧ Below w.heap.size w w' := by
 have HR0 := Aside0.mk hr0
 have HC0 := Aside0.mk hc0
 clear hr0 hc0
 have HB := Aside0.mk (Below.refl w.heap.size w)
 have HG := Aside0.mk hG
 clear hG
 have H : ((class_Run.f k l0 5).bind fun t173 => (if 0 ≤ t173 then (if t173 ≤ (l0.length : Int) then (if (strOfNums (l0.take (t173 : Int).toNat)).toList = ([46] : List UInt8) then (if t173 = (l0.length : Int) then (some (7, t173, strOfNums (l0.take (t173 : Int).toNat), 0)) else (if t173 < (l0.length : Int) then ((class_Of.f (rd l0 t173)).bind fun t176 => (if t176 = 1 then (some (7, t173, strOfNums (l0.take (t173 : Int).toNat), 0)) else ((class_Of.f (rd l0 t173)).bind fun t178 => (if t178 = 8 then (some (7, t173, strOfNums (l0.take (t173 : Int).toNat), 0)) else (some (2, t173, strOfNums (l0.take (t173 : Int).toNat), 0)))))) else (none))) else (some (2, t173, strOfNums (l0.take (t173 : Int).toNat), 0))) else (none)) else (none))) = some (r1, r2, r3, r4) := h
 clear h
 obtain ⟨t173, A2, H⟩ := bE H
 by_cases c3 : 0 ≤ t173
 ·rw [if_pos c3] at H
  have c3b0 := eq_true c3
  have c3b1 := decide_eq_true c3
  clear c3
  by_cases c4 : t173 ≤ (l0.length : Int)
  ·rw [if_pos c4] at H
   have c4b0 := eq_true c4
   have c4b1 := decide_eq_true c4
   clear c4
   by_cases c5 : (strOfNums (l0.take (t173 : Int).toNat)).toList = ([46] : List UInt8)
   ·rw [if_pos c5] at H
    obtain ⟨c5b0, c5b1⟩ := eqB c5
    clear c5
    by_cases c6 : t173 = (l0.length : Int)
    ·rw [if_pos c6] at H
     obtain ⟨c6b0, c6b1⟩ := eqB c6
     clear c6
     simp only [Option.some.injEq, Prod.mk.injEq] at H
     obtain ⟨rfl, rfl, rfl, rfl⟩ := H
     go_enter Tryd.func32, Tryd.ntmps32
     go_wp2_with (first | ((with_reducible refine gate_callee (f := 26) rfl ?_); refine gL (some 9) Tryd.func26 #[.slice A0 l0.length c0, .int .i64 5] rfl gA ?_; (with_reducible refine (class_Run.calls k _ _ l0 5 t173 _ ?side1 ?side2 ?side3 A2.out).mono ?_); (case side1 => exact Gl.below HG.out (bAt HB.out)); (case side2 => exact CAt HR0.out); (case side3 => exact HC0.out); rintro e w7 ⟨rfl, hb⟩; refine ⟨_, rfl, ?_⟩; replace HB := Aside0.mk (below_step (bAt HB.out) hb); (try clear hb); (try clear hb2); (try clear hk); (try clear hi); obtain ⟨i08, hi08, _, hsz8, _⟩ := info_parts info5; obtain ⟨hcut8, hA8, hC8⟩ := print_take_of (P := Tryd.prog) (Value.int .u8) 0 22 5 .i64 Tryd.underlying22 hi08 hsz8 A0 c0 l0 t173 dt dt HC0.out; have HR174 := Aside0.mk (Kd.C_of_reads (h1 := fun _ => rfl) (hA8 _ (Kd.reads_of_C HR0.out))); have HC174 := Aside0.mk hC8; clear hA8 hC8 hi08 hsz8; have hcv9 := Kd.C_string (P := Tryd.prog) (A := A0) (c := c0) Tryd.underlying22 Tryd.underlying5 Tryd.underlying9 (Kd.C_below HR174.out HB.out); have hcv9z := hcv9; (try rw [List.length_drop, List.length_take, Nat.min_eq_left (Int.toNat_le.mpr dt)] at hcv9z); have hcv9y := hcv9; (try rw [List.length_take, Nat.min_eq_left (Int.toNat_le.mpr dt)] at hcv9y); have hcv9x := hcv9; (try rw [List.length_take, mM] at hcv9x); have hcv9m := hcv9; (try simp only [Int.reduceToNat, List.length_take] at hcv9m); have hcv9q := fun (q_ : Nat) => Kd.C_string (P := Tryd.prog) (A := A0) (c := c0) Tryd.underlying22 Tryd.underlying5 Tryd.underlying9 (Kd.C_drewN (Kd.C_below HR174.out HB.out) q_); have hcv9qy := hcv9q; (try simp only [List.length_take, Nat.min_eq_left (Int.toNat_le.mpr dt)] at hcv9qy); have hcv9qw := hcv9q; (try simp only [Int.reduceToNat] at hcv9qw); have hcv9qv := hcv9qy; (try simp only [Int.reduceToNat] at hcv9qv); have hcv9qu := hcv9q; (try simp only [Int.reduceToNat, List.length_take] at hcv9qu)))
     refine bodyPost_ret (results_list (rs := [.tmp 2, .tmp 3, .tmp 4, .tmp 5]) rfl (by simp) (.tmp (.tmp (.tmp (.tmp .nil))))) rfl ?_
     exact ⟨eR, bAt HB.out⟩
    ·rw [if_neg c6] at H
     obtain ⟨c6b0, c6b1⟩ := neB c6
     by_cases c10 : t173 < (l0.length : Int)
     ·rw [if_pos c10] at H
      have c10b0 := decide_eq_true c10
      clear c10
      obtain ⟨t176, A11, H⟩ := bE H
      by_cases c12 : t176 = 1
      ·rw [if_pos c12] at H
       obtain ⟨c12b0, c12b1⟩ := eqB c12
       clear c12
       simp only [Option.some.injEq, Prod.mk.injEq] at H
       obtain ⟨rfl, rfl, rfl, rfl⟩ := H
       go_enter Tryd.func32, Tryd.ntmps32
       go_wp2_with (first | ((with_reducible refine gate_callee (f := 26) rfl ?_); refine gL (some 9) Tryd.func26 #[.slice A0 l0.length c0, .int .i64 5] rfl gA ?_; (with_reducible refine (class_Run.calls k _ _ l0 5 t173 _ ?side1 ?side2 ?side3 A2.out).mono ?_); (case side1 => exact Gl.below HG.out (bAt HB.out)); (case side2 => exact CAt HR0.out); (case side3 => exact HC0.out); rintro e w13 ⟨rfl, hb⟩; refine ⟨_, rfl, ?_⟩; replace HB := Aside0.mk (below_step (bAt HB.out) hb); (try clear hb); (try clear hb2); (try clear hk); (try clear hi); obtain ⟨i014, hi014, _, hsz14, _⟩ := info_parts info5; obtain ⟨hcut14, hA14, hC14⟩ := print_take_of (P := Tryd.prog) (Value.int .u8) 0 22 5 .i64 Tryd.underlying22 hi014 hsz14 A0 c0 l0 t173 dt dt HC0.out; have HR174 := Aside0.mk (Kd.C_of_reads (h1 := fun _ => rfl) (hA14 _ (Kd.reads_of_C HR0.out))); have HC174 := Aside0.mk hC14; clear hA14 hC14 hi014 hsz14; have hcv15 := Kd.C_string (P := Tryd.prog) (A := A0) (c := c0) Tryd.underlying22 Tryd.underlying5 Tryd.underlying9 (Kd.C_below HR174.out HB.out); have hcv15z := hcv15; (try rw [List.length_drop, List.length_take, Nat.min_eq_left (Int.toNat_le.mpr dt)] at hcv15z); have hcv15y := hcv15; (try rw [List.length_take, Nat.min_eq_left (Int.toNat_le.mpr dt)] at hcv15y); have hcv15x := hcv15; (try rw [List.length_take, mM] at hcv15x); have hcv15m := hcv15; (try simp only [Int.reduceToNat, List.length_take] at hcv15m); have hcv15q := fun (q_ : Nat) => Kd.C_string (P := Tryd.prog) (A := A0) (c := c0) Tryd.underlying22 Tryd.underlying5 Tryd.underlying9 (Kd.C_drewN (Kd.C_below HR174.out HB.out) q_); have hcv15qy := hcv15q; (try simp only [List.length_take, Nat.min_eq_left (Int.toNat_le.mpr dt)] at hcv15qy); have hcv15qw := hcv15q; (try simp only [Int.reduceToNat] at hcv15qw); have hcv15qv := hcv15qy; (try simp only [Int.reduceToNat] at hcv15qv); have hcv15qu := hcv15q; (try simp only [Int.reduceToNat, List.length_take] at hcv15qu); have p175 : 0 ≤ (t173 : Int) := dt; have q175 : t173 < (l0.length : Int) := dt; obtain ⟨ad175, e175, hx175_0⟩ := Kd.at_int HR0.out t173 p175 q175; cases e175; replace hx175_0 := pw_cell_below HB.out hx175_0; replace p175 := eq_true p175; replace q175 := eq_true q175) | ((with_reducible refine gate_callee (f := 24) rfl ?_); (try (refine gate_guard (by rfl) ?_; dsimp only)); refine gL (some 25) Tryd.func24 #[.int .u8 (rd l0 t173)] rfl gA ?_; (with_reducible refine (class_Of.calls (rd l0 t173) t176 _ ?side1 A11.out).mono ?_); (case side1 => exact Gl.below HG.out (bAt HB.out)); rintro e w16 ⟨rfl, hb⟩; refine ⟨_, rfl, ?_⟩; replace HB := Aside0.mk (below_step (bAt HB.out) hb); (try clear hb); (try clear hb2); (try clear hk); (try clear hi)))
       refine bodyPost_ret (results_list (rs := [.tmp 2, .tmp 3, .tmp 4, .tmp 5]) rfl (by simp) (.tmp (.tmp (.tmp (.tmp .nil))))) rfl ?_
       exact ⟨eR, bAt HB.out⟩
      ·rw [if_neg c12] at H
       obtain ⟨c12b0, c12b1⟩ := neB c12
       obtain ⟨t178, A17, H⟩ := bE H
       by_cases c18 : t178 = 8
       ·rw [if_pos c18] at H
        obtain ⟨c18b0, c18b1⟩ := eqB c18
        clear c18
        simp only [Option.some.injEq, Prod.mk.injEq] at H
        obtain ⟨rfl, rfl, rfl, rfl⟩ := H
        go_enter Tryd.func32, Tryd.ntmps32
        go_wp2_with (first | ((with_reducible refine gate_callee (f := 26) rfl ?_); refine gL (some 9) Tryd.func26 #[.slice A0 l0.length c0, .int .i64 5] rfl gA ?_; (with_reducible refine (class_Run.calls k _ _ l0 5 t173 _ ?side1 ?side2 ?side3 A2.out).mono ?_); (case side1 => exact Gl.below HG.out (bAt HB.out)); (case side2 => exact CAt HR0.out); (case side3 => exact HC0.out); rintro e w19 ⟨rfl, hb⟩; refine ⟨_, rfl, ?_⟩; replace HB := Aside0.mk (below_step (bAt HB.out) hb); (try clear hb); (try clear hb2); (try clear hk); (try clear hi); obtain ⟨i020, hi020, _, hsz20, _⟩ := info_parts info5; obtain ⟨hcut20, hA20, hC20⟩ := print_take_of (P := Tryd.prog) (Value.int .u8) 0 22 5 .i64 Tryd.underlying22 hi020 hsz20 A0 c0 l0 t173 dt dt HC0.out; have HR174 := Aside0.mk (Kd.C_of_reads (h1 := fun _ => rfl) (hA20 _ (Kd.reads_of_C HR0.out))); have HC174 := Aside0.mk hC20; clear hA20 hC20 hi020 hsz20; have hcv21 := Kd.C_string (P := Tryd.prog) (A := A0) (c := c0) Tryd.underlying22 Tryd.underlying5 Tryd.underlying9 (Kd.C_below HR174.out HB.out); have hcv21z := hcv21; (try rw [List.length_drop, List.length_take, Nat.min_eq_left (Int.toNat_le.mpr dt)] at hcv21z); have hcv21y := hcv21; (try rw [List.length_take, Nat.min_eq_left (Int.toNat_le.mpr dt)] at hcv21y); have hcv21x := hcv21; (try rw [List.length_take, mM] at hcv21x); have hcv21m := hcv21; (try simp only [Int.reduceToNat, List.length_take] at hcv21m); have hcv21q := fun (q_ : Nat) => Kd.C_string (P := Tryd.prog) (A := A0) (c := c0) Tryd.underlying22 Tryd.underlying5 Tryd.underlying9 (Kd.C_drewN (Kd.C_below HR174.out HB.out) q_); have hcv21qy := hcv21q; (try simp only [List.length_take, Nat.min_eq_left (Int.toNat_le.mpr dt)] at hcv21qy); have hcv21qw := hcv21q; (try simp only [Int.reduceToNat] at hcv21qw); have hcv21qv := hcv21qy; (try simp only [Int.reduceToNat] at hcv21qv); have hcv21qu := hcv21q; (try simp only [Int.reduceToNat, List.length_take] at hcv21qu); have p175 : 0 ≤ (t173 : Int) := dt; have q175 : t173 < (l0.length : Int) := dt; obtain ⟨ad175, e175, hx175_0⟩ := Kd.at_int HR0.out t173 p175 q175; cases e175; replace hx175_0 := pw_cell_below HB.out hx175_0; replace p175 := eq_true p175; replace q175 := eq_true q175) | ((with_reducible refine gate_callee (f := 24) rfl ?_); (try (refine gate_guard (by rfl) ?_; dsimp only)); refine gL (some 25) Tryd.func24 #[.int .u8 (rd l0 t173)] rfl gA ?_; (with_reducible refine (class_Of.calls (rd l0 t173) t176 _ ?side1 A11.out).mono ?_); (case side1 => exact Gl.below HG.out (bAt HB.out)); rintro e w22 ⟨rfl, hb⟩; refine ⟨_, rfl, ?_⟩; replace HB := Aside0.mk (below_step (bAt HB.out) hb); (try clear hb); (try clear hb2); (try clear hk); (try clear hi); have p177 : 0 ≤ (t173 : Int) := dt; have q177 : t173 < (l0.length : Int) := dt; obtain ⟨ad177, e177, hx177_0⟩ := Kd.at_int HR0.out t173 p177 q177; obtain rfl : ad175 = ad177 := (by injection e177); replace hx177_0 := pw_cell_below HB.out hx177_0; replace p177 := eq_true p177; replace q177 := eq_true q177) | ((with_reducible refine gate_callee (f := 24) rfl ?_); (try (refine gate_guard (by rfl) ?_; dsimp only)); refine gL (some 33) Tryd.func24 #[.int .u8 (rd l0 t173)] rfl gA ?_; (with_reducible refine (class_Of.calls (rd l0 t173) t178 _ ?side1 A17.out).mono ?_); (case side1 => exact Gl.below HG.out (bAt HB.out)); rintro e w23 ⟨rfl, hb⟩; refine ⟨_, rfl, ?_⟩; replace HB := Aside0.mk (below_step (bAt HB.out) hb); (try clear hb); (try clear hb2); (try clear hk); (try clear hi)))
        refine bodyPost_ret (results_list (rs := [.tmp 2, .tmp 3, .tmp 4, .tmp 5]) rfl (by simp) (.tmp (.tmp (.tmp (.tmp .nil))))) rfl ?_
        exact ⟨eR, bAt HB.out⟩
       ·rw [if_neg c18] at H
        obtain ⟨c18b0, c18b1⟩ := neB c18
        simp only [Option.some.injEq, Prod.mk.injEq] at H
        obtain ⟨rfl, rfl, rfl, rfl⟩ := H
        go_enter Tryd.func32, Tryd.ntmps32
        go_wp2_with (first | ((with_reducible refine gate_callee (f := 26) rfl ?_); refine gL (some 9) Tryd.func26 #[.slice A0 l0.length c0, .int .i64 5] rfl gA ?_; (with_reducible refine (class_Run.calls k _ _ l0 5 t173 _ ?side1 ?side2 ?side3 A2.out).mono ?_); (case side1 => exact Gl.below HG.out (bAt HB.out)); (case side2 => exact CAt HR0.out); (case side3 => exact HC0.out); rintro e w24 ⟨rfl, hb⟩; refine ⟨_, rfl, ?_⟩; replace HB := Aside0.mk (below_step (bAt HB.out) hb); (try clear hb); (try clear hb2); (try clear hk); (try clear hi); obtain ⟨i025, hi025, _, hsz25, _⟩ := info_parts info5; obtain ⟨hcut25, hA25, hC25⟩ := print_take_of (P := Tryd.prog) (Value.int .u8) 0 22 5 .i64 Tryd.underlying22 hi025 hsz25 A0 c0 l0 t173 dt dt HC0.out; have HR174 := Aside0.mk (Kd.C_of_reads (h1 := fun _ => rfl) (hA25 _ (Kd.reads_of_C HR0.out))); have HC174 := Aside0.mk hC25; clear hA25 hC25 hi025 hsz25; have hcv26 := Kd.C_string (P := Tryd.prog) (A := A0) (c := c0) Tryd.underlying22 Tryd.underlying5 Tryd.underlying9 (Kd.C_below HR174.out HB.out); have hcv26z := hcv26; (try rw [List.length_drop, List.length_take, Nat.min_eq_left (Int.toNat_le.mpr dt)] at hcv26z); have hcv26y := hcv26; (try rw [List.length_take, Nat.min_eq_left (Int.toNat_le.mpr dt)] at hcv26y); have hcv26x := hcv26; (try rw [List.length_take, mM] at hcv26x); have hcv26m := hcv26; (try simp only [Int.reduceToNat, List.length_take] at hcv26m); have hcv26q := fun (q_ : Nat) => Kd.C_string (P := Tryd.prog) (A := A0) (c := c0) Tryd.underlying22 Tryd.underlying5 Tryd.underlying9 (Kd.C_drewN (Kd.C_below HR174.out HB.out) q_); have hcv26qy := hcv26q; (try simp only [List.length_take, Nat.min_eq_left (Int.toNat_le.mpr dt)] at hcv26qy); have hcv26qw := hcv26q; (try simp only [Int.reduceToNat] at hcv26qw); have hcv26qv := hcv26qy; (try simp only [Int.reduceToNat] at hcv26qv); have hcv26qu := hcv26q; (try simp only [Int.reduceToNat, List.length_take] at hcv26qu); have p175 : 0 ≤ (t173 : Int) := dt; have q175 : t173 < (l0.length : Int) := dt; obtain ⟨ad175, e175, hx175_0⟩ := Kd.at_int HR0.out t173 p175 q175; cases e175; replace hx175_0 := pw_cell_below HB.out hx175_0; replace p175 := eq_true p175; replace q175 := eq_true q175) | ((with_reducible refine gate_callee (f := 24) rfl ?_); (try (refine gate_guard (by rfl) ?_; dsimp only)); refine gL (some 25) Tryd.func24 #[.int .u8 (rd l0 t173)] rfl gA ?_; (with_reducible refine (class_Of.calls (rd l0 t173) t176 _ ?side1 A11.out).mono ?_); (case side1 => exact Gl.below HG.out (bAt HB.out)); rintro e w27 ⟨rfl, hb⟩; refine ⟨_, rfl, ?_⟩; replace HB := Aside0.mk (below_step (bAt HB.out) hb); (try clear hb); (try clear hb2); (try clear hk); (try clear hi); have p177 : 0 ≤ (t173 : Int) := dt; have q177 : t173 < (l0.length : Int) := dt; obtain ⟨ad177, e177, hx177_0⟩ := Kd.at_int HR0.out t173 p177 q177; obtain rfl : ad175 = ad177 := (by injection e177); replace hx177_0 := pw_cell_below HB.out hx177_0; replace p177 := eq_true p177; replace q177 := eq_true q177) | ((with_reducible refine gate_callee (f := 24) rfl ?_); (try (refine gate_guard (by rfl) ?_; dsimp only)); refine gL (some 33) Tryd.func24 #[.int .u8 (rd l0 t173)] rfl gA ?_; (with_reducible refine (class_Of.calls (rd l0 t173) t178 _ ?side1 A17.out).mono ?_); (case side1 => exact Gl.below HG.out (bAt HB.out)); rintro e w28 ⟨rfl, hb⟩; refine ⟨_, rfl, ?_⟩; replace HB := Aside0.mk (below_step (bAt HB.out) hb); (try clear hb); (try clear hb2); (try clear hk); (try clear hi)))
        refine bodyPost_ret (results_list (rs := [.tmp 2, .tmp 3, .tmp 4, .tmp 5]) rfl (by simp) (.tmp (.tmp (.tmp (.tmp .nil))))) rfl ?_
        exact ⟨eR, bAt HB.out⟩
     ·exact nB H c10
   ·rw [if_neg c5] at H
    obtain ⟨c5b0, c5b1⟩ := neB c5
    simp only [Option.some.injEq, Prod.mk.injEq] at H
    obtain ⟨rfl, rfl, rfl, rfl⟩ := H
    go_enter Tryd.func32, Tryd.ntmps32
    go_wp2_with (first | ((with_reducible refine gate_callee (f := 26) rfl ?_); refine gL (some 9) Tryd.func26 #[.slice A0 l0.length c0, .int .i64 5] rfl gA ?_; (with_reducible refine (class_Run.calls k _ _ l0 5 t173 _ ?side1 ?side2 ?side3 A2.out).mono ?_); (case side1 => exact Gl.below HG.out (bAt HB.out)); (case side2 => exact CAt HR0.out); (case side3 => exact HC0.out); rintro e w29 ⟨rfl, hb⟩; refine ⟨_, rfl, ?_⟩; replace HB := Aside0.mk (below_step (bAt HB.out) hb); (try clear hb); (try clear hb2); (try clear hk); (try clear hi); obtain ⟨i030, hi030, _, hsz30, _⟩ := info_parts info5; obtain ⟨hcut30, hA30, hC30⟩ := print_take_of (P := Tryd.prog) (Value.int .u8) 0 22 5 .i64 Tryd.underlying22 hi030 hsz30 A0 c0 l0 t173 dt dt HC0.out; have HR174 := Aside0.mk (Kd.C_of_reads (h1 := fun _ => rfl) (hA30 _ (Kd.reads_of_C HR0.out))); have HC174 := Aside0.mk hC30; clear hA30 hC30 hi030 hsz30; have hcv31 := Kd.C_string (P := Tryd.prog) (A := A0) (c := c0) Tryd.underlying22 Tryd.underlying5 Tryd.underlying9 (Kd.C_below HR174.out HB.out); have hcv31z := hcv31; (try rw [List.length_drop, List.length_take, Nat.min_eq_left (Int.toNat_le.mpr dt)] at hcv31z); have hcv31y := hcv31; (try rw [List.length_take, Nat.min_eq_left (Int.toNat_le.mpr dt)] at hcv31y); have hcv31x := hcv31; (try rw [List.length_take, mM] at hcv31x); have hcv31m := hcv31; (try simp only [Int.reduceToNat, List.length_take] at hcv31m); have hcv31q := fun (q_ : Nat) => Kd.C_string (P := Tryd.prog) (A := A0) (c := c0) Tryd.underlying22 Tryd.underlying5 Tryd.underlying9 (Kd.C_drewN (Kd.C_below HR174.out HB.out) q_); have hcv31qy := hcv31q; (try simp only [List.length_take, Nat.min_eq_left (Int.toNat_le.mpr dt)] at hcv31qy); have hcv31qw := hcv31q; (try simp only [Int.reduceToNat] at hcv31qw); have hcv31qv := hcv31qy; (try simp only [Int.reduceToNat] at hcv31qv); have hcv31qu := hcv31q; (try simp only [Int.reduceToNat, List.length_take] at hcv31qu)))
    refine bodyPost_ret (results_list (rs := [.tmp 2, .tmp 3, .tmp 4, .tmp 5]) rfl (by simp) (.tmp (.tmp (.tmp (.tmp .nil))))) rfl ?_
    exact ⟨eR, bAt HB.out⟩
  ·exact nB H c4
 ·exact nB H c3
def digits_Take.l0 : Nat → Int → Int → Int → List Int → Int → Int → Option (Int × Int × Int)
 | 0, _, _, _, _, _, _ => none
 | k + 1, x2, x3, x4, x13, x14, x15 => if x15 < x14 then (if 0 ≤ x15 then (if x15 < (x13.length : Int) then (if (wrap64 ((wrap64 (x2 * 10)) + (((rd x13 x15) - 48) % 256))) > 2147483647 then (some (0, x3, 4)) else (digits_Take.l0 k (wrap64 ((wrap64 (x2 * 10)) + (((rd x13 x15) - 48) % 256))) x3 x4 x13 x14 (wrap64 (x15 + 1)))) else (none)) else (none)) else (some (x2, x3, x4))
def digits_Take.f (k : Nat) (l0 : List Int) : Option (Int × Int × Int) := (class_Run.f k l0 4).bind fun t179 => (if t179 = 0 then (some (0, t179, 2)) else (if 0 ≤ t179 then (if t179 ≤ (l0.length : Int) then (digits_Take.l0 k 0 t179 0 (l0.take (t179 : Int).toNat) ((l0.take (t179 : Int).toNat).length : Int) 0) else (none)) else (none)))
theorem digits_Take.mono_l : ∀ k, (∀ y0 y1 y2 y3 y4 y5, LeO (digits_Take.l0 k y0 y1 y2 y3 y4 y5) (digits_Take.l0 (k + 1) y0 y1 y2 y3 y4 y5))
 | 0 => fun _ _ _ _ _ _ r h => by simp [digits_Take.l0] at h
 | k + 1 => by
  have ih0 := digits_Take.mono_l k
  ·intro y0 y1 y2 y3 y4 y5
   unfold digits_Take.l0
   repeat' with_reducible first | exact ih0 _ _ _ _ _ _ | exact class_Run.mono _ _ _ | exact LeO.refl _ | exact LeO.none _ | refine LeO.ite ?_ ?_ | refine LeO.bind ?_ (fun _ => ?_)
theorem digits_Take.mono : ∀ a0 k, LeO (digits_Take.f k a0) (digits_Take.f (k + 1) a0) := by
 intro a0 k
 have ih0 := digits_Take.mono_l k
 unfold digits_Take.f
 repeat' with_reducible first | exact ih0 _ _ _ _ _ _ | exact class_Run.mono _ _ _ | exact LeO.refl _ | exact LeO.none _ | refine LeO.ite ?_ ?_ | refine LeO.bind ?_ (fun _ => ?_)
set_option maxHeartbeats 8000000 in
set_option maxRecDepth 100000 in
theorem digits_Take.calls (k : Nat) (A0 : Option Addr) (c0 : Nat) (l0 : List Int) (r1 : Int) (r2 : Int) (r3 : Int) (w : World) (hG : Gl w) (hr0 : Kd.C (Kd.int .u8) w A0 l0.length l0) (hc0 : l0.length ≤ c0) (h : digits_Take.f k l0 = some (r1, r2, r3)) :
  Calls Tryd.prog 40 #[.slice A0 l0.length c0] w fun e w' => e = .returned (.tuple #[.int .i64 r1, .int .i64 r2, .int .i64 r3]) ∧ Below w.heap.size w w' := by
 have HR0 := Aside0.mk hr0
 have HC0 := Aside0.mk hc0
 clear hr0 hc0
 have HB := Aside0.mk (Below.refl w.heap.size w)
 have HG := Aside0.mk hG
 clear hG
 have H : ((class_Run.f k l0 4).bind fun t179 => (if t179 = 0 then (some (0, t179, 2)) else (if 0 ≤ t179 then (if t179 ≤ (l0.length : Int) then (digits_Take.l0 k 0 t179 0 (l0.take (t179 : Int).toNat) ((l0.take (t179 : Int).toNat).length : Int) 0) else (none)) else (none)))) = some (r1, r2, r3) := h
 clear h
 obtain ⟨t179, A2, H⟩ := bE H
 by_cases c3 : t179 = 0
 ·rw [if_pos c3] at H
  obtain ⟨c3b0, c3b1⟩ := eqB c3
  clear c3
  simp only [Option.some.injEq, Prod.mk.injEq] at H
  obtain ⟨rfl, rfl, rfl⟩ := H
  go_enter Tryd.func40, Tryd.ntmps40
  go_wp2_with (first | ((with_reducible refine gate_callee (f := 26) rfl ?_); refine gL (some 8) Tryd.func26 #[.slice A0 l0.length c0, .int .i64 4] rfl gA ?_; (with_reducible refine (class_Run.calls k _ _ l0 4 t179 _ ?side1 ?side2 ?side3 A2.out).mono ?_); (case side1 => exact Gl.below HG.out (bAt HB.out)); (case side2 => exact CAt HR0.out); (case side3 => exact HC0.out); rintro e w4 ⟨rfl, hb⟩; refine ⟨_, rfl, ?_⟩; replace HB := Aside0.mk (below_step (bAt HB.out) hb); (try clear hb); (try clear hb2); (try clear hk); (try clear hi)))
  go_ret3
  exact ⟨eR, bAt HB.out⟩
 ·rw [if_neg c3] at H
  obtain ⟨c3b0, c3b1⟩ := neB c3
  by_cases c5 : 0 ≤ t179
  ·rw [if_pos c5] at H
   have c5b0 := eq_true c5
   have c5b1 := decide_eq_true c5
   clear c5
   by_cases c6 : t179 ≤ (l0.length : Int)
   ·rw [if_pos c6] at H
    have c6b0 := eq_true c6
    have c6b1 := decide_eq_true c6
    clear c6
    have H' := Aside0.mk H
    clear H
    go_enter Tryd.func40, Tryd.ntmps40
    go_wp2_with (first | ((with_reducible refine gate_callee (f := 26) rfl ?_); refine gL (some 8) Tryd.func26 #[.slice A0 l0.length c0, .int .i64 4] rfl gA ?_; (with_reducible refine (class_Run.calls k _ _ l0 4 t179 _ ?side1 ?side2 ?side3 A2.out).mono ?_); (case side1 => exact Gl.below HG.out (bAt HB.out)); (case side2 => exact CAt HR0.out); (case side3 => exact HC0.out); rintro e w7 ⟨rfl, hb⟩; refine ⟨_, rfl, ?_⟩; replace HB := Aside0.mk (below_step (bAt HB.out) hb); (try clear hb); (try clear hb2); (try clear hk); (try clear hi); obtain ⟨i08, hi08, _, hsz8, _⟩ := info_parts info5; obtain ⟨hcut8, hA8, hC8⟩ := print_take_of (P := Tryd.prog) (Value.int .u8) 0 22 5 .i64 Tryd.underlying22 hi08 hsz8 A0 c0 l0 t179 dt dt HC0.out; have HR180 := Aside0.mk (Kd.C_of_reads (h1 := fun _ => rfl) (hA8 _ (Kd.reads_of_C HR0.out))); have HC180 := Aside0.mk hC8; clear hA8 hC8 hi08 hsz8))
    obtain ⟨mz1, hmz1⟩ : ∃ mz_ : Int, (max t179 0 : Int) = mz_ := ⟨_, rfl⟩
    (try rw [hmz1])
    have HMZ1 := Aside0.mk (show ((l0.take (t179 : Int).toNat).length : Int) = mz1 from by have z1_ : t179 ≤ (l0.length : Int) := (by first | exact dt | exact of_eq_true (by assumption)); have z0_ : 0 ≤ t179 := (by first | exact dt | exact of_eq_true (by assumption)); rw [List.length_take, ← hmz1]; omega)
    go_loopg [2, 4, 15] k (fun kq v2 v4 v15 w' => ∃ (x2_1 : Int) (x4_1 : Int) (x15_1 : Int), v2 = .int .i64 x2_1 ∧ v4 = .int .i64 x4_1 ∧ v15 = .int .i64 x15_1 ∧ Aside0 (digits_Take.l0 kq x2_1 t179 x4_1 (l0.take (t179 : Int).toNat) ((l0.take (t179 : Int).toNat).length : Int) x15_1 = some (r1, r2, r3)) ∧ Aside0 (kq ≤ k) ∧ Aside0 (Below w.heap.size w w'))
    case atStart => exact ⟨(0), (0), (0), sR, sR, sR, H', ⟨Nat.le_refl _⟩, ⟨bAt HB.out⟩⟩
    case round =>
     clear H'
     try clear c2
     try clear p2
     try clear c3
     try clear c3b0 c3b1
     try clear c4
     try clear c5
     try clear c5b0 c5b1
     try clear c6
     try clear c6b0 c6b1
     obtain ⟨x2_1, x4_1, x15_1, rfl, rfl, rfl, HA, HK1, HB⟩ := hrel
     cases gk with
     | zero => exact absurd HA.out (by simp [digits_Take.l0])
     | succ k1 =>
      have H := HA.out
      clear HA
      simp only [digits_Take.l0] at H
      by_cases c9 : x15_1 < ((l0.take (t179 : Int).toNat).length : Int)
      ·rw [if_pos c9] at H
       have c9b0 := decide_eq_true c9
       (try (have c9b0z := c9b0; rw [HMZ1.out] at c9b0z))
       clear c9
       by_cases c10 : 0 ≤ x15_1
       ·rw [if_pos c10] at H
        have c10b0 := decide_eq_true c10
        clear c10
        by_cases c11 : x15_1 < ((l0.take (t179 : Int).toNat).length : Int)
        ·rw [if_pos c11] at H
         have c11b0 := decide_eq_true c11
         (try (have c11b0z := c11b0; rw [HMZ1.out] at c11b0z))
         clear c11
         by_cases c12 : (wrap64 ((wrap64 (x2_1 * 10)) + (((rd (l0.take (t179 : Int).toNat) x15_1) - 48) % 256))) > 2147483647
         ·rw [if_pos c12] at H
          have c12b0 : decide (2147483647 < (wrap64 ((wrap64 (x2_1 * 10)) + (((rd (l0.take (t179 : Int).toNat) x15_1) - 48) % 256)))) = true := decide_eq_true c12
          clear c12
          simp only [Option.some.injEq, Prod.mk.injEq] at H
          obtain ⟨rfl, rfl, rfl⟩ := H
          have p181 : 0 ≤ (x15_1 : Int) := dt
          have q181 : x15_1 < ((l0.take (t179 : Int).toNat).length : Int) := dt
          (try (have q181z := q181; rw [HMZ1.out] at q181z; replace q181z := eq_true q181z))
          obtain ⟨ad181, e181, hx181_0⟩ := Kd.at_int HR180.out x15_1 p181 q181
          cases e181
          replace hx181_0 := pw_cell_below HB.out hx181_0
          replace p181 := eq_true p181
          replace q181 := eq_true q181
          go_wp2
          go_ret3
          exact ⟨eR, bAt HB.out⟩
         ·rw [if_neg c12] at H
          have c12b0 : decide (2147483647 < (wrap64 ((wrap64 (x2_1 * 10)) + (((rd (l0.take (t179 : Int).toNat) x15_1) - 48) % 256)))) = false := decide_eq_false c12
          clear c12
          have H' := Aside0.mk H
          clear H
          have p181 : 0 ≤ (x15_1 : Int) := dt
          have q181 : x15_1 < ((l0.take (t179 : Int).toNat).length : Int) := dt
          (try (have q181z := q181; rw [HMZ1.out] at q181z; replace q181z := eq_true q181z))
          obtain ⟨ad181, e181, hx181_0⟩ := Kd.at_int HR180.out x15_1 p181 q181
          cases e181
          replace hx181_0 := pw_cell_below HB.out hx181_0
          replace p181 := eq_true p181
          replace q181 := eq_true q181
          go_wp2
          go_roundg k1
          case measure => have := HK1.out; omega
          case rel => exact ⟨(wrap64 ((wrap64 (x2_1 * 10)) + (((rd (l0.take (t179 : Int).toNat) x15_1) - 48) % 256))), (x4_1), (wrap64 (x15_1 + 1)), sR, sR, sR, H', ⟨by have := HK1.out; omega⟩, ⟨bAt HB.out⟩⟩
        ·exact nB H c11
       ·exact nB H c10
      ·rw [if_neg c9] at H
       have c9b0 := decide_eq_false c9
       (try (have c9b0z := c9b0; rw [HMZ1.out] at c9b0z))
       clear c9
       simp only [Option.some.injEq, Prod.mk.injEq] at H
       obtain ⟨rfl, rfl, rfl⟩ := H
       go_wp2
       go_ret3
       exact ⟨eR, bAt HB.out⟩
   ·exact nB H c6
  ·exact nB H c5
def token_number.f (k : Nat) (l0 : List Int) : Option (Int × Int × ByteArray × Int) := (digits_Take.f k l0).bind fun bt182 => (if 0 ≤ bt182.2.1 then (if bt182.2.1 ≤ (l0.length : Int) then (some (4, bt182.2.1, strOfNums (l0.take (bt182.2.1 : Int).toNat), bt182.2.2)) else (none)) else (none))
theorem token_number.mono : ∀ a0 k, LeO (token_number.f k a0) (token_number.f (k + 1) a0) := by
 intro a0 k
 unfold token_number.f
 repeat' with_reducible first | exact digits_Take.mono _ _ | exact LeO.refl _ | exact LeO.none _ | refine LeO.ite ?_ ?_ | refine LeO.bind ?_ (fun _ => ?_)
set_option maxHeartbeats 8000000 in
set_option maxRecDepth 100000 in
theorem token_number.calls (k : Nat) (A0 : Option Addr) (c0 : Nat) (l0 : List Int) (r1 : Int) (r2 : Int) (r3 : ByteArray) (r4 : Int) (w : World) (hG : Gl w) (hr0 : Kd.C (Kd.int .u8) w A0 l0.length l0) (hc0 : l0.length ≤ c0) (h : token_number.f k l0 = some (r1, r2, r3, r4)) :
  Calls Tryd.prog 33 #[.slice A0 l0.length c0] w fun e w' => e = .returned (.tuple #[.int .i64 r1, .int .i64 r2, .string r3, .int .i64 r4]) ∧ Below w.heap.size w w' := by
 have HR0 := Aside0.mk hr0
 have HC0 := Aside0.mk hc0
 clear hr0 hc0
 have HB := Aside0.mk (Below.refl w.heap.size w)
 have HG := Aside0.mk hG
 clear hG
 have H : ((digits_Take.f k l0).bind fun bt182 => (if 0 ≤ bt182.2.1 then (if bt182.2.1 ≤ (l0.length : Int) then (some (4, bt182.2.1, strOfNums (l0.take (bt182.2.1 : Int).toNat), bt182.2.2)) else (none)) else (none))) = some (r1, r2, r3, r4) := h
 clear h
 obtain ⟨⟨t182, t183, t184⟩, A2, H⟩ := bE H
 replace H : (if 0 ≤ t183 then (if t183 ≤ (l0.length : Int) then (some (4, t183, strOfNums (l0.take (t183 : Int).toNat), t184)) else (none)) else (none)) = some (r1, r2, r3, r4) := H
 by_cases c3 : 0 ≤ t183
 ·rw [if_pos c3] at H
  have c3b0 := eq_true c3
  have c3b1 := decide_eq_true c3
  clear c3
  by_cases c4 : t183 ≤ (l0.length : Int)
  ·rw [if_pos c4] at H
   have c4b0 := eq_true c4
   have c4b1 := decide_eq_true c4
   clear c4
   simp only [Option.some.injEq, Prod.mk.injEq] at H
   obtain ⟨rfl, rfl, rfl, rfl⟩ := H
   go_enter Tryd.func33, Tryd.ntmps33
   go_wp2_with (first | (go_at_call 40; (with_reducible refine (digits_Take.calls k _ _ l0 t182 t183 t184 _ ?side1 ?side2 ?side3 A2.out).mono ?_); (case side1 => exact Gl.below HG.out (bAt HB.out)); (case side2 => exact CAt HR0.out); (case side3 => exact HC0.out); rintro e w5 ⟨rfl, hb⟩; replace HB := Aside0.mk (below_step (bAt HB.out) hb); (try clear hb); (try clear hb2); (try clear hk); (try clear hi); obtain ⟨i06, hi06, _, hsz6, _⟩ := info_parts info5; obtain ⟨hcut6, hA6, hC6⟩ := print_take_of (P := Tryd.prog) (Value.int .u8) 0 22 5 .i64 Tryd.underlying22 hi06 hsz6 A0 c0 l0 t183 dt dt HC0.out; have HR185 := Aside0.mk (Kd.C_of_reads (h1 := fun _ => rfl) (hA6 _ (Kd.reads_of_C HR0.out))); have HC185 := Aside0.mk hC6; clear hA6 hC6 hi06 hsz6; have hcv7 := Kd.C_string (P := Tryd.prog) (A := A0) (c := c0) Tryd.underlying22 Tryd.underlying5 Tryd.underlying9 (Kd.C_below HR185.out HB.out); have hcv7z := hcv7; (try rw [List.length_drop, List.length_take, Nat.min_eq_left (Int.toNat_le.mpr dt)] at hcv7z); have hcv7y := hcv7; (try rw [List.length_take, Nat.min_eq_left (Int.toNat_le.mpr dt)] at hcv7y); have hcv7x := hcv7; (try rw [List.length_take, mM] at hcv7x); have hcv7m := hcv7; (try simp only [Int.reduceToNat, List.length_take] at hcv7m); have hcv7q := fun (q_ : Nat) => Kd.C_string (P := Tryd.prog) (A := A0) (c := c0) Tryd.underlying22 Tryd.underlying5 Tryd.underlying9 (Kd.C_drewN (Kd.C_below HR185.out HB.out) q_); have hcv7qy := hcv7q; (try simp only [List.length_take, Nat.min_eq_left (Int.toNat_le.mpr dt)] at hcv7qy); have hcv7qw := hcv7q; (try simp only [Int.reduceToNat] at hcv7qw); have hcv7qv := hcv7qy; (try simp only [Int.reduceToNat] at hcv7qv); have hcv7qu := hcv7q; (try simp only [Int.reduceToNat, List.length_take] at hcv7qu)))
   repeat (go_quiet (first | (go_at_call 40; (with_reducible refine (digits_Take.calls k _ _ l0 t182 t183 t184 _ ?side1 ?side2 ?side3 A2.out).mono ?_); (case side1 => exact Gl.below HG.out (bAt HB.out)); (case side2 => exact CAt HR0.out); (case side3 => exact HC0.out); rintro e w5 ⟨rfl, hb⟩; replace HB := Aside0.mk (below_step (bAt HB.out) hb); (try clear hb); (try clear hb2); (try clear hk); (try clear hi); obtain ⟨i06, hi06, _, hsz6, _⟩ := info_parts info5; obtain ⟨hcut6, hA6, hC6⟩ := print_take_of (P := Tryd.prog) (Value.int .u8) 0 22 5 .i64 Tryd.underlying22 hi06 hsz6 A0 c0 l0 t183 dt dt HC0.out; have HR185 := Aside0.mk (Kd.C_of_reads (h1 := fun _ => rfl) (hA6 _ (Kd.reads_of_C HR0.out))); have HC185 := Aside0.mk hC6; clear hA6 hC6 hi06 hsz6; have hcv7 := Kd.C_string (P := Tryd.prog) (A := A0) (c := c0) Tryd.underlying22 Tryd.underlying5 Tryd.underlying9 (Kd.C_below HR185.out HB.out); have hcv7z := hcv7; (try rw [List.length_drop, List.length_take, Nat.min_eq_left (Int.toNat_le.mpr dt)] at hcv7z); have hcv7y := hcv7; (try rw [List.length_take, Nat.min_eq_left (Int.toNat_le.mpr dt)] at hcv7y); have hcv7x := hcv7; (try rw [List.length_take, mM] at hcv7x); have hcv7m := hcv7; (try simp only [Int.reduceToNat, List.length_take] at hcv7m); have hcv7q := fun (q_ : Nat) => Kd.C_string (P := Tryd.prog) (A := A0) (c := c0) Tryd.underlying22 Tryd.underlying5 Tryd.underlying9 (Kd.C_drewN (Kd.C_below HR185.out HB.out) q_); have hcv7qy := hcv7q; (try simp only [List.length_take, Nat.min_eq_left (Int.toNat_le.mpr dt)] at hcv7qy); have hcv7qw := hcv7q; (try simp only [Int.reduceToNat] at hcv7qw); have hcv7qv := hcv7qy; (try simp only [Int.reduceToNat] at hcv7qv); have hcv7qu := hcv7q; (try simp only [Int.reduceToNat, List.length_take] at hcv7qu))); try go_wp2_with (first | (go_at_call 40; (with_reducible refine (digits_Take.calls k _ _ l0 t182 t183 t184 _ ?side1 ?side2 ?side3 A2.out).mono ?_); (case side1 => exact Gl.below HG.out (bAt HB.out)); (case side2 => exact CAt HR0.out); (case side3 => exact HC0.out); rintro e w5 ⟨rfl, hb⟩; replace HB := Aside0.mk (below_step (bAt HB.out) hb); (try clear hb); (try clear hb2); (try clear hk); (try clear hi); obtain ⟨i06, hi06, _, hsz6, _⟩ := info_parts info5; obtain ⟨hcut6, hA6, hC6⟩ := print_take_of (P := Tryd.prog) (Value.int .u8) 0 22 5 .i64 Tryd.underlying22 hi06 hsz6 A0 c0 l0 t183 dt dt HC0.out; have HR185 := Aside0.mk (Kd.C_of_reads (h1 := fun _ => rfl) (hA6 _ (Kd.reads_of_C HR0.out))); have HC185 := Aside0.mk hC6; clear hA6 hC6 hi06 hsz6; have hcv7 := Kd.C_string (P := Tryd.prog) (A := A0) (c := c0) Tryd.underlying22 Tryd.underlying5 Tryd.underlying9 (Kd.C_below HR185.out HB.out); have hcv7z := hcv7; (try rw [List.length_drop, List.length_take, Nat.min_eq_left (Int.toNat_le.mpr dt)] at hcv7z); have hcv7y := hcv7; (try rw [List.length_take, Nat.min_eq_left (Int.toNat_le.mpr dt)] at hcv7y); have hcv7x := hcv7; (try rw [List.length_take, mM] at hcv7x); have hcv7m := hcv7; (try simp only [Int.reduceToNat, List.length_take] at hcv7m); have hcv7q := fun (q_ : Nat) => Kd.C_string (P := Tryd.prog) (A := A0) (c := c0) Tryd.underlying22 Tryd.underlying5 Tryd.underlying9 (Kd.C_drewN (Kd.C_below HR185.out HB.out) q_); have hcv7qy := hcv7q; (try simp only [List.length_take, Nat.min_eq_left (Int.toNat_le.mpr dt)] at hcv7qy); have hcv7qw := hcv7q; (try simp only [Int.reduceToNat] at hcv7qw); have hcv7qv := hcv7qy; (try simp only [Int.reduceToNat] at hcv7qv); have hcv7qu := hcv7q; (try simp only [Int.reduceToNat, List.length_take] at hcv7qu))))
   refine bodyPost_ret (results_list (rs := [.tmp 2, .tmp 3, .tmp 4, .tmp 5]) rfl (by simp) (.tmp (.tmp (.tmp (.tmp .nil))))) rfl ?_
   exact ⟨eR, bAt HB.out⟩
  ·exact nB H c4
 ·exact nB H c3
end Go.Proofs.YtklpephnbkoinaaDoor.P
