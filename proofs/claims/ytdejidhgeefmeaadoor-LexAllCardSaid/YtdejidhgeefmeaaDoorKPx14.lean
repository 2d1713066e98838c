/- Part of the proof: what the theorem needs of this text. -/
import Derived.Test.YtdejidhgeefmeaaDoorKPx0
import Derived.Test.YtdejidhgeefmeaaDoorKPx12
import Derived.Test.YtdejidhgeefmeaaDoorKPx13
namespace Go.Proofs.YtdejidhgeefmeaaDoor.P
open Go.RowKit Go.Proofs.YtdejidhgeefmeaaDoorW.PrintWords Go.Proofs.YtdejidhgeefmeaaDoorW.PrintLast Go.Proofs.YtdejidhgeefmeaaDoorW.PrintMore
attribute [local go_sem] max2_int min2_int max_two min_two max_three min_three max_four min_four   -- for this text's walks alone
set_option linter.unusedVariables false
set_option linter.unusedSimpArgs false
mutual
def tmesisref04_Take.l0 : Nat → List Int → List Int → Int → Option (List Int × Int × Int)
 | 0, _, _, _ => none
 | k + 1, x0, x5, x6 => if x6 < (x0.length : Int) then (if 0 ≤ x6 then (tmesisref04_Take.j1 k x0 x5 x6 ((rd x0 x6) != 10)) else (none)) else (tmesisref04_Take.j1 k x0 x5 x6 false)
def tmesisref04_Take.j1 : Nat → List Int → List Int → Int → Bool → Option (List Int × Int × Int)
 | 0, _, _, _, _ => none
 | k + 1, x0, x5, x6, x25 => if x25 = true then (if 0 ≤ x6 then (if x6 < (x0.length : Int) then ((tmesisref04_at.f x0 (wrap64 (x6 + 1))).bind fun t289 => (if (rd x0 x6) = 39 then (if t289 = 39 then (if x5.length < 140737488355328 then (tmesisref04_Take.l0 k x0 (x5 ++ [39]) (wrap64 (x6 + 2))) else (none)) else (some (x5, wrap64 (x6 + 1), 0))) else (if (rd x0 x6) = 92 then (if t289 = 110 then (tmesisref04_Take.j2 k x0 x5 x6 t289 false) else (if t289 = 92 then (tmesisref04_Take.j2 k x0 x5 x6 t289 false) else (tmesisref04_Take.j2 k x0 x5 x6 t289 (t289 != 39)))) else (if (rd x0 x6) < 32 then (tmesisref04_Take.j3 k x0 x5 x6 true) else (tmesisref04_Take.j3 k x0 x5 x6 ((rd x0 x6) == 127)))))) else (none)) else (none)) else (some (([] : List Int), x6, 12))
def tmesisref04_Take.j2 : Nat → List Int → List Int → Int → Int → Bool → Option (List Int × Int × Int)
 | 0, _, _, _, _, _ => none
 | k + 1, x0, x5, x6, x8, x57 => if x57 = true then (some (([] : List Int), x6, 13)) else (if x8 = 110 then (if x5.length < 140737488355328 then (tmesisref04_Take.l0 k x0 (x5 ++ [10]) (wrap64 (x6 + 2))) else (none)) else (if x5.length < 140737488355328 then (tmesisref04_Take.l0 k x0 (x5 ++ [x8]) (wrap64 (x6 + 2))) else (none)))
def tmesisref04_Take.j3 : Nat → List Int → List Int → Int → Bool → Option (List Int × Int × Int)
 | 0, _, _, _, _ => none
 | k + 1, x0, x5, x6, x72 => if x72 = true then (some (([] : List Int), x6, 11)) else (if 0 ≤ x6 then (if x6 ≤ (x0.length : Int) then ((tmesisref01_Take.f k (x0.drop (x6 : Int).toNat)).bind fun bt300 => (if bt300.2 = true then (if x6 ≤ (wrap64 (x6 + bt300.1)) then (if (wrap64 (x6 + bt300.1)) ≤ (x0.length : Int) then (if x5.length + ((x0.take ((wrap64 (x6 + bt300.1)) : Int).toNat).drop (x6 : Int).toNat).length < 140737488355328 then (tmesisref04_Take.l0 k x0 (x5 ++ ((x0.take ((wrap64 (x6 + bt300.1)) : Int).toNat).drop (x6 : Int).toNat)) (wrap64 (x6 + bt300.1))) else (none)) else (none)) else (none)) else (some (([] : List Int), x6, 10)))) else (none)) else (none))
end
def tmesisref04_Take.f (k : Nat) (l0 : List Int) : Option (List Int × Int × Int) := (tmesisref04_at.f l0 0).bind fun t283 => (if t283 = 39 then (tmesisref04_Take.l0 k l0 (([] : List Int)) 1) else (some (([] : List Int), 0, 2)))
theorem tmesisref04_Take.mono_l : ∀ k, (∀ y0 y1 y2, LeO (tmesisref04_Take.l0 k y0 y1 y2) (tmesisref04_Take.l0 (k + 1) y0 y1 y2)) ∧ (∀ y0 y1 y2 y3, LeO (tmesisref04_Take.j1 k y0 y1 y2 y3) (tmesisref04_Take.j1 (k + 1) y0 y1 y2 y3)) ∧ (∀ y0 y1 y2 y3 y4, LeO (tmesisref04_Take.j2 k y0 y1 y2 y3 y4) (tmesisref04_Take.j2 (k + 1) y0 y1 y2 y3 y4)) ∧ (∀ y0 y1 y2 y3, LeO (tmesisref04_Take.j3 k y0 y1 y2 y3) (tmesisref04_Take.j3 (k + 1) y0 y1 y2 y3))
 | 0 => ⟨fun _ _ _ r h => by simp [tmesisref04_Take.l0] at h, fun _ _ _ _ r h => by simp [tmesisref04_Take.j1] at h, fun _ _ _ _ _ r h => by simp [tmesisref04_Take.j2] at h, fun _ _ _ _ r h => by simp [tmesisref04_Take.j3] at h⟩
 | k + 1 => by
  obtain ⟨ih0, ih1, ih2, ih3⟩ := tmesisref04_Take.mono_l k
  refine ⟨?_, ?_, ?_, ?_⟩
  ·intro y0 y1 y2
   unfold tmesisref04_Take.l0
   repeat' with_reducible first | exact ih0 _ _ _ | exact ih1 _ _ _ _ | exact ih2 _ _ _ _ _ | exact ih3 _ _ _ _ | exact tmesisref01_Take.mono _ _ | exact LeO.refl _ | exact LeO.none _ | refine LeO.ite ?_ ?_ | refine LeO.bind ?_ (fun _ => ?_)
  ·intro y0 y1 y2 y3
   unfold tmesisref04_Take.j1
   repeat' with_reducible first | exact ih0 _ _ _ | exact ih1 _ _ _ _ | exact ih2 _ _ _ _ _ | exact ih3 _ _ _ _ | exact tmesisref01_Take.mono _ _ | exact LeO.refl _ | exact LeO.none _ | refine LeO.ite ?_ ?_ | refine LeO.bind ?_ (fun _ => ?_)
  ·intro y0 y1 y2 y3 y4
   unfold tmesisref04_Take.j2
   repeat' with_reducible first | exact ih0 _ _ _ | exact ih1 _ _ _ _ | exact ih2 _ _ _ _ _ | exact ih3 _ _ _ _ | exact tmesisref01_Take.mono _ _ | exact LeO.refl _ | exact LeO.none _ | refine LeO.ite ?_ ?_ | refine LeO.bind ?_ (fun _ => ?_)
  ·intro y0 y1 y2 y3
   unfold tmesisref04_Take.j3
   repeat' with_reducible first | exact ih0 _ _ _ | exact ih1 _ _ _ _ | exact ih2 _ _ _ _ _ | exact ih3 _ _ _ _ | exact tmesisref01_Take.mono _ _ | exact LeO.refl _ | exact LeO.none _ | refine LeO.ite ?_ ?_ | refine LeO.bind ?_ (fun _ => ?_)
theorem tmesisref04_Take.mono : ∀ a0 k, LeO (tmesisref04_Take.f k a0) (tmesisref04_Take.f (k + 1) a0) := by
 intro a0 k
 obtain ⟨ih0, ih1, ih2, ih3⟩ := tmesisref04_Take.mono_l k
 unfold tmesisref04_Take.f
 repeat' with_reducible first | exact ih0 _ _ _ | exact ih1 _ _ _ _ | exact ih2 _ _ _ _ _ | exact ih3 _ _ _ _ | exact tmesisref01_Take.mono _ _ | exact LeO.refl _ | exact LeO.none _ | refine LeO.ite ?_ ?_ | refine LeO.bind ?_ (fun _ => ?_)
set_option maxHeartbeats 8000000 in
set_option maxRecDepth 100000 in
theorem tmesisref04_Take.calls (k : Nat) (A0 : Option Addr) (c0 : Nat) (l0 : List Int) (r1 : List Int) (r2 : Int) (r3 : Int) (w : World) (hr0 : Kd.C (Kd.int .u8) w A0 l0.length l0) (hc0 : l0.length ≤ c0) (h : tmesisref04_Take.f k l0 = some (r1, r2, r3)) :
  Calls Tryd.prog 25 #[.slice A0 l0.length c0] w fun e w' => ∃ v0_ : Value, e = .returned (.tuple #[v0_, .int .i64 r2, .int .i64 r3]) ∧ Kd.R (Kd.int .u8) 5 w' w.heap.size (fun _ => True) v0_ r1 ∧ Below w.heap.size w w' := by
 have HR0 := Aside0.mk hr0
 have HC0 := Aside0.mk hc0
 clear hr0 hc0
 have HB := Aside0.mk (Below.refl w.heap.size w)
 have H : ((tmesisref04_at.f l0 0).bind fun t283 => (if t283 = 39 then (tmesisref04_Take.l0 k l0 (([] : List Int)) 1) else (some (([] : List Int), 0, 2)))) = some (r1, r2, r3) := h
 clear h
 obtain ⟨t283, A2, H⟩ := bE H
 by_cases c3 : t283 = 39
 ·rw [if_pos c3] at H
  obtain ⟨c3b0, c3b1⟩ := eqB c3
  clear c3
  obtain ⟨y284, hy284⟩ : ∃ y_ : List Int, y_ = (([] : List Int)) := ⟨_, rfl⟩
  replace H : (tmesisref04_Take.l0 k l0 y284 1) = some (r1, r2, r3) := by first | (rw [hy284]; with_reducible exact H) | (have H2_ := (Option.bind_some _ _).symm.trans H; rw [hy284]; with_reducible exact H2_) | (have H2_ := (Option.bind_some _ _).symm.trans H; with_reducible exact H2_) | with_reducible exact H | (rw [hy284]; exact H) | exact H
  have Ny284 := Aside0.mk hy284
  clear hy284
  have H' := Aside0.mk H
  clear H
  go_enter Tryd.func25, Tryd.ntmps25
  go_wp2_with (first | ((with_reducible refine gate_callee (f := 35) rfl ?_); refine gL (some 12) Tryd.func35 #[.slice A0 l0.length c0, .int .i64 0] rfl gA ?_; (with_reducible refine (tmesisref04_at.calls _ _ l0 0 t283 _ ?side1 ?side2 A2.out).mono ?_); (case side1 => exact CAt HR0.out); (case side2 => exact HC0.out); rintro e w' ⟨rfl, ⟨nd, rfl⟩⟩; refine ⟨_, rfl, ?_⟩) | ((with_reducible refine gate_dst (N := 14) rfl ?_); refine Kd.R_lit (Kd.int .u8) _ 5 ?hg (N := 14) ?hd (xs := ([] : List Int)) (inner := []) (ok := fun _ => True) (okp := fun _ => True) ?hr ?hp (fun _ hk => hk) trivial (Below.refl _ _) (Nat.le_refl _) (by simp) ?_; (case hd => rfl); (case hg => rfl); (case hr => first | (go_simp; done) | (go_simp; rfl)); (case hp => exact (Reps.none _ _)); intro v285 w4 ho5 hb hg_ hnew_; clear hg_ hnew_; (first | rw [← Ny284.out] at ho5 | (simp only [Int.reduceToNat] at ho5; rw [← Ny284.out] at ho5)); have HO286 := Aside0.mk (Kd.R_lower ho5 (below_size (bAt HB.out))); replace HB := Aside0.mk (below_step (bAt HB.out) hb); clear hb ho5))
  go_loopg [5, 6] k (fun kq v5 v6 w' => ∃ (x5_1 : List Int) (x6_1 : Int), v6 = .int .i64 x6_1 ∧ Aside0 (tmesisref04_Take.l0 kq l0 x5_1 x6_1 = some (r1, r2, r3)) ∧ Aside0 (kq ≤ k) ∧ Aside0 (Kd.R (Kd.int .u8) 5 w' w.heap.size (fun _ => True) v5 x5_1) ∧ Aside0 (Below w.heap.size w w'))
  case atStart => exact ⟨(y284), (1), sR, H', ⟨Nat.le_refl _⟩, ⟨RAt HO286.out⟩, ⟨bAt HB.out⟩⟩
  case round =>
   clear H'
   try clear c2
   try clear p2
   try clear c3
   try clear c3b0 c3b1
   obtain ⟨x5_1, x6_1, rfl, HA, HK1, HO_5, HB⟩ := hrel
   cases gk with
   | zero => exact absurd HA.out (by simp [tmesisref04_Take.l0])
   | succ k1 =>
    have H := HA.out
    clear HA
    simp only [tmesisref04_Take.l0] at H
    have HC6 := Aside0.mk H
    clear H
    go_upto_region 5 with (fail)
    go_cut [25] (fun v25 wc => ∃ (kq : Nat) (x25_5 : Bool), v25 = .bool x25_5 ∧ Aside0 (tmesisref04_Take.j1 kq l0 x5_1 x6_1 x25_5 = some (r1, r2, r3)) ∧ Aside0 (kq ≤ k1) ∧ Aside0 (Kd.R (Kd.int .u8) 5 wc w.heap.size (fun _ => True) u5 x5_1) ∧ Aside0 (Below w.heap.size w wc))
    case first =>
     have H := HC6.out
     clear HC6
     by_cases c7 : x6_1 < (l0.length : Int)
     ·rw [if_pos c7] at H
      have c7b0 := decide_eq_true c7
      clear c7
      (first | rw [c7b0] | (simp only [i64_w, i32_w]; rw [c7b0]) | skip)
      by_cases c8 : 0 ≤ x6_1
      ·rw [if_pos c8] at H
       have c8b0 := decide_eq_true c8
       clear c8
       have H' := Aside0.mk H
       clear H
       have p287 : 0 ≤ (x6_1 : Int) := dt
       have q287 : x6_1 < (l0.length : Int) := dt
       obtain ⟨ad287, e287, hx287_0⟩ := Kd.at_int HR0.out x6_1 p287 q287
       cases e287
       replace hx287_0 := pw_cell_below HB.out hx287_0
       replace p287 := eq_true p287
       replace q287 := eq_true q287
       go_wp2
       go_meet
       case rel => exact ⟨_, (((rd l0 x6_1) != 10)), sR, H', ⟨by have := HK1.out; first | omega | exact Nat.le_refl _⟩, ⟨RAt HO_5.out⟩, ⟨bAt HB.out⟩⟩
      ·exact nB H c8
     ·rw [if_neg c7] at H
      have c7b0 := decide_eq_false c7
      clear c7
      (first | rw [c7b0] | (simp only [i64_w, i32_w]; rw [c7b0]) | skip)
      have H' := Aside0.mk H
      clear H
      go_wp2
      go_meet
      case rel => exact ⟨_, (false), sR, H', ⟨by have := HK1.out; first | omega | exact Nat.le_refl _⟩, ⟨RAt HO_5.out⟩, ⟨bAt HB.out⟩⟩
    case rest =>
     clear HC6
     try clear c2
     try clear p2
     try clear q2
     try clear hx2
     try clear c3
     try clear c3b0 c3b1
     try clear c7
     try clear c7b0
     try clear c8
     try clear c8b0
     try clear hx287_0
     try clear p2
     try clear p287
     try clear q287
     obtain ⟨kq, x25_5, rfl, HA, HJ5, HO_5, HB⟩ := hcut
     cases kq with
     | zero => exact absurd HA.out (by simp [tmesisref04_Take.j1])
     | succ kj5 =>
      have H := HA.out
      clear HA
      simp only [tmesisref04_Take.j1] at H
      by_cases c9 : x25_5 = true
      ·subst c9
       replace H := tP H
       by_cases c10 : 0 ≤ x6_1
       ·rw [if_pos c10] at H
        have c10b0 := decide_eq_true c10
        clear c10
        by_cases c11 : x6_1 < (l0.length : Int)
        ·rw [if_pos c11] at H
         have c11b0 := decide_eq_true c11
         clear c11
         obtain ⟨t289, A12, H⟩ := bE H
         by_cases c13 : (rd l0 x6_1) = 39
         ·rw [if_pos c13] at H
          obtain ⟨c13b0, c13b1⟩ := eqB c13
          clear c13
          by_cases c14 : t289 = 39
          ·rw [if_pos c14] at H
           obtain ⟨c14b0, c14b1⟩ := eqB c14
           clear c14
           by_cases c15 : x5_1.length < 140737488355328
           ·rw [if_pos c15] at H
            have LMc15 := Aside0.mk c15
            clear c15
            obtain ⟨y290, hy290⟩ : ∃ y_ : List Int, y_ = (x5_1 ++ [39]) := ⟨_, rfl⟩
            replace H : (tmesisref04_Take.l0 kj5 l0 y290 (wrap64 (x6_1 + 2))) = some (r1, r2, r3) := by first | (rw [hy290]; with_reducible exact H) | (have H2_ := (Option.bind_some _ _).symm.trans H; rw [hy290]; with_reducible exact H2_) | (have H2_ := (Option.bind_some _ _).symm.trans H; with_reducible exact H2_) | with_reducible exact H | (rw [hy290]; exact H) | exact H
            have Ny290 := Aside0.mk hy290
            clear hy290
            have H' := Aside0.mk H
            clear H
            have p288 : 0 ≤ (x6_1 : Int) := dt
            have q288 : x6_1 < (l0.length : Int) := dt
            obtain ⟨ad288, e288, hx288_0⟩ := Kd.at_int HR0.out x6_1 p288 q288
            cases e288
            replace hx288_0 := pw_cell_below HB.out hx288_0
            replace p288 := eq_true p288
            replace q288 := eq_true q288
            go_wp2_with (first | ((with_reducible refine gate_callee (f := 35) rfl ?_); refine gL (some 33) Tryd.func35 #[.slice (some ad288) l0.length c0, .int .i64 (wrap64 (x6_1 + 1))] rfl gA ?_; (with_reducible refine (tmesisref04_at.calls _ _ l0 (wrap64 (x6_1 + 1)) t289 _ ?side1 ?side2 A12.out).mono ?_); (case side1 => exact CAt (Kd.C_below HR0.out HB.out)); (case side2 => exact HC0.out); rintro e w' ⟨rfl, ⟨nd, rfl⟩⟩; refine ⟨_, rfl, ?_⟩) | ((with_reducible refine gate_builtin (b := .append) (xs := #[.tmp 41, .tmp 42]) rfl ?_); at_builtin; refine Kd.R_append (Kd.int .u8) (w0 := w) w.heap.size rfl (.tmp 41) (.tmp 42) 22 5 (.int .u8 0) 1 rfl Tryd.underlying22 info5 rfl (by decide) (by omega) u5 x5_1 39 [.int .u8 39] (fun _ => True) (fun _ => False) rfl rfl ?aP (fun _ hk => hk.elim) ?aF ?aO ?aB ?aS ?aL ?_; (case aP => exact rfl); (case aB => exact (bAt HB.out)); (case aF => exact (fun _ _ => trivial)); (case aO => exact (RAt HO_5.out)); (case aS => exact (below_size (bAt HB.out))); (case aL => have := LMc15.out; omega); intro v291 w16 ho hb hg hat; rw [← Ny290.out] at ho; replace HB := Aside0.mk (hb); have HO292 := Aside0.mk (ho); clear HO_5; clear ho hb hg hat))
            go_roundg kj5
            case measure => have := HK1.out; have := HJ5.out; omega
            case rel => exact ⟨(y290), (wrap64 (x6_1 + 2)), sR, H', ⟨by have := HK1.out; have := HJ5.out; omega⟩, ⟨RAt HO292.out⟩, ⟨bAt HB.out⟩⟩
           ·exact nB H c15
          ·rw [if_neg c14] at H
           obtain ⟨c14b0, c14b1⟩ := neB c14
           simp only [Option.some.injEq, Prod.mk.injEq] at H
           obtain ⟨rfl, rfl, rfl⟩ := H
           have p288 : 0 ≤ (x6_1 : Int) := dt
           have q288 : x6_1 < (l0.length : Int) := dt
           obtain ⟨ad288, e288, hx288_0⟩ := Kd.at_int HR0.out x6_1 p288 q288
           cases e288
           replace hx288_0 := pw_cell_below HB.out hx288_0
           replace p288 := eq_true p288
           replace q288 := eq_true q288
           go_wp2_with (first | ((with_reducible refine gate_callee (f := 35) rfl ?_); refine gL (some 33) Tryd.func35 #[.slice (some ad288) l0.length c0, .int .i64 (wrap64 (x6_1 + 1))] rfl gA ?_; (with_reducible refine (tmesisref04_at.calls _ _ l0 (wrap64 (x6_1 + 1)) t289 _ ?side1 ?side2 A12.out).mono ?_); (case side1 => exact CAt (Kd.C_below HR0.out HB.out)); (case side2 => exact HC0.out); rintro e w' ⟨rfl, ⟨nd, rfl⟩⟩; refine ⟨_, rfl, ?_⟩))
           go_ret3
           exact ⟨_, eR, RAt HO_5.out, bAt HB.out⟩
         ·rw [if_neg c13] at H
          obtain ⟨c13b0, c13b1⟩ := neB c13
          by_cases c17 : (rd l0 x6_1) = 92
          ·rw [if_pos c17] at H
           obtain ⟨c17b0, c17b1⟩ := eqB c17
           clear c17
           have HC18 := Aside0.mk H
           clear H
           have p288 : 0 ≤ (x6_1 : Int) := dt
           have q288 : x6_1 < (l0.length : Int) := dt
           obtain ⟨ad288, e288, hx288_0⟩ := Kd.at_int HR0.out x6_1 p288 q288
           cases e288
           replace hx288_0 := pw_cell_below HB.out hx288_0
           replace p288 := eq_true p288
           replace q288 := eq_true q288
           go_upto_region 14 with (first | ((with_reducible refine gate_callee (f := 35) rfl ?_); refine gL (some 33) Tryd.func35 #[.slice (some ad288) l0.length c0, .int .i64 (wrap64 (x6_1 + 1))] rfl gA ?_; (with_reducible refine (tmesisref04_at.calls _ _ l0 (wrap64 (x6_1 + 1)) t289 _ ?side1 ?side2 A12.out).mono ?_); (case side1 => exact CAt (Kd.C_below HR0.out HB.out)); (case side2 => exact HC0.out); rintro e w' ⟨rfl, ⟨nd, rfl⟩⟩; refine ⟨_, rfl, ?_⟩))
           (try simp only [Act.put, List.setIfInBounds_toArray, List.set_cons_zero, List.set_cons_succ])
           go_cut [57] (fun v57 wc => ∃ (kq : Nat) (x57_17 : Bool), v57 = .bool x57_17 ∧ Aside0 (tmesisref04_Take.j2 kq l0 x5_1 x6_1 t289 x57_17 = some (r1, r2, r3)) ∧ Aside0 (kq ≤ kj5) ∧ Aside0 (Kd.R (Kd.int .u8) 5 wc w.heap.size (fun _ => True) u5 x5_1) ∧ Aside0 (Below w.heap.size w wc))
           case first =>
            have H := HC18.out
            clear HC18
            by_cases c19 : t289 = 110
            ·rw [if_pos c19] at H
             obtain ⟨c19b0, c19b1⟩ := eqB c19
             clear c19
             (first | rw [c19b0] | (simp only [i64_w, i32_w]; rw [c19b0]) | skip)
             have H' := Aside0.mk H
             clear H
             go_wp2
             go_meet
             case rel => exact ⟨_, (false), sR, H', ⟨by have := HK1.out; have := HJ5.out; first | omega | exact Nat.le_refl _⟩, ⟨RAt HO_5.out⟩, ⟨bAt HB.out⟩⟩
            ·rw [if_neg c19] at H
             obtain ⟨c19b0, c19b1⟩ := neB c19
             (first | rw [c19b0] | (simp only [i64_w, i32_w]; rw [c19b0]) | skip)
             by_cases c20 : t289 = 92
             ·rw [if_pos c20] at H
              obtain ⟨c20b0, c20b1⟩ := eqB c20
              clear c20
              have H' := Aside0.mk H
              clear H
              go_wp2
              go_meet
              case rel => exact ⟨_, (false), sR, H', ⟨by have := HK1.out; have := HJ5.out; first | omega | exact Nat.le_refl _⟩, ⟨RAt HO_5.out⟩, ⟨bAt HB.out⟩⟩
             ·rw [if_neg c20] at H
              obtain ⟨c20b0, c20b1⟩ := neB c20
              have H' := Aside0.mk H
              clear H
              go_wp2
              go_meet
              case rel => exact ⟨_, ((t289 != 39)), sR, H', ⟨by have := HK1.out; have := HJ5.out; first | omega | exact Nat.le_refl _⟩, ⟨RAt HO_5.out⟩, ⟨bAt HB.out⟩⟩
           case rest =>
            clear HC18
            try clear c1
            try clear c2
            try clear p2
            try clear q2
            try clear hx2
            try clear c3
            try clear c3b0 c3b1
            try clear p6
            try clear c7
            try clear c7b0
            try clear c8
            try clear c8b0
            try clear c9
            try clear c10
            try clear c10b0
            try clear c11
            try clear c11b0
            try clear c13
            try clear c13b0 c13b1
            try clear c14
            try clear c14b0 c14b1
            try clear c15
            try clear c17
            try clear c17b0 c17b1
            try clear c19
            try clear c19b0 c19b1
            try clear c20
            try clear c20b0 c20b1
            try clear hx287_0
            try clear hx288_0
            try clear p2
            try clear p287
            try clear p288
            try clear q2
            try clear q287
            try clear q288
            obtain ⟨kq, x57_17, rfl, HA, HJ17, HO_5, HB⟩ := hcut
            cases kq with
            | zero => exact absurd HA.out (by simp [tmesisref04_Take.j2])
            | succ kj17 =>
             have H := HA.out
             clear HA
             simp only [tmesisref04_Take.j2] at H
             by_cases c21 : x57_17 = true
             ·subst c21
              replace H := tP H
              simp only [Option.some.injEq, Prod.mk.injEq] at H
              obtain ⟨rfl, rfl, rfl⟩ := H
              go_wp2
              go_ret3
              exact ⟨_, eR, by first | exact Kd.R_nil _ _ _ _ _ | exact Kd.N_nil _ _ _ _ _ | exact Kd.V_nil _ _ _ _ _ | exact Kd.Q_nil _ _ _ _ _ | exact Kd.S_nil _ _ _ _ _, bAt HB.out⟩
             ·replace c21 := Bool.eq_false_iff.mpr c21
              subst c21
              replace H := fP H
              by_cases c22 : t289 = 110
              ·rw [if_pos c22] at H
               obtain ⟨c22b0, c22b1⟩ := eqB c22
               clear c22
               by_cases c23 : x5_1.length < 140737488355328
               ·rw [if_pos c23] at H
                have LMc23 := Aside0.mk c23
                clear c23
                obtain ⟨y293, hy293⟩ : ∃ y_ : List Int, y_ = (x5_1 ++ [10]) := ⟨_, rfl⟩
                replace H : (tmesisref04_Take.l0 kj17 l0 y293 (wrap64 (x6_1 + 2))) = some (r1, r2, r3) := by first | (rw [hy293]; with_reducible exact H) | (have H2_ := (Option.bind_some _ _).symm.trans H; rw [hy293]; with_reducible exact H2_) | (have H2_ := (Option.bind_some _ _).symm.trans H; with_reducible exact H2_) | with_reducible exact H | (rw [hy293]; exact H) | exact H
                have Ny293 := Aside0.mk hy293
                clear hy293
                have H' := Aside0.mk H
                clear H
                go_wp2_with (first | ((with_reducible refine gate_builtin (b := .append) (xs := #[.tmp 61, .tmp 63]) rfl ?_); at_builtin; refine Kd.R_append (Kd.int .u8) (w0 := w) w.heap.size rfl (.tmp 61) (.tmp 63) 22 5 (.int .u8 0) 1 rfl Tryd.underlying22 info5 rfl (by decide) (by omega) u5 x5_1 10 [.int .u8 10] (fun _ => True) (fun _ => False) rfl rfl ?aP (fun _ hk => hk.elim) ?aF ?aO ?aB ?aS ?aL ?_; (case aP => exact rfl); (case aB => exact (bAt HB.out)); (case aF => exact (fun _ _ => trivial)); (case aO => exact (RAt HO_5.out)); (case aS => exact (below_size (bAt HB.out))); (case aL => have := LMc23.out; omega); intro v294 w24 ho hb hg hat; rw [← Ny293.out] at ho; replace HB := Aside0.mk (hb); have HO295 := Aside0.mk (ho); clear HO_5; clear ho hb hg hat))
                go_roundg kj17
                case measure => have := HK1.out; have := HJ5.out; have := HJ17.out; omega
                case rel => exact ⟨(y293), (wrap64 (x6_1 + 2)), sR, H', ⟨by have := HK1.out; have := HJ5.out; have := HJ17.out; omega⟩, ⟨RAt HO295.out⟩, ⟨bAt HB.out⟩⟩
               ·exact nB H c23
              ·rw [if_neg c22] at H
               obtain ⟨c22b0, c22b1⟩ := neB c22
               by_cases c25 : x5_1.length < 140737488355328
               ·rw [if_pos c25] at H
                have LMc25 := Aside0.mk c25
                clear c25
                obtain ⟨y296, hy296⟩ : ∃ y_ : List Int, y_ = (x5_1 ++ [t289]) := ⟨_, rfl⟩
                replace H : (tmesisref04_Take.l0 kj17 l0 y296 (wrap64 (x6_1 + 2))) = some (r1, r2, r3) := by first | (rw [hy296]; with_reducible exact H) | (have H2_ := (Option.bind_some _ _).symm.trans H; rw [hy296]; with_reducible exact H2_) | (have H2_ := (Option.bind_some _ _).symm.trans H; with_reducible exact H2_) | with_reducible exact H | (rw [hy296]; exact H) | exact H
                have Ny296 := Aside0.mk hy296
                clear hy296
                have H' := Aside0.mk H
                clear H
                go_wp2_with (first | ((with_reducible refine gate_builtin (b := .append) (xs := #[.tmp 61, .tmp 63]) rfl ?_); at_builtin; refine Kd.R_append (Kd.int .u8) (w0 := w) w.heap.size rfl (.tmp 61) (.tmp 63) 22 5 (.int .u8 0) 1 rfl Tryd.underlying22 info5 rfl (by decide) (by omega) u5 x5_1 t289 [.int .u8 t289] (fun _ => True) (fun _ => False) rfl rfl ?aP (fun _ hk => hk.elim) ?aF ?aO ?aB ?aS ?aL ?_; (case aP => exact rfl); (case aB => exact (bAt HB.out)); (case aF => exact (fun _ _ => trivial)); (case aO => exact (RAt HO_5.out)); (case aS => exact (below_size (bAt HB.out))); (case aL => have := LMc25.out; omega); intro v297 w26 ho hb hg hat; rw [← Ny296.out] at ho; replace HB := Aside0.mk (hb); have HO298 := Aside0.mk (ho); clear HO_5; clear ho hb hg hat))
                go_roundg kj17
                case measure => have := HK1.out; have := HJ5.out; have := HJ17.out; omega
                case rel => exact ⟨(y296), (wrap64 (x6_1 + 2)), sR, H', ⟨by have := HK1.out; have := HJ5.out; have := HJ17.out; omega⟩, ⟨RAt HO298.out⟩, ⟨bAt HB.out⟩⟩
               ·exact nB H c25
          ·rw [if_neg c17] at H
           obtain ⟨c17b0, c17b1⟩ := neB c17
           have HC27 := Aside0.mk H
           clear H
           have p288 : 0 ≤ (x6_1 : Int) := dt
           have q288 : x6_1 < (l0.length : Int) := dt
           obtain ⟨ad288, e288, hx288_0⟩ := Kd.at_int HR0.out x6_1 p288 q288
           cases e288
           replace hx288_0 := pw_cell_below HB.out hx288_0
           replace p288 := eq_true p288
           replace q288 := eq_true q288
           go_upto_region 20 with (first | ((with_reducible refine gate_callee (f := 35) rfl ?_); refine gL (some 33) Tryd.func35 #[.slice (some ad288) l0.length c0, .int .i64 (wrap64 (x6_1 + 1))] rfl gA ?_; (with_reducible refine (tmesisref04_at.calls _ _ l0 (wrap64 (x6_1 + 1)) t289 _ ?side1 ?side2 A12.out).mono ?_); (case side1 => exact CAt (Kd.C_below HR0.out HB.out)); (case side2 => exact HC0.out); rintro e w' ⟨rfl, ⟨nd, rfl⟩⟩; refine ⟨_, rfl, ?_⟩))
           (try simp only [Act.put, List.setIfInBounds_toArray, List.set_cons_zero, List.set_cons_succ])
           go_cut [72] (fun v72 wc => ∃ (kq : Nat) (x72_26 : Bool), v72 = .bool x72_26 ∧ Aside0 (tmesisref04_Take.j3 kq l0 x5_1 x6_1 x72_26 = some (r1, r2, r3)) ∧ Aside0 (kq ≤ kj5) ∧ Aside0 (Kd.R (Kd.int .u8) 5 wc w.heap.size (fun _ => True) u5 x5_1) ∧ Aside0 (Below w.heap.size w wc))
           case first =>
            have H := HC27.out
            clear HC27
            by_cases c28 : (rd l0 x6_1) < 32
            ·rw [if_pos c28] at H
             have c28b0 := decide_eq_true c28
             clear c28
             (first | rw [c28b0] | (simp only [i64_w, i32_w]; rw [c28b0]) | skip)
             have H' := Aside0.mk H
             clear H
             go_wp2
             go_meet
             case rel => exact ⟨_, (true), sR, H', ⟨by have := HK1.out; have := HJ5.out; first | omega | exact Nat.le_refl _⟩, ⟨RAt HO_5.out⟩, ⟨bAt HB.out⟩⟩
            ·rw [if_neg c28] at H
             have c28b0 := decide_eq_false c28
             clear c28
             (first | rw [c28b0] | (simp only [i64_w, i32_w]; rw [c28b0]) | skip)
             have H' := Aside0.mk H
             clear H
             go_wp2
             go_meet
             case rel => exact ⟨_, (((rd l0 x6_1) == 127)), sR, H', ⟨by have := HK1.out; have := HJ5.out; first | omega | exact Nat.le_refl _⟩, ⟨RAt HO_5.out⟩, ⟨bAt HB.out⟩⟩
           case rest =>
            clear HC27
            try clear c1
            try clear c2
            try clear p2
            try clear q2
            try clear hx2
            try clear c3
            try clear c3b0 c3b1
            try clear p6
            try clear c7
            try clear c7b0
            try clear c8
            try clear c8b0
            try clear c9
            try clear c10
            try clear c10b0
            try clear c11
            try clear c11b0
            try clear c13
            try clear c13b0 c13b1
            try clear c14
            try clear c14b0 c14b1
            try clear c15
            try clear c17
            try clear c17b0 c17b1
            try clear c19
            try clear c19b0 c19b1
            try clear c20
            try clear c20b0 c20b1
            try clear c21
            try clear c22
            try clear c22b0 c22b1
            try clear c23
            try clear c25
            try clear c28
            try clear c28b0
            try clear p28
            try clear q28
            try clear hx28
            try clear hx287_0
            try clear hx288_0
            try clear p2
            try clear p287
            try clear p288
            try clear p6
            try clear q2
            try clear q287
            try clear q288
            obtain ⟨kq, x72_26, rfl, HA, HJ26, HO_5, HB⟩ := hcut
            cases kq with
            | zero => exact absurd HA.out (by simp [tmesisref04_Take.j3])
            | succ kj26 =>
             have H := HA.out
             clear HA
             simp only [tmesisref04_Take.j3] at H
             by_cases c29 : x72_26 = true
             ·subst c29
              replace H := tP H
              simp only [Option.some.injEq, Prod.mk.injEq] at H
              obtain ⟨rfl, rfl, rfl⟩ := H
              go_wp2
              go_ret3
              exact ⟨_, eR, by first | exact Kd.R_nil _ _ _ _ _ | exact Kd.N_nil _ _ _ _ _ | exact Kd.V_nil _ _ _ _ _ | exact Kd.Q_nil _ _ _ _ _ | exact Kd.S_nil _ _ _ _ _, bAt HB.out⟩
             ·replace c29 := Bool.eq_false_iff.mpr c29
              subst c29
              replace H := fP H
              by_cases c30 : 0 ≤ x6_1
              ·rw [if_pos c30] at H
               have c30b0 := eq_true c30
               have c30b1 := decide_eq_true c30
               clear c30
               by_cases c31 : x6_1 ≤ (l0.length : Int)
               ·rw [if_pos c31] at H
                have c31b0 := eq_true c31
                have c31b1 := decide_eq_true c31
                clear c31
                obtain ⟨⟨t300, t301⟩, A32, H⟩ := bE H
                replace H : (if t301 = true then (if x6_1 ≤ (wrap64 (x6_1 + t300)) then (if (wrap64 (x6_1 + t300)) ≤ (l0.length : Int) then (if x5_1.length + ((l0.take ((wrap64 (x6_1 + t300)) : Int).toNat).drop (x6_1 : Int).toNat).length < 140737488355328 then (tmesisref04_Take.l0 kj26 l0 (x5_1 ++ ((l0.take ((wrap64 (x6_1 + t300)) : Int).toNat).drop (x6_1 : Int).toNat)) (wrap64 (x6_1 + t300))) else (none)) else (none)) else (none)) else (some (([] : List Int), x6_1, 10))) = some (r1, r2, r3) := H
                by_cases c33 : t301 = true
                ·subst c33
                 replace H := tP H
                 have c34b0 := eq_true (dt : 0 ≤ x6_1)
                 by_cases c35 : x6_1 ≤ (wrap64 (x6_1 + t300))
                 ·rw [if_pos c35] at H
                  have c35b0 := eq_true c35
                  have c35b1 := decide_eq_true c35
                  by_cases c36 : (wrap64 (x6_1 + t300)) ≤ (l0.length : Int)
                  ·rw [if_pos c36] at H
                   have c36b0 := eq_true c36
                   have c36b1 := decide_eq_true c36
                   by_cases c37 : x5_1.length + ((l0.take ((wrap64 (x6_1 + t300)) : Int).toNat).drop (x6_1 : Int).toNat).length < 140737488355328
                   ·rw [if_pos c37] at H
                    have LMc37 := Aside0.mk c37
                    clear c37
                    obtain ⟨y303, hy303⟩ : ∃ y_ : List Int, y_ = (x5_1 ++ ((l0.take ((wrap64 (x6_1 + t300)) : Int).toNat).drop (x6_1 : Int).toNat)) := ⟨_, rfl⟩
                    replace H : (tmesisref04_Take.l0 kj26 l0 y303 (wrap64 (x6_1 + t300))) = some (r1, r2, r3) := by first | (rw [hy303]; with_reducible exact H) | (have H2_ := (Option.bind_some _ _).symm.trans H; rw [hy303]; with_reducible exact H2_) | (have H2_ := (Option.bind_some _ _).symm.trans H; with_reducible exact H2_) | with_reducible exact H | (rw [hy303]; exact H) | exact H
                    have Ny303 := Aside0.mk hy303
                    clear hy303
                    have H' := Aside0.mk H
                    clear H
                    obtain ⟨i038, hi038, _, hsz38, _⟩ := info_parts info5
                    obtain ⟨A38, hcut38, hA38, hC38⟩ := print_drop_of (P := Tryd.prog) (Value.int .u8) 0 22 5 .i64 Tryd.underlying22 hi038 hsz38 (some ad288) c0 l0 x6_1 dt dt HC0.out
                    have HR299 := Aside0.mk (Kd.C_of_reads (h1 := fun _ => rfl) (hA38 _ (Kd.reads_of_C HR0.out)))
                    have HC299 := Aside0.mk hC38
                    clear hA38 hC38 hi038 hsz38
                    go_wp2_with (first | ((with_reducible refine gate_callee (f := 36) rfl ?_); refine gL (some 78) Tryd.func36 #[.slice A38 (l0.drop (x6_1 : Int).toNat).length (c0 - x6_1.toNat)] rfl (gD l0 (x6_1 : Int).toNat) ?_; (with_reducible refine (tmesisref01_Take.calls kj26 _ _ (l0.drop (x6_1 : Int).toNat) t300 true _ ?side1 ?side2 A32.out).mono ?_); (case side1 => exact CAt (Kd.C_below HR299.out HB.out)); (case side2 => exact HC299.out); rintro e w' ⟨rfl, ⟨nd, rfl⟩⟩; refine ⟨_, rfl, ?_⟩; obtain ⟨i039, hi039, _, hsz39, _⟩ := info_parts info5; obtain ⟨A39, hcut39, hA39, hC39⟩ := print_mid_of (P := Tryd.prog) (Value.int .u8) 0 22 5 .i64 .i64 Tryd.underlying22 hi039 hsz39 (some ad288) c0 l0 x6_1 (wrap64 (x6_1 + t300)) dt (by first | omega | exact dt) dt HC0.out; have HR302 := Aside0.mk (Kd.C_of_reads (h1 := fun _ => rfl) (hA39 _ (Kd.reads_of_C HR0.out))); have HC302 := Aside0.mk hC39; clear hA39 hC39 hi039 hsz39) | ((with_reducible refine gate_builtin (b := .append) (xs := #[.tmp 84, .tmp 90]) rfl ?_); at_builtin; refine Kd.R_append_rows (Kd.int .u8) (w0 := w) w.heap.size rfl (.tmp 84) (.tmp 90) 22 5 (.int .u8 0) 1 rfl Tryd.underlying22 info5 rfl (by decide) (by omega) u5 x5_1 ((l0.take ((wrap64 (x6_1 + t300)) : Int).toNat).drop (x6_1 : Int).toNat) _ _ _ (fun _ => True) (fun _ => False) rfl rfl ?aO ?aR (fun _ _ h => h) (fun _ h => h.elim) ?aF ?aB ?aS ?aL ?_; (case aR => first | (refine C_cast (show ((l0.take ((wrap64 (x6_1 + t300)) : Int).toNat).drop (x6_1 : Int).toNat).length = ((wrap64 (x6_1 + t300)).toNat - x6_1.toNat) from (by rw [List.length_drop, List.length_take]; have h_ : ((wrap64 (x6_1 + t300)) : Int) ≤ (l0.length : Int) := dt; omega)) ?_; repeat (first | exact (Kd.C_below HR302.out (bAt HB.out)) | (with_reducible refine Kd.C_alloc ?_ _) | (with_reducible refine Kd.C_drewN ?_ _) | (with_reducible refine Kd.C_drew ?_))) | (rw [← show ((l0.take ((wrap64 (x6_1 + t300)) : Int).toNat).drop (x6_1 : Int).toNat).length = ((wrap64 (x6_1 + t300)).toNat - x6_1.toNat) from (by rw [List.length_drop, List.length_take]; have h_ : ((wrap64 (x6_1 + t300)) : Int) ≤ (l0.length : Int) := dt; omega)]; repeat (first | exact (Kd.C_below HR302.out (bAt HB.out)) | (with_reducible refine Kd.C_alloc ?_ _) | (with_reducible refine Kd.C_drewN ?_ _) | (with_reducible refine Kd.C_drew ?_))) | (repeat (first | exact (Kd.C_below HR302.out (bAt HB.out)) | (with_reducible refine Kd.C_alloc ?_ _) | (with_reducible refine Kd.C_drewN ?_ _) | (with_reducible refine Kd.C_drew ?_)))); (case aB => exact (bAt HB.out)); (case aF => exact (fun _ _ => trivial)); (case aO => exact (RAt HO_5.out)); (case aS => exact (below_size (bAt HB.out))); (case aL => have := LMc37.out; have hlx_ := (show ((l0.take ((wrap64 (x6_1 + t300)) : Int).toNat).drop (x6_1 : Int).toNat).length = ((wrap64 (x6_1 + t300)).toNat - x6_1.toNat) from (by rw [List.length_drop, List.length_take]; have h_ : ((wrap64 (x6_1 + t300)) : Int) ≤ (l0.length : Int) := dt; omega)); omega); intro v304 w40 ho hb hg hat; rw [← Ny303.out] at ho; replace HB := Aside0.mk (hb); have HO305 := Aside0.mk (ho); clear HO_5; clear ho hb hg hat))
                    go_roundg kj26
                    case measure => have := HK1.out; have := HJ5.out; have := HJ26.out; omega
                    case rel => exact ⟨(y303), (wrap64 (x6_1 + t300)), sR, H', ⟨by have := HK1.out; have := HJ5.out; have := HJ26.out; omega⟩, ⟨RAt HO305.out⟩, ⟨bAt HB.out⟩⟩
                   ·exact nB H c37
                  ·exact nB H c36
                 ·exact nB H c35
                ·replace c33 := Bool.eq_false_iff.mpr c33
                 subst c33
                 replace H := fP H
                 simp only [Option.some.injEq, Prod.mk.injEq] at H
                 obtain ⟨rfl, rfl, rfl⟩ := H
                 obtain ⟨i041, hi041, _, hsz41, _⟩ := info_parts info5
                 obtain ⟨A41, hcut41, hA41, hC41⟩ := print_drop_of (P := Tryd.prog) (Value.int .u8) 0 22 5 .i64 Tryd.underlying22 hi041 hsz41 (some ad288) c0 l0 x6_1 dt dt HC0.out
                 have HR299 := Aside0.mk (Kd.C_of_reads (h1 := fun _ => rfl) (hA41 _ (Kd.reads_of_C HR0.out)))
                 have HC299 := Aside0.mk hC41
                 clear hA41 hC41 hi041 hsz41
                 go_wp2_with (first | ((with_reducible refine gate_callee (f := 36) rfl ?_); refine gL (some 78) Tryd.func36 #[.slice A41 (l0.drop (x6_1 : Int).toNat).length (c0 - x6_1.toNat)] rfl (gD l0 (x6_1 : Int).toNat) ?_; (with_reducible refine (tmesisref01_Take.calls kj26 _ _ (l0.drop (x6_1 : Int).toNat) t300 false _ ?side1 ?side2 A32.out).mono ?_); (case side1 => exact CAt (Kd.C_below HR299.out HB.out)); (case side2 => exact HC299.out); rintro e w' ⟨rfl, ⟨nd, rfl⟩⟩; refine ⟨_, rfl, ?_⟩))
                 go_ret3
                 exact ⟨_, eR, by first | exact Kd.R_nil _ _ _ _ _ | exact Kd.N_nil _ _ _ _ _ | exact Kd.V_nil _ _ _ _ _ | exact Kd.Q_nil _ _ _ _ _ | exact Kd.S_nil _ _ _ _ _, bAt HB.out⟩
               ·exact nB H c31
              ·exact nB H c30
        ·exact nB H c11
       ·exact nB H c10
      ·replace c9 := Bool.eq_false_iff.mpr c9
       subst c9
       replace H := fP H
       simp only [Option.some.injEq, Prod.mk.injEq] at H
       obtain ⟨rfl, rfl, rfl⟩ := H
       go_wp2
       go_ret3
       exact ⟨_, eR, by first | exact Kd.R_nil _ _ _ _ _ | exact Kd.N_nil _ _ _ _ _ | exact Kd.V_nil _ _ _ _ _ | exact Kd.Q_nil _ _ _ _ _ | exact Kd.S_nil _ _ _ _ _, bAt HB.out⟩
 ·rw [if_neg c3] at H
  obtain ⟨c3b0, c3b1⟩ := neB c3
  simp only [Option.some.injEq, Prod.mk.injEq] at H
  obtain ⟨rfl, rfl, rfl⟩ := H
  go_enter Tryd.func25, Tryd.ntmps25
  go_wp2_with (first | ((with_reducible refine gate_callee (f := 35) rfl ?_); refine gL (some 12) Tryd.func35 #[.slice A0 l0.length c0, .int .i64 0] rfl gA ?_; (with_reducible refine (tmesisref04_at.calls _ _ l0 0 t283 _ ?side1 ?side2 A2.out).mono ?_); (case side1 => exact CAt HR0.out); (case side2 => exact HC0.out); rintro e w' ⟨rfl, ⟨nd, rfl⟩⟩; refine ⟨_, rfl, ?_⟩))
  go_ret3
  exact ⟨_, eR, by first | exact Kd.R_nil _ _ _ _ _ | exact Kd.N_nil _ _ _ _ _ | exact Kd.V_nil _ _ _ _ _ | exact Kd.Q_nil _ _ _ _ _ | exact Kd.S_nil _ _ _ _ _, bAt HB.out⟩
def tmesisref02_Name.f (k : Nat) (a0 : Int) : Option (Bool) := (tmesisref02_Of.f k a0).bind fun t306 => (if t306 = 2 then (some true) else ((tmesisref02_Of.f k a0).bind fun t307 => (if t307 = 3 then (some true) else ((tmesisref02_Of.f k a0).bind fun t308 => (some (t308 == 4))))))
theorem tmesisref02_Name.mono : ∀ a0 k, LeO (tmesisref02_Name.f k a0) (tmesisref02_Name.f (k + 1) a0) := by
 intro a0 k
 unfold tmesisref02_Name.f
 repeat' with_reducible first | exact tmesisref02_Of.mono _ _ | exact LeO.refl _ | exact LeO.none _ | refine LeO.ite ?_ ?_ | refine LeO.bind ?_ (fun _ => ?_)
set_option maxHeartbeats 8000000 in
set_option maxRecDepth 100000 in
theorem tmesisref02_Name.calls (k : Nat) (a0 : Int) (r : Bool) (w : World) (h : tmesisref02_Name.f k a0 = some r) :
  Calls Tryd.prog 65 #[.int .u8 a0] w fun e w' => e = .returned (.bool r) ∧ Drawn0 w w' := by
 have H : ((tmesisref02_Of.f k a0).bind fun t306 => (if t306 = 2 then (some true) else ((tmesisref02_Of.f k a0).bind fun t307 => (if t307 = 3 then (some true) else ((tmesisref02_Of.f k a0).bind fun t308 => (some (t308 == 4))))))) = some r := h
 clear h
 obtain ⟨t306, A2, H⟩ := bE H
 by_cases c3 : t306 = 2
 ·rw [if_pos c3] at H
  obtain ⟨c3b0, c3b1⟩ := eqB c3
  clear c3
  obtain rfl := Option.some.inj H
  go_enter Tryd.func65, Tryd.ntmps65
  go_wp2_with (first | ((with_reducible refine gate_callee (f := 47) rfl ?_); refine gL (some 4) Tryd.func47 #[.int .u8 a0] rfl gA ?_; (with_reducible refine (tmesisref02_Of.calls k a0 t306 _ A2.out).mono ?_); rintro e w' ⟨rfl, ⟨nd, rfl⟩⟩; refine ⟨_, rfl, ?_⟩))
  go_ret
  exact ⟨by first | rfl | (simp; done) | (simp [*]; done), by repeat (first | exact Drawn0.refl _ | apply Drawn0.step)⟩
 ·rw [if_neg c3] at H
  obtain ⟨c3b0, c3b1⟩ := neB c3
  obtain ⟨t307, A4, H⟩ := bE H
  by_cases c5 : t307 = 3
  ·rw [if_pos c5] at H
   obtain ⟨c5b0, c5b1⟩ := eqB c5
   clear c5
   obtain rfl := Option.some.inj H
   go_enter Tryd.func65, Tryd.ntmps65
   go_wp2_with (first | ((with_reducible refine gate_callee (f := 47) rfl ?_); refine gL (some 4) Tryd.func47 #[.int .u8 a0] rfl gA ?_; (with_reducible refine (tmesisref02_Of.calls k a0 t306 _ A2.out).mono ?_); rintro e w' ⟨rfl, ⟨nd, rfl⟩⟩; refine ⟨_, rfl, ?_⟩) | ((with_reducible refine gate_callee (f := 47) rfl ?_); (try (refine gate_guard (by rfl) ?_; dsimp only)); refine gL (some 8) Tryd.func47 #[.int .u8 a0] rfl gA ?_; (with_reducible refine (tmesisref02_Of.calls k a0 t307 _ A4.out).mono ?_); rintro e w' ⟨rfl, ⟨nd, rfl⟩⟩; refine ⟨_, rfl, ?_⟩))
   go_ret
   exact ⟨by first | rfl | (simp; done) | (simp [*]; done), by repeat (first | exact Drawn0.refl _ | apply Drawn0.step)⟩
  ·rw [if_neg c5] at H
   obtain ⟨c5b0, c5b1⟩ := neB c5
   obtain ⟨t308, A6, H⟩ := bE H
   obtain rfl := Option.some.inj H
   go_enter Tryd.func65, Tryd.ntmps65
   go_wp2_with (first | ((with_reducible refine gate_callee (f := 47) rfl ?_); refine gL (some 4) Tryd.func47 #[.int .u8 a0] rfl gA ?_; (with_reducible refine (tmesisref02_Of.calls k a0 t306 _ A2.out).mono ?_); rintro e w' ⟨rfl, ⟨nd, rfl⟩⟩; refine ⟨_, rfl, ?_⟩) | ((with_reducible refine gate_callee (f := 47) rfl ?_); (try (refine gate_guard (by rfl) ?_; dsimp only)); refine gL (some 8) Tryd.func47 #[.int .u8 a0] rfl gA ?_; (with_reducible refine (tmesisref02_Of.calls k a0 t307 _ A4.out).mono ?_); rintro e w' ⟨rfl, ⟨nd, rfl⟩⟩; refine ⟨_, rfl, ?_⟩) | ((with_reducible refine gate_callee (f := 47) rfl ?_); (try (refine gate_guard (by rfl) ?_; dsimp only)); refine gL (some 13) Tryd.func47 #[.int .u8 a0] rfl gA ?_; (with_reducible refine (tmesisref02_Of.calls k a0 t308 _ A6.out).mono ?_); rintro e w' ⟨rfl, ⟨nd, rfl⟩⟩; refine ⟨_, rfl, ?_⟩))
   go_ret
   exact ⟨by first | rfl | (simp; done) | (simp [*]; done), by repeat (first | exact Drawn0.refl _ | apply Drawn0.step)⟩
def tmesisref06_name.l0 : Nat → List Int → Int → Option (Int)
 | 0, _, _ => none
 | k + 1, x0, x3 => if x3 < (x0.length : Int) then (if 0 ≤ x3 then ((tmesisref02_Name.f k (rd x0 x3)).bind fun t310 => (if t310 = true then (tmesisref06_name.l0 k x0 (wrap64 (x3 + 1))) else (if x3 ≤ (x0.length : Int) then ((tmesisref01_Take.f k (x0.drop (x3 : Int).toNat)).bind fun bt312 => (if bt312.2 = true then (if bt312.1 = 1 then (some x3) else (tmesisref06_name.l0 k x0 (wrap64 (x3 + bt312.1)))) else (some x3))) else (none)))) else (none)) else (some x3)
def tmesisref06_name.f (k : Nat) (l0 : List Int) : Option (Int) := tmesisref06_name.l0 k l0 0
theorem tmesisref06_name.mono_l : ∀ k, (∀ y0 y1, LeO (tmesisref06_name.l0 k y0 y1) (tmesisref06_name.l0 (k + 1) y0 y1))
 | 0 => fun _ _ r h => by simp [tmesisref06_name.l0] at h
 | k + 1 => by
  have ih0 := tmesisref06_name.mono_l k
  ·intro y0 y1
   unfold tmesisref06_name.l0
   repeat' with_reducible first | exact ih0 _ _ | exact tmesisref01_Take.mono _ _ | exact tmesisref02_Name.mono _ _ | exact LeO.refl _ | exact LeO.none _ | refine LeO.ite ?_ ?_ | refine LeO.bind ?_ (fun _ => ?_)
theorem tmesisref06_name.mono : ∀ a0 k, LeO (tmesisref06_name.f k a0) (tmesisref06_name.f (k + 1) a0) := by
 intro a0 k
 have ih0 := tmesisref06_name.mono_l k
 unfold tmesisref06_name.f
 repeat' with_reducible first | exact ih0 _ _ | exact tmesisref01_Take.mono _ _ | exact tmesisref02_Name.mono _ _ | exact LeO.refl _ | exact LeO.none _ | refine LeO.ite ?_ ?_ | refine LeO.bind ?_ (fun _ => ?_)
set_option maxHeartbeats 8000000 in
set_option maxRecDepth 100000 in
theorem tmesisref06_name.calls (k : Nat) (A0 : Option Addr) (c0 : Nat) (l0 : List Int) (r : Int) (w : World) (hr0 : Kd.C (Kd.int .u8) w A0 l0.length l0) (hc0 : l0.length ≤ c0) (h : tmesisref06_name.f k l0 = some r) :
  Calls Tryd.prog 50 #[.slice A0 l0.length c0] w fun e w' => e = .returned (.int .i64 r) ∧ Drawn0 w w' := by
 have HR0 := Aside0.mk hr0
 have HC0 := Aside0.mk hc0
 clear hr0 hc0
 have H : (tmesisref06_name.l0 k l0 0) = some r := h
 clear h
 have H' := Aside0.mk H
 clear H
 go_enter Tryd.func50, Tryd.ntmps50
 go_wp2
 go_loopg [3] k (fun kq v3 w' => ∃ (x3_1 : Int), v3 = .int .i64 x3_1 ∧ Aside0 (tmesisref06_name.l0 kq l0 x3_1 = some r) ∧ Aside0 (kq ≤ k) ∧ Drawn0 w w')
 case atStart => exact ⟨(0), sR, H', ⟨Nat.le_refl _⟩, by repeat (first | exact Drawn0.refl _ | apply Drawn0.step)⟩
 case round =>
  clear H'
  obtain ⟨x3_1, rfl, HA, HK1, ⟨m1, rfl⟩⟩ := hrel
  cases gk with
  | zero => exact absurd HA.out (by simp [tmesisref06_name.l0])
  | succ k1 =>
   have H := HA.out
   clear HA
   simp only [tmesisref06_name.l0] at H
   by_cases c2 : x3_1 < (l0.length : Int)
   ·rw [if_pos c2] at H
    have c2b0 := decide_eq_true c2
    clear c2
    by_cases c3 : 0 ≤ x3_1
    ·rw [if_pos c3] at H
     have c3b0 := decide_eq_true c3
     clear c3
     obtain ⟨t310, A4, H⟩ := bE H
     by_cases c5 : t310 = true
     ·subst c5
      replace H := tP H
      have H' := Aside0.mk H
      clear H
      have p309 : 0 ≤ (x3_1 : Int) := dt
      have q309 : x3_1 < (l0.length : Int) := dt
      obtain ⟨ad309, e309, hx309_0⟩ := Kd.at_int HR0.out x3_1 p309 q309
      cases e309
      replace p309 := eq_true p309
      replace q309 := eq_true q309
      go_wp2_with (first | ((with_reducible refine gate_callee (f := 65) rfl ?_); refine gL (some 14) Tryd.func65 #[.int .u8 (rd l0 x3_1)] rfl gA ?_; (with_reducible refine (tmesisref02_Name.calls k1 (rd l0 x3_1) true _ A4.out).mono ?_); rintro e w' ⟨rfl, ⟨nd, rfl⟩⟩; refine ⟨_, rfl, ?_⟩))
      go_roundg k1
      case measure => have := HK1.out; omega
      case rel => exact ⟨(wrap64 (x3_1 + 1)), sR, H', ⟨by have := HK1.out; omega⟩, by repeat (first | exact Drawn0.refl _ | apply Drawn0.step)⟩
     ·replace c5 := Bool.eq_false_iff.mpr c5
      subst c5
      replace H := fP H
      have c6b0 := eq_true (dt : 0 ≤ x3_1)
      by_cases c7 : x3_1 ≤ (l0.length : Int)
      ·rw [if_pos c7] at H
       have c7b0 := eq_true c7
       have c7b1 := decide_eq_true c7
       clear c7
       obtain ⟨⟨t312, t313⟩, A8, H⟩ := bE H
       replace H : (if t313 = true then (if t312 = 1 then (some x3_1) else (tmesisref06_name.l0 k1 l0 (wrap64 (x3_1 + t312)))) else (some x3_1)) = some r := H
       by_cases c9 : t313 = true
       ·subst c9
        replace H := tP H
        by_cases c10 : t312 = 1
        ·rw [if_pos c10] at H
         obtain ⟨c10b0, c10b1⟩ := eqB c10
         clear c10
         obtain rfl := Option.some.inj H
         have p309 : 0 ≤ (x3_1 : Int) := dt
         have q309 : x3_1 < (l0.length : Int) := dt
         obtain ⟨ad309, e309, hx309_0⟩ := Kd.at_int HR0.out x3_1 p309 q309
         cases e309
         replace p309 := eq_true p309
         replace q309 := eq_true q309
         go_wp2_with (first | ((with_reducible refine gate_callee (f := 65) rfl ?_); refine gL (some 14) Tryd.func65 #[.int .u8 (rd l0 x3_1)] rfl gA ?_; (with_reducible refine (tmesisref02_Name.calls k1 (rd l0 x3_1) false _ A4.out).mono ?_); rintro e w' ⟨rfl, ⟨nd, rfl⟩⟩; refine ⟨_, rfl, ?_⟩; obtain ⟨i011, hi011, _, hsz11, _⟩ := info_parts info5; obtain ⟨A11, hcut11, hA11, hC11⟩ := print_drop_of (P := Tryd.prog) (Value.int .u8) 0 22 5 .i64 Tryd.underlying22 hi011 hsz11 (some ad309) c0 l0 x3_1 dt dt HC0.out; have HR311 := Aside0.mk (Kd.C_of_reads (h1 := fun _ => rfl) (hA11 _ (Kd.reads_of_C HR0.out))); have HC311 := Aside0.mk hC11; clear hA11 hC11 hi011 hsz11) | ((with_reducible refine gate_callee (f := 36) rfl ?_); refine gL (some 21) Tryd.func36 #[.slice A11 (l0.drop (x3_1 : Int).toNat).length (c0 - x3_1.toNat)] rfl (gD l0 (x3_1 : Int).toNat) ?_; (with_reducible refine (tmesisref01_Take.calls k1 _ _ (l0.drop (x3_1 : Int).toNat) t312 true _ ?side1 ?side2 A8.out).mono ?_); (case side1 => exact CAt HR311.out); (case side2 => exact HC311.out); rintro e w' ⟨rfl, ⟨nd, rfl⟩⟩; refine ⟨_, rfl, ?_⟩))
         go_ret
         exact ⟨by first | rfl | (simp; done) | (simp [*]; done), by repeat (first | exact Drawn0.refl _ | apply Drawn0.step)⟩
        ·rw [if_neg c10] at H
         obtain ⟨c10b0, c10b1⟩ := neB c10
         have H' := Aside0.mk H
         clear H
         have p309 : 0 ≤ (x3_1 : Int) := dt
         have q309 : x3_1 < (l0.length : Int) := dt
         obtain ⟨ad309, e309, hx309_0⟩ := Kd.at_int HR0.out x3_1 p309 q309
         cases e309
         replace p309 := eq_true p309
         replace q309 := eq_true q309
         go_wp2_with (first | ((with_reducible refine gate_callee (f := 65) rfl ?_); refine gL (some 14) Tryd.func65 #[.int .u8 (rd l0 x3_1)] rfl gA ?_; (with_reducible refine (tmesisref02_Name.calls k1 (rd l0 x3_1) false _ A4.out).mono ?_); rintro e w' ⟨rfl, ⟨nd, rfl⟩⟩; refine ⟨_, rfl, ?_⟩; obtain ⟨i012, hi012, _, hsz12, _⟩ := info_parts info5; obtain ⟨A12, hcut12, hA12, hC12⟩ := print_drop_of (P := Tryd.prog) (Value.int .u8) 0 22 5 .i64 Tryd.underlying22 hi012 hsz12 (some ad309) c0 l0 x3_1 dt dt HC0.out; have HR311 := Aside0.mk (Kd.C_of_reads (h1 := fun _ => rfl) (hA12 _ (Kd.reads_of_C HR0.out))); have HC311 := Aside0.mk hC12; clear hA12 hC12 hi012 hsz12) | ((with_reducible refine gate_callee (f := 36) rfl ?_); refine gL (some 21) Tryd.func36 #[.slice A12 (l0.drop (x3_1 : Int).toNat).length (c0 - x3_1.toNat)] rfl (gD l0 (x3_1 : Int).toNat) ?_; (with_reducible refine (tmesisref01_Take.calls k1 _ _ (l0.drop (x3_1 : Int).toNat) t312 true _ ?side1 ?side2 A8.out).mono ?_); (case side1 => exact CAt HR311.out); (case side2 => exact HC311.out); rintro e w' ⟨rfl, ⟨nd, rfl⟩⟩; refine ⟨_, rfl, ?_⟩))
         go_roundg k1
         case measure => have := HK1.out; omega
         case rel => exact ⟨(wrap64 (x3_1 + t312)), sR, H', ⟨by have := HK1.out; omega⟩, by repeat (first | exact Drawn0.refl _ | apply Drawn0.step)⟩
       ·replace c9 := Bool.eq_false_iff.mpr c9
        subst c9
        replace H := fP H
        obtain rfl := Option.some.inj H
        have p309 : 0 ≤ (x3_1 : Int) := dt
        have q309 : x3_1 < (l0.length : Int) := dt
        obtain ⟨ad309, e309, hx309_0⟩ := Kd.at_int HR0.out x3_1 p309 q309
        cases e309
        replace p309 := eq_true p309
        replace q309 := eq_true q309
        go_wp2_with (first | ((with_reducible refine gate_callee (f := 65) rfl ?_); refine gL (some 14) Tryd.func65 #[.int .u8 (rd l0 x3_1)] rfl gA ?_; (with_reducible refine (tmesisref02_Name.calls k1 (rd l0 x3_1) false _ A4.out).mono ?_); rintro e w' ⟨rfl, ⟨nd, rfl⟩⟩; refine ⟨_, rfl, ?_⟩; obtain ⟨i013, hi013, _, hsz13, _⟩ := info_parts info5; obtain ⟨A13, hcut13, hA13, hC13⟩ := print_drop_of (P := Tryd.prog) (Value.int .u8) 0 22 5 .i64 Tryd.underlying22 hi013 hsz13 (some ad309) c0 l0 x3_1 dt dt HC0.out; have HR311 := Aside0.mk (Kd.C_of_reads (h1 := fun _ => rfl) (hA13 _ (Kd.reads_of_C HR0.out))); have HC311 := Aside0.mk hC13; clear hA13 hC13 hi013 hsz13) | ((with_reducible refine gate_callee (f := 36) rfl ?_); refine gL (some 21) Tryd.func36 #[.slice A13 (l0.drop (x3_1 : Int).toNat).length (c0 - x3_1.toNat)] rfl (gD l0 (x3_1 : Int).toNat) ?_; (with_reducible refine (tmesisref01_Take.calls k1 _ _ (l0.drop (x3_1 : Int).toNat) t312 false _ ?side1 ?side2 A8.out).mono ?_); (case side1 => exact CAt HR311.out); (case side2 => exact HC311.out); rintro e w' ⟨rfl, ⟨nd, rfl⟩⟩; refine ⟨_, rfl, ?_⟩))
        go_ret
        exact ⟨by first | rfl | (simp; done) | (simp [*]; done), by repeat (first | exact Drawn0.refl _ | apply Drawn0.step)⟩
      ·exact nB H c7
    ·exact nB H c3
   ·rw [if_neg c2] at H
    have c2b0 := decide_eq_false c2
    clear c2
    obtain rfl := Option.some.inj H
    go_wp2
    go_ret
    exact ⟨by first | rfl | (simp; done) | (simp [*]; done), by repeat (first | exact Drawn0.refl _ | apply Drawn0.step)⟩
def tmesisref02_Run.l0 : Nat → List Int → Int → Int → Option (Int)
 | 0, _, _, _ => none
 | k + 1, x0, x1, x5 => if x5 < (x0.length : Int) then (if 0 ≤ x5 then ((tmesisref02_Of.f k (rd x0 x5)).bind fun t315 => (if t315 = x1 then (tmesisref02_Run.l0 k x0 x1 (wrap64 (x5 + 1))) else (some x5))) else (none)) else (some x5)
def tmesisref02_Run.f (k : Nat) (l0 : List Int) (a1 : Int) : Option (Int) := tmesisref02_Run.l0 k l0 a1 0
theorem tmesisref02_Run.mono_l : ∀ k, (∀ y0 y1 y2, LeO (tmesisref02_Run.l0 k y0 y1 y2) (tmesisref02_Run.l0 (k + 1) y0 y1 y2))
 | 0 => fun _ _ _ r h => by simp [tmesisref02_Run.l0] at h
 | k + 1 => by
  have ih0 := tmesisref02_Run.mono_l k
  ·intro y0 y1 y2
   unfold tmesisref02_Run.l0
   repeat' with_reducible first | exact ih0 _ _ _ | exact tmesisref02_Of.mono _ _ | exact LeO.refl _ | exact LeO.none _ | refine LeO.ite ?_ ?_ | refine LeO.bind ?_ (fun _ => ?_)
theorem tmesisref02_Run.mono : ∀ a0 a1 k, LeO (tmesisref02_Run.f k a0 a1) (tmesisref02_Run.f (k + 1) a0 a1) := by
 intro a0 a1 k
 have ih0 := tmesisref02_Run.mono_l k
 unfold tmesisref02_Run.f
 repeat' with_reducible first | exact ih0 _ _ _ | exact tmesisref02_Of.mono _ _ | exact LeO.refl _ | exact LeO.none _ | refine LeO.ite ?_ ?_ | refine LeO.bind ?_ (fun _ => ?_)
set_option maxHeartbeats 8000000 in
set_option maxRecDepth 100000 in
theorem tmesisref02_Run.calls (k : Nat) (A0 : Option Addr) (c0 : Nat) (l0 : List Int) (a1 : Int) (r : Int) (w : World) (hr0 : Kd.C (Kd.int .u8) w A0 l0.length l0) (hc0 : l0.length ≤ c0) (h : tmesisref02_Run.f k l0 a1 = some r) :
  Calls Tryd.prog 51 #[.slice A0 l0.length c0, .int .i64 a1] w fun e w' => e = .returned (.int .i64 r) ∧ Drawn0 w w' := by
 have HR0 := Aside0.mk hr0
 have HC0 := Aside0.mk hc0
 clear hr0 hc0
 have H : (tmesisref02_Run.l0 k l0 a1 0) = some r := h
 clear h
 have H' := Aside0.mk H
 clear H
 go_enter Tryd.func51, Tryd.ntmps51
 go_wp2
 go_loopg [5] k (fun kq v5 w' => ∃ (x5_1 : Int), v5 = .int .i64 x5_1 ∧ Aside0 (tmesisref02_Run.l0 kq l0 a1 x5_1 = some r) ∧ Aside0 (kq ≤ k) ∧ Drawn0 w w')
 case atStart => exact ⟨(0), sR, H', ⟨Nat.le_refl _⟩, by repeat (first | exact Drawn0.refl _ | apply Drawn0.step)⟩
 case round =>
  clear H'
  try clear p2
  obtain ⟨x5_1, rfl, HA, HK1, ⟨m1, rfl⟩⟩ := hrel
  cases gk with
  | zero => exact absurd HA.out (by simp [tmesisref02_Run.l0])
  | succ k1 =>
   have H := HA.out
   clear HA
   simp only [tmesisref02_Run.l0] at H
   by_cases c3 : x5_1 < (l0.length : Int)
   ·rw [if_pos c3] at H
    have c3b0 := decide_eq_true c3
    clear c3
    by_cases c4 : 0 ≤ x5_1
    ·rw [if_pos c4] at H
     have c4b0 := decide_eq_true c4
     clear c4
     obtain ⟨t315, A5, H⟩ := bE H
     by_cases c6 : t315 = a1
     ·rw [if_pos c6] at H
      obtain ⟨c6b0, c6b1⟩ := eqB c6
      clear c6
      have H' := Aside0.mk H
      clear H
      have p314 : 0 ≤ (x5_1 : Int) := dt
      have q314 : x5_1 < (l0.length : Int) := dt
      obtain ⟨ad314, e314, hx314_0⟩ := Kd.at_int HR0.out x5_1 p314 q314
      cases e314
      replace p314 := eq_true p314
      replace q314 := eq_true q314
      go_wp2_with (first | ((with_reducible refine gate_callee (f := 47) rfl ?_); (try (refine gate_guard (by rfl) ?_; dsimp only)); refine gL (some 15) Tryd.func47 #[.int .u8 (rd l0 x5_1)] rfl gA ?_; (with_reducible refine (tmesisref02_Of.calls k1 (rd l0 x5_1) t315 _ A5.out).mono ?_); rintro e w' ⟨rfl, ⟨nd, rfl⟩⟩; refine ⟨_, rfl, ?_⟩))
      go_roundg k1
      case measure => have := HK1.out; omega
      case rel => exact ⟨(wrap64 (x5_1 + 1)), sR, H', ⟨by have := HK1.out; omega⟩, by repeat (first | exact Drawn0.refl _ | apply Drawn0.step)⟩
     ·rw [if_neg c6] at H
      obtain ⟨c6b0, c6b1⟩ := neB c6
      obtain rfl := Option.some.inj H
      have p314 : 0 ≤ (x5_1 : Int) := dt
      have q314 : x5_1 < (l0.length : Int) := dt
      obtain ⟨ad314, e314, hx314_0⟩ := Kd.at_int HR0.out x5_1 p314 q314
      cases e314
      replace p314 := eq_true p314
      replace q314 := eq_true q314
      go_wp2_with (first | ((with_reducible refine gate_callee (f := 47) rfl ?_); (try (refine gate_guard (by rfl) ?_; dsimp only)); refine gL (some 15) Tryd.func47 #[.int .u8 (rd l0 x5_1)] rfl gA ?_; (with_reducible refine (tmesisref02_Of.calls k1 (rd l0 x5_1) t315 _ A5.out).mono ?_); rintro e w' ⟨rfl, ⟨nd, rfl⟩⟩; refine ⟨_, rfl, ?_⟩))
      go_ret
      exact ⟨by first | rfl | (simp; done) | (simp [*]; done), by repeat (first | exact Drawn0.refl _ | apply Drawn0.step)⟩
    ·exact nB H c4
   ·rw [if_neg c3] at H
    have c3b0 := decide_eq_false c3
    clear c3
    obtain rfl := Option.some.inj H
    go_wp2
    go_ret
    exact ⟨by first | rfl | (simp; done) | (simp [*]; done), by repeat (first | exact Drawn0.refl _ | apply Drawn0.step)⟩
def tmesisref06_ends.f (k : Nat) (l0 : List Int) : Option (Bool) := if (l0.length : Int) = 1 then (some true) else (if 1 < (l0.length : Int) then ((tmesisref02_Of.f k (rd l0 1)).bind fun t317 => (if t317 = 1 then (some true) else ((tmesisref02_Of.f k (rd l0 1)).bind fun t319 => (some (t319 == 8))))) else (none))
theorem tmesisref06_ends.mono : ∀ a0 k, LeO (tmesisref06_ends.f k a0) (tmesisref06_ends.f (k + 1) a0) := by
 intro a0 k
 unfold tmesisref06_ends.f
 repeat' with_reducible first | exact tmesisref02_Of.mono _ _ | exact LeO.refl _ | exact LeO.none _ | refine LeO.ite ?_ ?_ | refine LeO.bind ?_ (fun _ => ?_)
set_option maxHeartbeats 8000000 in
set_option maxRecDepth 100000 in
theorem tmesisref06_ends.calls (k : Nat) (A0 : Option Addr) (c0 : Nat) (l0 : List Int) (r : Bool) (w : World) (hr0 : Kd.C (Kd.int .u8) w A0 l0.length l0) (hc0 : l0.length ≤ c0) (h : tmesisref06_ends.f k l0 = some r) :
  Calls Tryd.prog 52 #[.slice A0 l0.length c0] w fun e w' => e = .returned (.bool r) ∧ Drawn0 w w' := by
 have HR0 := Aside0.mk hr0
 have HC0 := Aside0.mk hc0
 clear hr0 hc0
 have H : (if (l0.length : Int) = 1 then (some true) else (if 1 < (l0.length : Int) then ((tmesisref02_Of.f k (rd l0 1)).bind fun t317 => (if t317 = 1 then (some true) else ((tmesisref02_Of.f k (rd l0 1)).bind fun t319 => (some (t319 == 8))))) else (none))) = some r := h
 clear h
 by_cases c2 : (l0.length : Int) = 1
 ·rw [if_pos c2] at H
  obtain ⟨c2b0, c2b1⟩ := eqB c2
  clear c2
  obtain rfl := Option.some.inj H
  go_enter Tryd.func52, Tryd.ntmps52
  go_wp2
  go_ret
  exact ⟨by first | rfl | (simp; done) | (simp [*]; done), by repeat (first | exact Drawn0.refl _ | apply Drawn0.step)⟩
 ·rw [if_neg c2] at H
  obtain ⟨c2b0, c2b1⟩ := neB c2
  by_cases c3 : 1 < (l0.length : Int)
  ·rw [if_pos c3] at H
   have c3b0 := decide_eq_true c3
   have c3b1 : decide (1 < l0.length) = true := decide_eq_true (by omega)
   clear c3
   obtain ⟨t317, A4, H⟩ := bE H
   by_cases c5 : t317 = 1
   ·rw [if_pos c5] at H
    obtain ⟨c5b0, c5b1⟩ := eqB c5
    clear c5
    obtain rfl := Option.some.inj H
    have p316 : 0 ≤ (1 : Int) := (by omega)
    have q316 : 1 < (l0.length : Int) := dt
    obtain ⟨ad316, e316, hx316_0⟩ := Kd.at_int HR0.out 1 p316 q316
    cases e316
    (try simp only [show (1 : Int).toNat = 1 from rfl, Nat.reduceMul, Nat.reduceEqDiff, Go.Addr.add, ↓reduceIte] at hx316_0)
    have qi316 : (1 < l0.length) = True := eq_true (by omega)
    (try rw [show ((1 : Int)).toNat = 1 from rfl] at hx316_0)
    replace p316 := eq_true p316
    replace q316 := eq_true q316
    go_enter Tryd.func52, Tryd.ntmps52
    go_wp2_with (first | ((with_reducible refine gate_callee (f := 47) rfl ?_); (try (refine gate_guard (by rfl) ?_; dsimp only)); refine gL (some 10) Tryd.func47 #[.int .u8 (rd l0 1)] rfl gA ?_; (with_reducible refine (tmesisref02_Of.calls k (rd l0 1) t317 _ A4.out).mono ?_); rintro e w' ⟨rfl, ⟨nd, rfl⟩⟩; refine ⟨_, rfl, ?_⟩))
    go_ret
    exact ⟨by first | rfl | (simp; done) | (simp [*]; done), by repeat (first | exact Drawn0.refl _ | apply Drawn0.step)⟩
   ·rw [if_neg c5] at H
    obtain ⟨c5b0, c5b1⟩ := neB c5
    obtain ⟨t319, A6, H⟩ := bE H
    obtain rfl := Option.some.inj H
    have p316 : 0 ≤ (1 : Int) := (by omega)
    have q316 : 1 < (l0.length : Int) := dt
    obtain ⟨ad316, e316, hx316_0⟩ := Kd.at_int HR0.out 1 p316 q316
    cases e316
    (try simp only [show (1 : Int).toNat = 1 from rfl, Nat.reduceMul, Nat.reduceEqDiff, Go.Addr.add, ↓reduceIte] at hx316_0)
    have qi316 : (1 < l0.length) = True := eq_true (by omega)
    (try rw [show ((1 : Int)).toNat = 1 from rfl] at hx316_0)
    replace p316 := eq_true p316
    replace q316 := eq_true q316
    go_enter Tryd.func52, Tryd.ntmps52
    go_wp2_with (first | ((with_reducible refine gate_callee (f := 47) rfl ?_); (try (refine gate_guard (by rfl) ?_; dsimp only)); refine gL (some 10) Tryd.func47 #[.int .u8 (rd l0 1)] rfl gA ?_; (with_reducible refine (tmesisref02_Of.calls k (rd l0 1) t317 _ A4.out).mono ?_); rintro e w' ⟨rfl, ⟨nd, rfl⟩⟩; refine ⟨_, rfl, ?_⟩; have p318 : 0 ≤ (1 : Int) := (by omega); have q318 : 1 < (l0.length : Int) := dt; obtain ⟨ad318, e318, hx318_0⟩ := Kd.at_int HR0.out 1 p318 q318; obtain rfl : ad316 = ad318 := (by injection e318); (try simp only [show (1 : Int).toNat = 1 from rfl, Nat.reduceMul, Nat.reduceEqDiff, Go.Addr.add, ↓reduceIte] at hx318_0); have qi318 : (1 < l0.length) = True := eq_true (by omega); (try rw [show ((1 : Int)).toNat = 1 from rfl] at hx318_0); replace p318 := eq_true p318; replace q318 := eq_true q318) | ((with_reducible refine gate_callee (f := 47) rfl ?_); (try (refine gate_guard (by rfl) ?_; dsimp only)); refine gL (some 17) Tryd.func47 #[.int .u8 (rd l0 1)] rfl gA ?_; (with_reducible refine (tmesisref02_Of.calls k (rd l0 1) t319 _ A6.out).mono ?_); rintro e w' ⟨rfl, ⟨nd, rfl⟩⟩; refine ⟨_, rfl, ?_⟩))
    go_ret
    exact ⟨by first | rfl | (simp; done) | (simp [*]; done), by repeat (first | exact Drawn0.refl _ | apply Drawn0.step)⟩
  ·exact nB H c3
end Go.Proofs.YtdejidhgeefmeaaDoor.P
