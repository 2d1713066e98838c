/- Part of the proof: what the theorem needs of this text. -/
import Derived.Test.YtdejidhgeefmeaaDoorKPx0
import Derived.Test.YtdejidhgeefmeaaDoorKPx1
import Derived.Test.YtdejidhgeefmeaaDoorKPx14
import Derived.Test.YtdejidhgeefmeaaDoorKPx15
namespace Go.Proofs.YtdejidhgeefmeaaDoor.P
open Go.RowKit Go.Proofs.YtdejidhgeefmeaaDoorW.PrintWords Go.Proofs.YtdejidhgeefmeaaDoorW.PrintLast Go.Proofs.YtdejidhgeefmeaaDoorW.PrintMore
attribute [local go_sem] max2_int min2_int max_two min_two max_three min_three max_four min_four   -- for this text's walks alone
set_option linter.unusedVariables false
set_option linter.unusedSimpArgs false
attribute [local go_sem high] eqA34
def tmesisref07_Alike.l0 : Nat → List (S34) → List (S34) → Int → Option (Bool)
 | 0, _, _, _ => none
 | k + 1, x0, x1, x5 => if x5 < (x0.length : Int) then (if 0 ≤ x5 then (if x5 < (x1.length : Int) then (if ((rd_T34 x0 x5).f0) = ((rd_T34 x1 x5).f0) then (if ((rd_T34 x0 x5).f3).toList = ((rd_T34 x1 x5).f3).toList then (if ((rd_T34 x0 x5).f0) = 8 then (some false) else (tmesisref07_Alike.l0 k x0 x1 (wrap64 (x5 + 1)))) else (some false)) else (some false)) else (none)) else (none)) else (some true)
def tmesisref07_Alike.f (k : Nat) (l0 : List (S34)) (l1 : List (S34)) : Option (Bool) := if (l0.length : Int) = (l1.length : Int) then (tmesisref07_Alike.l0 k l0 l1 0) else (some false)
theorem tmesisref07_Alike.mono_l : ∀ k, (∀ y0 y1 y2, LeO (tmesisref07_Alike.l0 k y0 y1 y2) (tmesisref07_Alike.l0 (k + 1) y0 y1 y2))
 | 0 => fun _ _ _ r h => by simp [tmesisref07_Alike.l0] at h
 | k + 1 => by
  have ih0 := tmesisref07_Alike.mono_l k
  ·intro y0 y1 y2
   unfold tmesisref07_Alike.l0
   repeat' with_reducible first | exact ih0 _ _ _ | exact LeO.refl _ | exact LeO.none _ | refine LeO.ite ?_ ?_ | refine LeO.bind ?_ (fun _ => ?_)
theorem tmesisref07_Alike.mono : ∀ a0 a1 k, LeO (tmesisref07_Alike.f k a0 a1) (tmesisref07_Alike.f (k + 1) a0 a1) := by
 intro a0 a1 k
 have ih0 := tmesisref07_Alike.mono_l k
 unfold tmesisref07_Alike.f
 repeat' with_reducible first | exact ih0 _ _ _ | exact LeO.refl _ | exact LeO.none _ | refine LeO.ite ?_ ?_ | refine LeO.bind ?_ (fun _ => ?_)
set_option maxHeartbeats 8000000 in
set_option maxRecDepth 100000 in
theorem tmesisref07_Alike.calls (k : Nat) (A0 : Option Addr) (c0 : Nat) (l0 : List (S34)) (A1 : Option Addr) (c1 : Nat) (l1 : List (S34)) (r : Bool) (w : World) (hr0 : Kd.C k34 w A0 l0.length l0) (hc0 : l0.length ≤ c0) (hr1 : Kd.C k34 w A1 l1.length l1) (hc1 : l1.length ≤ c1) (h : tmesisref07_Alike.f k l0 l1 = some r) :
  Calls Tryd.prog 17 #[.slice A0 l0.length c0, .slice A1 l1.length c1] w fun e w' => e = .returned (.bool r) ∧ Drawn0 w w' := by
 have HR0 := Aside0.mk hr0
 have HC0 := Aside0.mk hc0
 clear hr0 hc0
 have HR1 := Aside0.mk hr1
 have HC1 := Aside0.mk hc1
 clear hr1 hc1
 have H : (if (l0.length : Int) = (l1.length : Int) then (tmesisref07_Alike.l0 k l0 l1 0) else (some false)) = some r := h
 clear h
 by_cases c3 : (l0.length : Int) = (l1.length : Int)
 ·rw [if_pos c3] at H
  obtain ⟨c3b0, c3b1⟩ := eqB c3
  have c3b2 : (l0.length == l1.length) = true := by first | simpa using c3 | (simp at c3 ⊢; omega)
  clear c3
  have H' := Aside0.mk H
  clear H
  go_enter Tryd.func17, Tryd.ntmps17
  go_wp2
  repeat (go_quiet (fail); try go_wp2)
  go_loopg [5] k (fun kq v5 w' => ∃ (x5_1 : Int), v5 = .int .i64 x5_1 ∧ Aside0 (tmesisref07_Alike.l0 kq l0 l1 x5_1 = some r) ∧ Aside0 (kq ≤ k) ∧ Drawn0 w w')
  case atStart => exact ⟨(0), sR, H', ⟨Nat.le_refl _⟩, by repeat (first | exact Drawn0.refl _ | apply Drawn0.step)⟩
  case round =>
   clear H'
   try clear c1
   try clear p2
   try clear c3
   try clear c3b0 c3b1
   try clear c3b2
   obtain ⟨x5_1, rfl, HA, HK1, ⟨m1, rfl⟩⟩ := hrel
   cases gk with
   | zero => exact absurd HA.out (by simp [tmesisref07_Alike.l0])
   | succ k1 =>
    have H := HA.out
    clear HA
    simp only [tmesisref07_Alike.l0] at H
    by_cases c4 : x5_1 < (l0.length : Int)
    ·rw [if_pos c4] at H
     have c4b0 := decide_eq_true c4
     clear c4
     by_cases c5 : 0 ≤ x5_1
     ·rw [if_pos c5] at H
      have c5b0 := decide_eq_true c5
      clear c5
      by_cases c6 : x5_1 < (l1.length : Int)
      ·rw [if_pos c6] at H
       have c6b0 := decide_eq_true c6
       clear c6
       by_cases c7 : ((rd_T34 l0 x5_1).f0) = ((rd_T34 l1 x5_1).f0)
       ·rw [if_pos c7] at H
        obtain ⟨c7b0, c7b1⟩ := eqB c7
        clear c7
        by_cases c8 : ((rd_T34 l0 x5_1).f3).toList = ((rd_T34 l1 x5_1).f3).toList
        ·rw [if_pos c8] at H
         obtain ⟨c8b0, c8b1⟩ := eqB c8
         clear c8
         by_cases c9 : ((rd_T34 l0 x5_1).f0) = 8
         ·rw [if_pos c9] at H
          obtain ⟨c9b0, c9b1⟩ := eqB c9
          clear c9
          obtain rfl := Option.some.inj H
          have p373 : 0 ≤ (x5_1 : Int) := dt
          have q373 : x5_1 < (l0.length : Int) := dt
          obtain ⟨ad373, e373, hx373_0, hx373_1, hx373_2, hx373_3, hx373_4⟩ := at_T34 HR0.out x5_1 p373 q373
          cases e373
          replace p373 := eq_true p373
          replace q373 := eq_true q373
          have p374 : 0 ≤ (x5_1 : Int) := dt
          have q374 : x5_1 < (l1.length : Int) := dt
          obtain ⟨ad374, e374, hx374_0, hx374_1, hx374_2, hx374_3, hx374_4⟩ := at_T34 HR1.out x5_1 p374 q374
          cases e374
          replace p374 := eq_true p374
          replace q374 := eq_true q374
          have p375 : 0 ≤ (x5_1 : Int) := dt
          have q375 : x5_1 < (l0.length : Int) := dt
          obtain ⟨ad375, e375, hx375_0, hx375_1, hx375_2, hx375_3, hx375_4⟩ := at_T34 HR0.out x5_1 p375 q375
          obtain rfl : ad373 = ad375 := (by injection e375)
          replace p375 := eq_true p375
          replace q375 := eq_true q375
          have p376 : 0 ≤ (x5_1 : Int) := dt
          have q376 : x5_1 < (l1.length : Int) := dt
          obtain ⟨ad376, e376, hx376_0, hx376_1, hx376_2, hx376_3, hx376_4⟩ := at_T34 HR1.out x5_1 p376 q376
          obtain rfl : ad374 = ad376 := (by injection e376)
          replace p376 := eq_true p376
          replace q376 := eq_true q376
          have p377 : 0 ≤ (x5_1 : Int) := dt
          have q377 : x5_1 < (l0.length : Int) := dt
          obtain ⟨ad377, e377, hx377_0, hx377_1, hx377_2, hx377_3, hx377_4⟩ := at_T34 HR0.out x5_1 p377 q377
          obtain rfl : ad373 = ad377 := (by injection e377)
          replace p377 := eq_true p377
          replace q377 := eq_true q377
          go_wp2
          repeat (go_quiet (fail); try go_wp2)
          go_ret
          exact ⟨by first | rfl | (simp; done) | (simp [*]; done), by repeat (first | exact Drawn0.refl _ | apply Drawn0.step)⟩
         ·rw [if_neg c9] at H
          obtain ⟨c9b0, c9b1⟩ := neB c9
          have H' := Aside0.mk H
          clear H
          have p373 : 0 ≤ (x5_1 : Int) := dt
          have q373 : x5_1 < (l0.length : Int) := dt
          obtain ⟨ad373, e373, hx373_0, hx373_1, hx373_2, hx373_3, hx373_4⟩ := at_T34 HR0.out x5_1 p373 q373
          cases e373
          replace p373 := eq_true p373
          replace q373 := eq_true q373
          have p374 : 0 ≤ (x5_1 : Int) := dt
          have q374 : x5_1 < (l1.length : Int) := dt
          obtain ⟨ad374, e374, hx374_0, hx374_1, hx374_2, hx374_3, hx374_4⟩ := at_T34 HR1.out x5_1 p374 q374
          cases e374
          replace p374 := eq_true p374
          replace q374 := eq_true q374
          have p375 : 0 ≤ (x5_1 : Int) := dt
          have q375 : x5_1 < (l0.length : Int) := dt
          obtain ⟨ad375, e375, hx375_0, hx375_1, hx375_2, hx375_3, hx375_4⟩ := at_T34 HR0.out x5_1 p375 q375
          obtain rfl : ad373 = ad375 := (by injection e375)
          replace p375 := eq_true p375
          replace q375 := eq_true q375
          have p376 : 0 ≤ (x5_1 : Int) := dt
          have q376 : x5_1 < (l1.length : Int) := dt
          obtain ⟨ad376, e376, hx376_0, hx376_1, hx376_2, hx376_3, hx376_4⟩ := at_T34 HR1.out x5_1 p376 q376
          obtain rfl : ad374 = ad376 := (by injection e376)
          replace p376 := eq_true p376
          replace q376 := eq_true q376
          have p377 : 0 ≤ (x5_1 : Int) := dt
          have q377 : x5_1 < (l0.length : Int) := dt
          obtain ⟨ad377, e377, hx377_0, hx377_1, hx377_2, hx377_3, hx377_4⟩ := at_T34 HR0.out x5_1 p377 q377
          obtain rfl : ad373 = ad377 := (by injection e377)
          replace p377 := eq_true p377
          replace q377 := eq_true q377
          go_wp2
          repeat (go_quiet (fail); try go_wp2)
          go_roundg k1
          case measure => have := HK1.out; omega
          case rel => exact ⟨(wrap64 (x5_1 + 1)), sR, H', ⟨by have := HK1.out; omega⟩, by repeat (first | exact Drawn0.refl _ | apply Drawn0.step)⟩
        ·rw [if_neg c8] at H
         obtain ⟨c8b0, c8b1⟩ := neB c8
         obtain rfl := Option.some.inj H
         have p373 : 0 ≤ (x5_1 : Int) := dt
         have q373 : x5_1 < (l0.length : Int) := dt
         obtain ⟨ad373, e373, hx373_0, hx373_1, hx373_2, hx373_3, hx373_4⟩ := at_T34 HR0.out x5_1 p373 q373
         cases e373
         replace p373 := eq_true p373
         replace q373 := eq_true q373
         have p374 : 0 ≤ (x5_1 : Int) := dt
         have q374 : x5_1 < (l1.length : Int) := dt
         obtain ⟨ad374, e374, hx374_0, hx374_1, hx374_2, hx374_3, hx374_4⟩ := at_T34 HR1.out x5_1 p374 q374
         cases e374
         replace p374 := eq_true p374
         replace q374 := eq_true q374
         have p375 : 0 ≤ (x5_1 : Int) := dt
         have q375 : x5_1 < (l0.length : Int) := dt
         obtain ⟨ad375, e375, hx375_0, hx375_1, hx375_2, hx375_3, hx375_4⟩ := at_T34 HR0.out x5_1 p375 q375
         obtain rfl : ad373 = ad375 := (by injection e375)
         replace p375 := eq_true p375
         replace q375 := eq_true q375
         have p376 : 0 ≤ (x5_1 : Int) := dt
         have q376 : x5_1 < (l1.length : Int) := dt
         obtain ⟨ad376, e376, hx376_0, hx376_1, hx376_2, hx376_3, hx376_4⟩ := at_T34 HR1.out x5_1 p376 q376
         obtain rfl : ad374 = ad376 := (by injection e376)
         replace p376 := eq_true p376
         replace q376 := eq_true q376
         go_wp2
         repeat (go_quiet (fail); try go_wp2)
         go_ret
         exact ⟨by first | rfl | (simp; done) | (simp [*]; done), by repeat (first | exact Drawn0.refl _ | apply Drawn0.step)⟩
       ·rw [if_neg c7] at H
        obtain ⟨c7b0, c7b1⟩ := neB c7
        obtain rfl := Option.some.inj H
        have p373 : 0 ≤ (x5_1 : Int) := dt
        have q373 : x5_1 < (l0.length : Int) := dt
        obtain ⟨ad373, e373, hx373_0, hx373_1, hx373_2, hx373_3, hx373_4⟩ := at_T34 HR0.out x5_1 p373 q373
        cases e373
        replace p373 := eq_true p373
        replace q373 := eq_true q373
        have p374 : 0 ≤ (x5_1 : Int) := dt
        have q374 : x5_1 < (l1.length : Int) := dt
        obtain ⟨ad374, e374, hx374_0, hx374_1, hx374_2, hx374_3, hx374_4⟩ := at_T34 HR1.out x5_1 p374 q374
        cases e374
        replace p374 := eq_true p374
        replace q374 := eq_true q374
        go_wp2
        repeat (go_quiet (fail); try go_wp2)
        go_ret
        exact ⟨by first | rfl | (simp; done) | (simp [*]; done), by repeat (first | exact Drawn0.refl _ | apply Drawn0.step)⟩
      ·exact nB H c6
     ·exact nB H c5
    ·rw [if_neg c4] at H
     have c4b0 := decide_eq_false c4
     clear c4
     obtain rfl := Option.some.inj H
     go_wp2
     repeat (go_quiet (fail); try go_wp2)
     go_ret
     exact ⟨by first | rfl | (simp; done) | (simp [*]; done), by repeat (first | exact Drawn0.refl _ | apply Drawn0.step)⟩
 ·rw [if_neg c3] at H
  obtain ⟨c3b0, c3b1⟩ := neB c3
  have c3b2 : (l0.length == l1.length) = false := by first | simpa using c3 | (simp at c3 ⊢; omega)
  obtain rfl := Option.some.inj H
  go_enter Tryd.func17, Tryd.ntmps17
  go_wp2
  repeat (go_quiet (fail); try go_wp2)
  go_ret
  exact ⟨by first | rfl | (simp; done) | (simp [*]; done), by repeat (first | exact Drawn0.refl _ | apply Drawn0.step)⟩
mutual
def tmesisref04_Put.l0 : Nat → List Int → List Int → Int → Option (List Int × Int)
 | 0, _, _, _ => none
 | k + 1, x0, x4, x5 => if x5 < (x0.length : Int) then (if 0 ≤ x5 then (if (rd x0 x5) = 39 then (tmesisref04_Put.j1 k x0 x4 x5 (rd x0 x5) true) else (tmesisref04_Put.j1 k x0 x4 x5 (rd x0 x5) ((rd x0 x5) == 92))) else (none)) else (if x4.length < 140737488355328 then ((some (x4 ++ [39] : List Int)).bind fun y381 => ((tmesisref04_Take.f k y381).bind fun bt384 => (if bt384.2.2 = 0 then (some (y381, 0)) else (some (([] : List Int), 1))))) else (none))
def tmesisref04_Put.j1 : Nat → List Int → List Int → Int → Int → Bool → Option (List Int × Int)
 | 0, _, _, _, _, _ => none
 | k + 1, x0, x4, x5, x6, x26 => if x26 = true then (if x4.length < 140737488355328 then ((some (x4 ++ [x6] : List Int)).bind fun y390 => (if x6 = 10 then (if y390.length < 140737488355328 then ((some (y390 ++ [92] : List Int)).bind fun y393 => (if y393.length < 140737488355328 then (tmesisref04_Put.l0 k x0 (y393 ++ [110]) (wrap64 (x5 + 1))) else (none))) else (none)) else (if y390.length < 140737488355328 then (tmesisref04_Put.l0 k x0 (y390 ++ [x6]) (wrap64 (x5 + 1))) else (none)))) else (none)) else (if x6 = 10 then (if x4.length < 140737488355328 then ((some (x4 ++ [92] : List Int)).bind fun y402 => (if y402.length < 140737488355328 then (tmesisref04_Put.l0 k x0 (y402 ++ [110]) (wrap64 (x5 + 1))) else (none))) else (none)) else (if x4.length < 140737488355328 then (tmesisref04_Put.l0 k x0 (x4 ++ [x6]) (wrap64 (x5 + 1))) else (none)))
end
def tmesisref04_Put.f (k : Nat) (l0 : List Int) : Option (List Int × Int) := tmesisref04_Put.l0 k l0 (([39] : List Int)) 0
theorem tmesisref04_Put.mono_l : ∀ k, (∀ y0 y1 y2, LeO (tmesisref04_Put.l0 k y0 y1 y2) (tmesisref04_Put.l0 (k + 1) y0 y1 y2)) ∧ (∀ y0 y1 y2 y3 y4, LeO (tmesisref04_Put.j1 k y0 y1 y2 y3 y4) (tmesisref04_Put.j1 (k + 1) y0 y1 y2 y3 y4))
 | 0 => ⟨fun _ _ _ r h => by simp [tmesisref04_Put.l0] at h, fun _ _ _ _ _ r h => by simp [tmesisref04_Put.j1] at h⟩
 | k + 1 => by
  obtain ⟨ih0, ih1⟩ := tmesisref04_Put.mono_l k
  refine ⟨?_, ?_⟩
  ·intro y0 y1 y2
   unfold tmesisref04_Put.l0
   repeat' with_reducible first | exact ih0 _ _ _ | exact ih1 _ _ _ _ _ | exact tmesisref04_Take.mono _ _ | exact LeO.refl _ | exact LeO.none _ | refine LeO.ite ?_ ?_ | refine LeO.bind ?_ (fun _ => ?_)
  ·intro y0 y1 y2 y3 y4
   unfold tmesisref04_Put.j1
   repeat' with_reducible first | exact ih0 _ _ _ | exact ih1 _ _ _ _ _ | exact tmesisref04_Take.mono _ _ | exact LeO.refl _ | exact LeO.none _ | refine LeO.ite ?_ ?_ | refine LeO.bind ?_ (fun _ => ?_)
theorem tmesisref04_Put.mono : ∀ a0 k, LeO (tmesisref04_Put.f k a0) (tmesisref04_Put.f (k + 1) a0) := by
 intro a0 k
 obtain ⟨ih0, ih1⟩ := tmesisref04_Put.mono_l k
 unfold tmesisref04_Put.f
 repeat' with_reducible first | exact ih0 _ _ _ | exact ih1 _ _ _ _ _ | exact tmesisref04_Take.mono _ _ | exact LeO.refl _ | exact LeO.none _ | refine LeO.ite ?_ ?_ | refine LeO.bind ?_ (fun _ => ?_)
set_option maxHeartbeats 8000000 in
set_option maxRecDepth 100000 in
theorem tmesisref04_Put.calls (k : Nat) (A0 : Option Addr) (c0 : Nat) (l0 : List Int) (r1 : List Int) (r2 : Int) (w : World) (hr0 : Kd.C (Kd.int .u8) w A0 l0.length l0) (hc0 : l0.length ≤ c0) (h : tmesisref04_Put.f k l0 = some (r1, r2)) :
  Calls Tryd.prog 21 #[.slice A0 l0.length c0] w fun e w' => ∃ v0_ : Value, e = .returned (.tuple #[v0_, .int .i64 r2]) ∧ Kd.R (Kd.int .u8) 5 w' w.heap.size (fun _ => True) v0_ r1 ∧ Below w.heap.size w w' := by
 have HR0 := Aside0.mk hr0
 have HC0 := Aside0.mk hc0
 clear hr0 hc0
 have HB := Aside0.mk (Below.refl w.heap.size w)
 have H : (tmesisref04_Put.l0 k l0 (([39] : List Int)) 0) = some (r1, r2) := h
 clear h
 obtain ⟨y378, hy378⟩ : ∃ y_ : List Int, y_ = (([39] : List Int)) := ⟨_, rfl⟩
 replace H : (tmesisref04_Put.l0 k l0 y378 0) = some (r1, r2) := by first | (rw [hy378]; with_reducible exact H) | (have H2_ := (Option.bind_some _ _).symm.trans H; rw [hy378]; with_reducible exact H2_) | (have H2_ := (Option.bind_some _ _).symm.trans H; with_reducible exact H2_) | with_reducible exact H | (rw [hy378]; exact H) | exact H
 have Ny378 := Aside0.mk hy378
 clear hy378
 have H' := Aside0.mk H
 clear H
 go_enter Tryd.func21, Tryd.ntmps21
 go_wp2_with (first | ((with_reducible refine gate_dst (N := 10) rfl ?_); refine Kd.R_lit (Kd.int .u8) _ 5 ?hg (N := 10) ?hd (xs := ([39] : List Int)) (inner := [.int .u8 39]) (ok := fun _ => True) (okp := fun _ => True) ?hr ?hp (fun _ hk => hk) trivial (Below.refl _ _) (Nat.le_refl _) (by simp) ?_; (case hd => rfl); (case hg => rfl); (case hr => first | (go_simp; done) | (go_simp; rfl)); (case hp => exact (Reps.one (show Kd.M (Kd.int .u8) _ _ _ 39 [.int .u8 39] from rfl) (Reps.none _ _))); intro v379 w2 ho3 hb hg_ hnew_; clear hg_ hnew_; (first | rw [← Ny378.out] at ho3 | (simp only [Int.reduceToNat] at ho3; rw [← Ny378.out] at ho3)); have HO380 := Aside0.mk (Kd.R_lower ho3 (below_size (bAt HB.out))); replace HB := Aside0.mk (below_step (bAt HB.out) hb); clear hb ho3))
 go_loopg [4, 5] k (fun kq v4 v5 w' => ∃ (x4_1 : List Int) (x5_1 : Int), v5 = .int .i64 x5_1 ∧ Aside0 (tmesisref04_Put.l0 kq l0 x4_1 x5_1 = some (r1, r2)) ∧ Aside0 (kq ≤ k) ∧ Aside0 (Kd.R (Kd.int .u8) 5 w' w.heap.size (fun _ => True) v4 x4_1) ∧ Aside0 (Below w.heap.size w w'))
 case atStart => exact ⟨(y378), (0), sR, H', ⟨Nat.le_refl _⟩, ⟨RAt HO380.out⟩, ⟨bAt HB.out⟩⟩
 case round =>
  clear H'
  try clear c2
  try clear p2
  obtain ⟨x4_1, x5_1, rfl, HA, HK1, HO_4, HB⟩ := hrel
  cases gk with
  | zero => exact absurd HA.out (by simp [tmesisref04_Put.l0])
  | succ k1 =>
   have H := HA.out
   clear HA
   simp only [tmesisref04_Put.l0] at H
   by_cases c4 : x5_1 < (l0.length : Int)
   ·rw [if_pos c4] at H
    have c4b0 := decide_eq_true c4
    clear c4
    by_cases c5 : 0 ≤ x5_1
    ·rw [if_pos c5] at H
     have c5b0 := decide_eq_true c5
     clear c5
     have HC6 := Aside0.mk H
     clear H
     have p389 : 0 ≤ (x5_1 : Int) := dt
     have q389 : x5_1 < (l0.length : Int) := dt
     obtain ⟨ad389, e389, hx389_0⟩ := Kd.at_int HR0.out x5_1 p389 q389
     cases e389
     replace hx389_0 := pw_cell_below HB.out hx389_0
     replace p389 := eq_true p389
     replace q389 := eq_true q389
     go_upto_region 6 with (fail)
     go_cut [26] (fun v26 wc => ∃ (kq : Nat) (x26_5 : Bool), v26 = .bool x26_5 ∧ Aside0 (tmesisref04_Put.j1 kq l0 x4_1 x5_1 (rd l0 x5_1) x26_5 = some (r1, r2)) ∧ Aside0 (kq ≤ k1) ∧ Aside0 (Kd.R (Kd.int .u8) 5 wc w.heap.size (fun _ => True) u4 x4_1) ∧ Aside0 (Below w.heap.size w wc))
     case first =>
      have H := HC6.out
      clear HC6
      by_cases c7 : (rd l0 x5_1) = 39
      ·rw [if_pos c7] at H
       obtain ⟨c7b0, c7b1⟩ := eqB c7
       clear c7
       (first | rw [c7b0] | (simp only [i64_w, i32_w]; rw [c7b0]) | skip)
       have H' := Aside0.mk H
       clear H
       go_wp2
       go_meet
       case rel => exact ⟨_, (true), sR, H', ⟨by have := HK1.out; first | omega | exact Nat.le_refl _⟩, ⟨RAt HO_4.out⟩, ⟨bAt HB.out⟩⟩
      ·rw [if_neg c7] at H
       obtain ⟨c7b0, c7b1⟩ := neB c7
       (first | rw [c7b0] | (simp only [i64_w, i32_w]; rw [c7b0]) | skip)
       have H' := Aside0.mk H
       clear H
       go_wp2
       go_meet
       case rel => exact ⟨_, (((rd l0 x5_1) == 92)), sR, H', ⟨by have := HK1.out; first | omega | exact Nat.le_refl _⟩, ⟨RAt HO_4.out⟩, ⟨bAt HB.out⟩⟩
     case rest =>
      clear HC6
      try clear c2
      try clear p2
      try clear p3
      try clear q3
      try clear hx3
      try clear c4
      try clear c4b0
      try clear c5
      try clear c5b0
      try clear c7
      try clear c7b0 c7b1
      try clear hx389_0
      try clear p2
      try clear p389
      try clear q389
      obtain ⟨kq, x26_5, rfl, HA, HJ5, HO_4, HB⟩ := hcut
      cases kq with
      | zero => exact absurd HA.out (by simp [tmesisref04_Put.j1])
      | succ kj5 =>
       have H := HA.out
       clear HA
       simp only [tmesisref04_Put.j1] at H
       by_cases c8 : x26_5 = true
       ·subst c8
        replace H := tP H
        by_cases c9 : x4_1.length < 140737488355328
        ·rw [if_pos c9] at H
         have LMc9 := Aside0.mk c9
         clear c9
         obtain ⟨y390, hy390⟩ : ∃ y_ : List Int, y_ = (x4_1 ++ [(rd l0 x5_1)]) := ⟨_, rfl⟩
         replace H : (if (rd l0 x5_1) = 10 then (if y390.length < 140737488355328 then ((some (y390 ++ [92] : List Int)).bind fun y393 => (if y393.length < 140737488355328 then (tmesisref04_Put.l0 kj5 l0 (y393 ++ [110]) (wrap64 (x5_1 + 1))) else (none))) else (none)) else (if y390.length < 140737488355328 then (tmesisref04_Put.l0 kj5 l0 (y390 ++ [(rd l0 x5_1)]) (wrap64 (x5_1 + 1))) else (none))) = some (r1, r2) := by first | (rw [hy390]; with_reducible exact H) | (have H2_ := (Option.bind_some _ _).symm.trans H; rw [hy390]; with_reducible exact H2_) | (have H2_ := (Option.bind_some _ _).symm.trans H; with_reducible exact H2_) | with_reducible exact H | (rw [hy390]; exact H) | exact H
         have Ny390 := Aside0.mk hy390
         clear hy390
         by_cases c10 : (rd l0 x5_1) = 10
         ·rw [if_pos c10] at H
          obtain ⟨c10b0, c10b1⟩ := eqB c10
          clear c10
          by_cases c11 : y390.length < 140737488355328
          ·rw [if_pos c11] at H
           have LMc11 := Aside0.mk c11
           clear c11
           obtain ⟨y393, hy393⟩ : ∃ y_ : List Int, y_ = (y390 ++ [92]) := ⟨_, rfl⟩
           replace H : (if y393.length < 140737488355328 then (tmesisref04_Put.l0 kj5 l0 (y393 ++ [110]) (wrap64 (x5_1 + 1))) else (none)) = some (r1, r2) := by first | (rw [hy393]; with_reducible exact H) | (have H2_ := (Option.bind_some _ _).symm.trans H; rw [hy393]; with_reducible exact H2_) | (have H2_ := (Option.bind_some _ _).symm.trans H; with_reducible exact H2_) | with_reducible exact H | (rw [hy393]; exact H) | exact H
           have Ny393 := Aside0.mk hy393
           clear hy393
           by_cases c12 : y393.length < 140737488355328
           ·rw [if_pos c12] at H
            have LMc12 := Aside0.mk c12
            clear c12
            obtain ⟨y396, hy396⟩ : ∃ y_ : List Int, y_ = (y393 ++ [110]) := ⟨_, rfl⟩
            replace H : (tmesisref04_Put.l0 kj5 l0 y396 (wrap64 (x5_1 + 1))) = some (r1, r2) := by first | (rw [hy396]; with_reducible exact H) | (have H2_ := (Option.bind_some _ _).symm.trans H; rw [hy396]; with_reducible exact H2_) | (have H2_ := (Option.bind_some _ _).symm.trans H; with_reducible exact H2_) | with_reducible exact H | (rw [hy396]; exact H) | exact H
            have Ny396 := Aside0.mk hy396
            clear hy396
            have H' := Aside0.mk H
            clear H
            go_wp2_with (first | ((with_reducible refine gate_builtin (b := .append) (xs := #[.tmp 27, .tmp 29]) rfl ?_); at_builtin; refine Kd.R_append (Kd.int .u8) (w0 := w) w.heap.size rfl (.tmp 27) (.tmp 29) 22 5 (.int .u8 0) 1 rfl Tryd.underlying22 info5 rfl (by decide) (by omega) u4 x4_1 (rd l0 x5_1) [.int .u8 (rd l0 x5_1)] (fun _ => True) (fun _ => False) rfl rfl ?aP (fun _ hk => hk.elim) ?aF ?aO ?aB ?aS ?aL ?_; (case aP => exact rfl); (case aB => exact (bAt HB.out)); (case aF => exact (fun _ _ => trivial)); (case aO => exact (RAt HO_4.out)); (case aS => exact (below_size (bAt HB.out))); (case aL => have := LMc9.out; omega); intro v391 w13 ho hb hg hat; rw [← Ny390.out] at ho; replace HB := Aside0.mk (hb); have HO392 := Aside0.mk (ho); clear HO_4; clear ho hb hg hat) | ((with_reducible refine gate_builtin (b := .append) (xs := #[.tmp 33, .tmp 34]) rfl ?_); at_builtin; refine Kd.R_append (Kd.int .u8) (w0 := w) w.heap.size rfl (.tmp 33) (.tmp 34) 22 5 (.int .u8 0) 1 rfl Tryd.underlying22 info5 rfl (by decide) (by omega) v391 y390 92 [.int .u8 92] (fun _ => True) (fun _ => False) rfl rfl ?aP (fun _ hk => hk.elim) ?aF ?aO ?aB ?aS ?aL ?_; (case aP => exact rfl); (case aB => exact (bAt HB.out)); (case aF => exact (fun _ _ => trivial)); (case aO => exact (RAt HO392.out)); (case aS => exact (below_size (bAt HB.out))); (case aL => have := LMc11.out; omega); intro v394 w14 ho hb hg hat; rw [← Ny393.out] at ho; replace HB := Aside0.mk (hb); have HO395 := Aside0.mk (ho); clear HO392; clear ho hb hg hat) | ((with_reducible refine gate_builtin (b := .append) (xs := #[.tmp 36, .tmp 38]) rfl ?_); at_builtin; refine Kd.R_append (Kd.int .u8) (w0 := w) w.heap.size rfl (.tmp 36) (.tmp 38) 22 5 (.int .u8 0) 1 rfl Tryd.underlying22 info5 rfl (by decide) (by omega) v394 y393 110 [.int .u8 110] (fun _ => True) (fun _ => False) rfl rfl ?aP (fun _ hk => hk.elim) ?aF ?aO ?aB ?aS ?aL ?_; (case aP => exact rfl); (case aB => exact (bAt HB.out)); (case aF => exact (fun _ _ => trivial)); (case aO => exact (RAt HO395.out)); (case aS => exact (below_size (bAt HB.out))); (case aL => have := LMc12.out; omega); intro v397 w15 ho hb hg hat; rw [← Ny396.out] at ho; replace HB := Aside0.mk (hb); have HO398 := Aside0.mk (ho); clear HO395; clear ho hb hg hat))
            go_roundg kj5
            case measure => have := HK1.out; have := HJ5.out; omega
            case rel => exact ⟨(y396), (wrap64 (x5_1 + 1)), sR, H', ⟨by have := HK1.out; have := HJ5.out; omega⟩, ⟨RAt HO398.out⟩, ⟨bAt HB.out⟩⟩
           ·exact nB H c12
          ·exact nB H c11
         ·rw [if_neg c10] at H
          obtain ⟨c10b0, c10b1⟩ := neB c10
          by_cases c16 : y390.length < 140737488355328
          ·rw [if_pos c16] at H
           have LMc16 := Aside0.mk c16
           clear c16
           obtain ⟨y399, hy399⟩ : ∃ y_ : List Int, y_ = (y390 ++ [(rd l0 x5_1)]) := ⟨_, rfl⟩
           replace H : (tmesisref04_Put.l0 kj5 l0 y399 (wrap64 (x5_1 + 1))) = some (r1, r2) := by first | (rw [hy399]; with_reducible exact H) | (have H2_ := (Option.bind_some _ _).symm.trans H; rw [hy399]; with_reducible exact H2_) | (have H2_ := (Option.bind_some _ _).symm.trans H; with_reducible exact H2_) | with_reducible exact H | (rw [hy399]; exact H) | exact H
           have Ny399 := Aside0.mk hy399
           clear hy399
           have H' := Aside0.mk H
           clear H
           go_wp2_with (first | ((with_reducible refine gate_builtin (b := .append) (xs := #[.tmp 27, .tmp 29]) rfl ?_); at_builtin; refine Kd.R_append (Kd.int .u8) (w0 := w) w.heap.size rfl (.tmp 27) (.tmp 29) 22 5 (.int .u8 0) 1 rfl Tryd.underlying22 info5 rfl (by decide) (by omega) u4 x4_1 (rd l0 x5_1) [.int .u8 (rd l0 x5_1)] (fun _ => True) (fun _ => False) rfl rfl ?aP (fun _ hk => hk.elim) ?aF ?aO ?aB ?aS ?aL ?_; (case aP => exact rfl); (case aB => exact (bAt HB.out)); (case aF => exact (fun _ _ => trivial)); (case aO => exact (RAt HO_4.out)); (case aS => exact (below_size (bAt HB.out))); (case aL => have := LMc9.out; omega); intro v391 w17 ho hb hg hat; rw [← Ny390.out] at ho; replace HB := Aside0.mk (hb); have HO392 := Aside0.mk (ho); clear HO_4; clear ho hb hg hat) | ((with_reducible refine gate_builtin (b := .append) (xs := #[.tmp 36, .tmp 38]) rfl ?_); at_builtin; refine Kd.R_append (Kd.int .u8) (w0 := w) w.heap.size rfl (.tmp 36) (.tmp 38) 22 5 (.int .u8 0) 1 rfl Tryd.underlying22 info5 rfl (by decide) (by omega) v391 y390 (rd l0 x5_1) [.int .u8 (rd l0 x5_1)] (fun _ => True) (fun _ => False) rfl rfl ?aP (fun _ hk => hk.elim) ?aF ?aO ?aB ?aS ?aL ?_; (case aP => exact rfl); (case aB => exact (bAt HB.out)); (case aF => exact (fun _ _ => trivial)); (case aO => exact (RAt HO392.out)); (case aS => exact (below_size (bAt HB.out))); (case aL => have := LMc16.out; omega); intro v400 w18 ho hb hg hat; rw [← Ny399.out] at ho; replace HB := Aside0.mk (hb); have HO401 := Aside0.mk (ho); clear HO392; clear ho hb hg hat))
           go_roundg kj5
           case measure => have := HK1.out; have := HJ5.out; omega
           case rel => exact ⟨(y399), (wrap64 (x5_1 + 1)), sR, H', ⟨by have := HK1.out; have := HJ5.out; omega⟩, ⟨RAt HO401.out⟩, ⟨bAt HB.out⟩⟩
          ·exact nB H c16
        ·exact nB H c9
       ·replace c8 := Bool.eq_false_iff.mpr c8
        subst c8
        replace H := fP H
        by_cases c19 : (rd l0 x5_1) = 10
        ·rw [if_pos c19] at H
         obtain ⟨c19b0, c19b1⟩ := eqB c19
         clear c19
         by_cases c20 : x4_1.length < 140737488355328
         ·rw [if_pos c20] at H
          have LMc20 := Aside0.mk c20
          clear c20
          obtain ⟨y402, hy402⟩ : ∃ y_ : List Int, y_ = (x4_1 ++ [92]) := ⟨_, rfl⟩
          replace H : (if y402.length < 140737488355328 then (tmesisref04_Put.l0 kj5 l0 (y402 ++ [110]) (wrap64 (x5_1 + 1))) else (none)) = some (r1, r2) := by first | (rw [hy402]; with_reducible exact H) | (have H2_ := (Option.bind_some _ _).symm.trans H; rw [hy402]; with_reducible exact H2_) | (have H2_ := (Option.bind_some _ _).symm.trans H; with_reducible exact H2_) | with_reducible exact H | (rw [hy402]; exact H) | exact H
          have Ny402 := Aside0.mk hy402
          clear hy402
          by_cases c21 : y402.length < 140737488355328
          ·rw [if_pos c21] at H
           have LMc21 := Aside0.mk c21
           clear c21
           obtain ⟨y405, hy405⟩ : ∃ y_ : List Int, y_ = (y402 ++ [110]) := ⟨_, rfl⟩
           replace H : (tmesisref04_Put.l0 kj5 l0 y405 (wrap64 (x5_1 + 1))) = some (r1, r2) := by first | (rw [hy405]; with_reducible exact H) | (have H2_ := (Option.bind_some _ _).symm.trans H; rw [hy405]; with_reducible exact H2_) | (have H2_ := (Option.bind_some _ _).symm.trans H; with_reducible exact H2_) | with_reducible exact H | (rw [hy405]; exact H) | exact H
           have Ny405 := Aside0.mk hy405
           clear hy405
           have H' := Aside0.mk H
           clear H
           go_wp2_with (first | ((with_reducible refine gate_builtin (b := .append) (xs := #[.tmp 33, .tmp 34]) rfl ?_); at_builtin; refine Kd.R_append (Kd.int .u8) (w0 := w) w.heap.size rfl (.tmp 33) (.tmp 34) 22 5 (.int .u8 0) 1 rfl Tryd.underlying22 info5 rfl (by decide) (by omega) u4 x4_1 92 [.int .u8 92] (fun _ => True) (fun _ => False) rfl rfl ?aP (fun _ hk => hk.elim) ?aF ?aO ?aB ?aS ?aL ?_; (case aP => exact rfl); (case aB => exact (bAt HB.out)); (case aF => exact (fun _ _ => trivial)); (case aO => exact (RAt HO_4.out)); (case aS => exact (below_size (bAt HB.out))); (case aL => have := LMc20.out; omega); intro v403 w22 ho hb hg hat; rw [← Ny402.out] at ho; replace HB := Aside0.mk (hb); have HO404 := Aside0.mk (ho); clear HO_4; clear ho hb hg hat) | ((with_reducible refine gate_builtin (b := .append) (xs := #[.tmp 36, .tmp 38]) rfl ?_); at_builtin; refine Kd.R_append (Kd.int .u8) (w0 := w) w.heap.size rfl (.tmp 36) (.tmp 38) 22 5 (.int .u8 0) 1 rfl Tryd.underlying22 info5 rfl (by decide) (by omega) v403 y402 110 [.int .u8 110] (fun _ => True) (fun _ => False) rfl rfl ?aP (fun _ hk => hk.elim) ?aF ?aO ?aB ?aS ?aL ?_; (case aP => exact rfl); (case aB => exact (bAt HB.out)); (case aF => exact (fun _ _ => trivial)); (case aO => exact (RAt HO404.out)); (case aS => exact (below_size (bAt HB.out))); (case aL => have := LMc21.out; omega); intro v406 w23 ho hb hg hat; rw [← Ny405.out] at ho; replace HB := Aside0.mk (hb); have HO407 := Aside0.mk (ho); clear HO404; clear ho hb hg hat))
           go_roundg kj5
           case measure => have := HK1.out; have := HJ5.out; omega
           case rel => exact ⟨(y405), (wrap64 (x5_1 + 1)), sR, H', ⟨by have := HK1.out; have := HJ5.out; omega⟩, ⟨RAt HO407.out⟩, ⟨bAt HB.out⟩⟩
          ·exact nB H c21
         ·exact nB H c20
        ·rw [if_neg c19] at H
         obtain ⟨c19b0, c19b1⟩ := neB c19
         by_cases c24 : x4_1.length < 140737488355328
         ·rw [if_pos c24] at H
          have LMc24 := Aside0.mk c24
          clear c24
          obtain ⟨y408, hy408⟩ : ∃ y_ : List Int, y_ = (x4_1 ++ [(rd l0 x5_1)]) := ⟨_, rfl⟩
          replace H : (tmesisref04_Put.l0 kj5 l0 y408 (wrap64 (x5_1 + 1))) = some (r1, r2) := by first | (rw [hy408]; with_reducible exact H) | (have H2_ := (Option.bind_some _ _).symm.trans H; rw [hy408]; with_reducible exact H2_) | (have H2_ := (Option.bind_some _ _).symm.trans H; with_reducible exact H2_) | with_reducible exact H | (rw [hy408]; exact H) | exact H
          have Ny408 := Aside0.mk hy408
          clear hy408
          have H' := Aside0.mk H
          clear H
          go_wp2_with (first | ((with_reducible refine gate_builtin (b := .append) (xs := #[.tmp 36, .tmp 38]) rfl ?_); at_builtin; refine Kd.R_append (Kd.int .u8) (w0 := w) w.heap.size rfl (.tmp 36) (.tmp 38) 22 5 (.int .u8 0) 1 rfl Tryd.underlying22 info5 rfl (by decide) (by omega) u4 x4_1 (rd l0 x5_1) [.int .u8 (rd l0 x5_1)] (fun _ => True) (fun _ => False) rfl rfl ?aP (fun _ hk => hk.elim) ?aF ?aO ?aB ?aS ?aL ?_; (case aP => exact rfl); (case aB => exact (bAt HB.out)); (case aF => exact (fun _ _ => trivial)); (case aO => exact (RAt HO_4.out)); (case aS => exact (below_size (bAt HB.out))); (case aL => have := LMc24.out; omega); intro v409 w25 ho hb hg hat; rw [← Ny408.out] at ho; replace HB := Aside0.mk (hb); have HO410 := Aside0.mk (ho); clear HO_4; clear ho hb hg hat))
          go_roundg kj5
          case measure => have := HK1.out; have := HJ5.out; omega
          case rel => exact ⟨(y408), (wrap64 (x5_1 + 1)), sR, H', ⟨by have := HK1.out; have := HJ5.out; omega⟩, ⟨RAt HO410.out⟩, ⟨bAt HB.out⟩⟩
         ·exact nB H c24
    ·exact nB H c5
   ·rw [if_neg c4] at H
    have c4b0 := decide_eq_false c4
    clear c4
    by_cases c26 : x4_1.length < 140737488355328
    ·rw [if_pos c26] at H
     have LMc26 := Aside0.mk c26
     clear c26
     obtain ⟨y381, hy381⟩ : ∃ y_ : List Int, y_ = (x4_1 ++ [39]) := ⟨_, rfl⟩
     replace H : ((tmesisref04_Take.f k1 y381).bind fun bt384 => (if bt384.2.2 = 0 then (some (y381, 0)) else (some (([] : List Int), 1)))) = some (r1, r2) := by first | (rw [hy381]; with_reducible exact H) | (have H2_ := (Option.bind_some _ _).symm.trans H; rw [hy381]; with_reducible exact H2_) | (have H2_ := (Option.bind_some _ _).symm.trans H; with_reducible exact H2_) | with_reducible exact H | (rw [hy381]; exact H) | exact H
     have Ny381 := Aside0.mk hy381
     clear hy381
     obtain ⟨⟨t384, t385, t386⟩, A27, H⟩ := bE H
     replace H : (if t386 = 0 then (some (y381, 0)) else (some (([] : List Int), 1))) = some (r1, r2) := H
     by_cases c28 : t386 = 0
     ·rw [if_pos c28] at H
      obtain ⟨c28b0, c28b1⟩ := eqB c28
      clear c28
      simp only [Option.some.injEq, Prod.mk.injEq] at H
      obtain ⟨rfl, rfl⟩ := H
      go_wp2_with (first | ((with_reducible refine gate_builtin (b := .append) (xs := #[.tmp 40, .tmp 41]) rfl ?_); at_builtin; refine Kd.R_append (Kd.int .u8) (w0 := w) w.heap.size rfl (.tmp 40) (.tmp 41) 22 5 (.int .u8 0) 1 rfl Tryd.underlying22 info5 rfl (by decide) (by omega) u4 x4_1 39 [.int .u8 39] (fun _ => True) (fun _ => False) rfl rfl ?aP (fun _ hk => hk.elim) ?aF ?aO ?aB ?aS ?aL ?_; (case aP => exact rfl); (case aB => exact (bAt HB.out)); (case aF => exact (fun _ _ => trivial)); (case aO => exact (RAt HO_4.out)); (case aS => exact (below_size (bAt HB.out))); (case aL => have := LMc26.out; omega); intro v382 w29 ho hb hg hat; rw [← Ny381.out] at ho; replace HB := Aside0.mk (hb); have HO383 := Aside0.mk (ho); clear HO_4; clear ho hb hg hat; obtain ⟨Ao30, co30, eo30⟩ := Kd.R_slice HO383.out; subst eo30) | ((with_reducible refine gate_callee (f := 25) rfl ?_); refine gL (some 45) Tryd.func25 #[.slice Ao30 y381.length co30] rfl gA ?_; (with_reducible refine (tmesisref04_Take.calls k1 _ _ y381 t384 t385 t386 _ ?side1 ?side2 A27.out).mono ?_); (case side1 => exact CAt ((Kd.R_reads' HO383.out).2.2)); (case side2 => exact (Kd.R_reads' HO383.out).2.1); rintro e w31 ⟨v387, rfl, ho0, hb⟩; refine ⟨_, rfl, ?_⟩; have HO388 := Aside0.mk (Kd.R_lower (Kd.R_new' ho0 (Kd.R_lt (RAt HO383.out))) (below_size (bAt HB.out))); replace HO383 := Aside0.mk (Kd.R_elder' (RAt HO383.out) (Kd.R_base ho0) hb); replace HB := Aside0.mk (below_step (bAt HB.out) hb); (try clear hb); (try clear hb2); (try clear hk); (try clear hi); (try clear ho0)))
      go_ret2
      exact ⟨_, eR, RAt (Kd.R_mono HO383.out (fun _ hk => trivial)), bAt HB.out⟩
     ·rw [if_neg c28] at H
      obtain ⟨c28b0, c28b1⟩ := neB c28
      simp only [Option.some.injEq, Prod.mk.injEq] at H
      obtain ⟨rfl, rfl⟩ := H
      go_wp2_with (first | ((with_reducible refine gate_builtin (b := .append) (xs := #[.tmp 40, .tmp 41]) rfl ?_); at_builtin; refine Kd.R_append (Kd.int .u8) (w0 := w) w.heap.size rfl (.tmp 40) (.tmp 41) 22 5 (.int .u8 0) 1 rfl Tryd.underlying22 info5 rfl (by decide) (by omega) u4 x4_1 39 [.int .u8 39] (fun _ => True) (fun _ => False) rfl rfl ?aP (fun _ hk => hk.elim) ?aF ?aO ?aB ?aS ?aL ?_; (case aP => exact rfl); (case aB => exact (bAt HB.out)); (case aF => exact (fun _ _ => trivial)); (case aO => exact (RAt HO_4.out)); (case aS => exact (below_size (bAt HB.out))); (case aL => have := LMc26.out; omega); intro v382 w32 ho hb hg hat; rw [← Ny381.out] at ho; replace HB := Aside0.mk (hb); have HO383 := Aside0.mk (ho); clear HO_4; clear ho hb hg hat; obtain ⟨Ao33, co33, eo33⟩ := Kd.R_slice HO383.out; subst eo33) | ((with_reducible refine gate_callee (f := 25) rfl ?_); refine gL (some 45) Tryd.func25 #[.slice Ao33 y381.length co33] rfl gA ?_; (with_reducible refine (tmesisref04_Take.calls k1 _ _ y381 t384 t385 t386 _ ?side1 ?side2 A27.out).mono ?_); (case side1 => exact CAt ((Kd.R_reads' HO383.out).2.2)); (case side2 => exact (Kd.R_reads' HO383.out).2.1); rintro e w34 ⟨v387, rfl, ho0, hb⟩; refine ⟨_, rfl, ?_⟩; have HO388 := Aside0.mk (Kd.R_lower (Kd.R_new' ho0 (Kd.R_lt (RAt HO383.out))) (below_size (bAt HB.out))); replace HO383 := Aside0.mk (Kd.R_elder' (RAt HO383.out) (Kd.R_base ho0) hb); replace HB := Aside0.mk (below_step (bAt HB.out) hb); (try clear hb); (try clear hb2); (try clear hk); (try clear hi); (try clear ho0)))
      go_ret2
      exact ⟨_, eR, by first | exact Kd.R_nil _ _ _ _ _ | exact Kd.N_nil _ _ _ _ _ | exact Kd.V_nil _ _ _ _ _ | exact Kd.Q_nil _ _ _ _ _ | exact Kd.S_nil _ _ _ _ _, bAt HB.out⟩
    ·exact nB H c26
def tmesisref07_Join.l0 : Nat → List (S34) → List Int → Int → Option (List Int × Int)
 | 0, _, _, _ => none
 | k + 1, x0, x4, x5 => if x5 < (x0.length : Int) then (if 0 ≤ x5 then (if ((rd_T34 x0 x5).f3).size ≤ 9223372036854775807 then ((some (bytesOf ((rd_T34 x0 x5).f3) : List Int)).bind fun y415 => (if ((rd_T34 x0 x5).f0) = 5 then ((tmesisref04_Put.f k y415).bind fun bt419 => (if bt419.2 = 0 then (if x4.length + bt419.1.length < 140737488355328 then ((some (x4 ++ bt419.1 : List Int)).bind fun y423 => (if ((rd_T34 x0 x5).f0) = 7 then (if y423.length < 140737488355328 then (tmesisref07_Join.l0 k x0 (y423 ++ [10]) (wrap64 (x5 + 1))) else (none)) else (if y423.length < 140737488355328 then (tmesisref07_Join.l0 k x0 (y423 ++ [32]) (wrap64 (x5 + 1))) else (none)))) else (none)) else (some (([] : List Int), 1)))) else (if x4.length + y415.length < 140737488355328 then ((some (x4 ++ y415 : List Int)).bind fun y433 => (if ((rd_T34 x0 x5).f0) = 7 then (if y433.length < 140737488355328 then (tmesisref07_Join.l0 k x0 (y433 ++ [10]) (wrap64 (x5 + 1))) else (none)) else (if y433.length < 140737488355328 then (tmesisref07_Join.l0 k x0 (y433 ++ [32]) (wrap64 (x5 + 1))) else (none)))) else (none)))) else (none)) else (none)) else ((tmesisref07_All.f k x4).bind fun t443 => ((tmesisref07_Alike.f k t443 x0).bind fun t446 => (if t446 = true then (some (x4, 0)) else (some (([] : List Int), 1)))))
def tmesisref07_Join.f (k : Nat) (l0 : List (S34)) : Option (List Int × Int) := tmesisref07_Join.l0 k l0 (([] : List Int)) 0
theorem tmesisref07_Join.mono_l : ∀ k, (∀ y0 y1 y2, LeO (tmesisref07_Join.l0 k y0 y1 y2) (tmesisref07_Join.l0 (k + 1) y0 y1 y2))
 | 0 => fun _ _ _ r h => by simp [tmesisref07_Join.l0] at h
 | k + 1 => by
  have ih0 := tmesisref07_Join.mono_l k
  ·intro y0 y1 y2
   unfold tmesisref07_Join.l0
   repeat' with_reducible first | exact ih0 _ _ _ | exact tmesisref04_Put.mono _ _ | exact tmesisref07_Alike.mono _ _ _ | exact tmesisref07_All.mono _ _ | exact LeO.refl _ | exact LeO.none _ | refine LeO.ite ?_ ?_ | refine LeO.bind ?_ (fun _ => ?_)
theorem tmesisref07_Join.mono : ∀ a0 k, LeO (tmesisref07_Join.f k a0) (tmesisref07_Join.f (k + 1) a0) := by
 intro a0 k
 have ih0 := tmesisref07_Join.mono_l k
 unfold tmesisref07_Join.f
 repeat' with_reducible first | exact ih0 _ _ _ | exact tmesisref04_Put.mono _ _ | exact tmesisref07_Alike.mono _ _ _ | exact tmesisref07_All.mono _ _ | exact LeO.refl _ | exact LeO.none _ | refine LeO.ite ?_ ?_ | refine LeO.bind ?_ (fun _ => ?_)
set_option maxHeartbeats 8000000 in
set_option maxRecDepth 100000 in
theorem tmesisref07_Join.calls (k : Nat) (A0 : Option Addr) (c0 : Nat) (l0 : List (S34)) (r1 : List Int) (r2 : Int) (w : World) (hr0 : Kd.C k34 w A0 l0.length l0) (hc0 : l0.length ≤ c0) (h : tmesisref07_Join.f k l0 = some (r1, r2)) :
  Calls Tryd.prog 12 #[.slice A0 l0.length c0] w fun e w' => ∃ v0_ : Value, e = .returned (.tuple #[v0_, .int .i64 r2]) ∧ Kd.R (Kd.int .u8) 5 w' w.heap.size (fun _ => True) v0_ r1 ∧ Below w.heap.size w w' := by
 have HR0 := Aside0.mk hr0
 have HC0 := Aside0.mk hc0
 clear hr0 hc0
 have HB := Aside0.mk (Below.refl w.heap.size w)
 have H : (tmesisref07_Join.l0 k l0 (([] : List Int)) 0) = some (r1, r2) := h
 clear h
 obtain ⟨y411, hy411⟩ : ∃ y_ : List Int, y_ = (([] : List Int)) := ⟨_, rfl⟩
 replace H : (tmesisref07_Join.l0 k l0 y411 0) = some (r1, r2) := by first | (rw [hy411]; with_reducible exact H) | (have H2_ := (Option.bind_some _ _).symm.trans H; rw [hy411]; with_reducible exact H2_) | (have H2_ := (Option.bind_some _ _).symm.trans H; with_reducible exact H2_) | with_reducible exact H | (rw [hy411]; exact H) | exact H
 have Ny411 := Aside0.mk hy411
 clear hy411
 have H' := Aside0.mk H
 clear H
 go_enter Tryd.func12, Tryd.ntmps12
 go_wp2_with (first | ((with_reducible refine gate_dst (N := 9) rfl ?_); refine Kd.R_lit (Kd.int .u8) _ 5 ?hg (N := 9) ?hd (xs := ([] : List Int)) (inner := []) (ok := fun _ => True) (okp := fun _ => True) ?hr ?hp (fun _ hk => hk) trivial (Below.refl _ _) (Nat.le_refl _) (by simp) ?_; (case hd => rfl); (case hg => rfl); (case hr => first | (go_simp; done) | (go_simp; rfl)); (case hp => exact (Reps.none _ _)); intro v412 w2 ho3 hb hg_ hnew_; clear hg_ hnew_; (first | rw [← Ny411.out] at ho3 | (simp only [Int.reduceToNat] at ho3; rw [← Ny411.out] at ho3)); have HO413 := Aside0.mk (Kd.R_lower ho3 (below_size (bAt HB.out))); replace HB := Aside0.mk (below_step (bAt HB.out) hb); clear hb ho3))
 go_loopg [4, 5] k (fun kq v4 v5 w' => ∃ (x4_1 : List Int) (x5_1 : Int), v5 = .int .i64 x5_1 ∧ Aside0 (tmesisref07_Join.l0 kq l0 x4_1 x5_1 = some (r1, r2)) ∧ Aside0 (kq ≤ k) ∧ Aside0 (Kd.R (Kd.int .u8) 5 w' w.heap.size (fun _ => True) v4 x4_1) ∧ Aside0 (Below w.heap.size w w'))
 case atStart => exact ⟨(y411), (0), sR, H', ⟨Nat.le_refl _⟩, ⟨RAt HO413.out⟩, ⟨bAt HB.out⟩⟩
 case round =>
  clear H'
  try clear c1
  try clear p2
  obtain ⟨x4_1, x5_1, rfl, HA, HK1, HO_4, HB⟩ := hrel
  cases gk with
  | zero => exact absurd HA.out (by simp [tmesisref07_Join.l0])
  | succ k1 =>
   have H := HA.out
   clear HA
   simp only [tmesisref07_Join.l0] at H
   by_cases c4 : x5_1 < (l0.length : Int)
   ·rw [if_pos c4] at H
    have c4b0 := decide_eq_true c4
    clear c4
    by_cases c5 : 0 ≤ x5_1
    ·rw [if_pos c5] at H
     have c5b0 := decide_eq_true c5
     clear c5
     by_cases c6 : ((rd_T34 l0 x5_1).f3).size ≤ 9223372036854775807
     ·rw [if_pos c6] at H
      have c6b0 := eq_true c6
      have c6b1 := decide_eq_true c6
      try have c6b2 : (9223372036854775807 < ((rd_T34 l0 x5_1).f3).size) = False := eq_false (Nat.not_lt.2 c6)
      clear c6
      obtain ⟨y415, hy415⟩ : ∃ y_ : List Int, y_ = (bytesOf ((rd_T34 l0 x5_1).f3)) := ⟨_, rfl⟩
      replace H : (if ((rd_T34 l0 x5_1).f0) = 5 then ((tmesisref04_Put.f k1 y415).bind fun bt419 => (if bt419.2 = 0 then (if x4_1.length + bt419.1.length < 140737488355328 then ((some (x4_1 ++ bt419.1 : List Int)).bind fun y423 => (if ((rd_T34 l0 x5_1).f0) = 7 then (if y423.length < 140737488355328 then (tmesisref07_Join.l0 k1 l0 (y423 ++ [10]) (wrap64 (x5_1 + 1))) else (none)) else (if y423.length < 140737488355328 then (tmesisref07_Join.l0 k1 l0 (y423 ++ [32]) (wrap64 (x5_1 + 1))) else (none)))) else (none)) else (some (([] : List Int), 1)))) else (if x4_1.length + y415.length < 140737488355328 then ((some (x4_1 ++ y415 : List Int)).bind fun y433 => (if ((rd_T34 l0 x5_1).f0) = 7 then (if y433.length < 140737488355328 then (tmesisref07_Join.l0 k1 l0 (y433 ++ [10]) (wrap64 (x5_1 + 1))) else (none)) else (if y433.length < 140737488355328 then (tmesisref07_Join.l0 k1 l0 (y433 ++ [32]) (wrap64 (x5_1 + 1))) else (none)))) else (none))) = some (r1, r2) := by first | (rw [hy415]; with_reducible exact H) | (have H2_ := (Option.bind_some _ _).symm.trans H; rw [hy415]; with_reducible exact H2_) | (have H2_ := (Option.bind_some _ _).symm.trans H; with_reducible exact H2_) | with_reducible exact H | (rw [hy415]; exact H) | exact H
      have Ny415 := Aside0.mk hy415
      clear hy415
      by_cases c7 : ((rd_T34 l0 x5_1).f0) = 5
      ·rw [if_pos c7] at H
       obtain ⟨c7b0, c7b1⟩ := eqB c7
       clear c7
       obtain ⟨⟨t419, t420⟩, A8, H⟩ := bE H
       replace H : (if t420 = 0 then (if x4_1.length + t419.length < 140737488355328 then ((some (x4_1 ++ t419 : List Int)).bind fun y423 => (if ((rd_T34 l0 x5_1).f0) = 7 then (if y423.length < 140737488355328 then (tmesisref07_Join.l0 k1 l0 (y423 ++ [10]) (wrap64 (x5_1 + 1))) else (none)) else (if y423.length < 140737488355328 then (tmesisref07_Join.l0 k1 l0 (y423 ++ [32]) (wrap64 (x5_1 + 1))) else (none)))) else (none)) else (some (([] : List Int), 1))) = some (r1, r2) := H
       by_cases c9 : t420 = 0
       ·rw [if_pos c9] at H
        obtain ⟨c9b0, c9b1⟩ := eqB c9
        clear c9
        by_cases c10 : x4_1.length + t419.length < 140737488355328
        ·rw [if_pos c10] at H
         have LMc10 := Aside0.mk c10
         clear c10
         obtain ⟨y423, hy423⟩ : ∃ y_ : List Int, y_ = (x4_1 ++ t419) := ⟨_, rfl⟩
         replace H : (if ((rd_T34 l0 x5_1).f0) = 7 then (if y423.length < 140737488355328 then (tmesisref07_Join.l0 k1 l0 (y423 ++ [10]) (wrap64 (x5_1 + 1))) else (none)) else (if y423.length < 140737488355328 then (tmesisref07_Join.l0 k1 l0 (y423 ++ [32]) (wrap64 (x5_1 + 1))) else (none))) = some (r1, r2) := by first | (rw [hy423]; with_reducible exact H) | (have H2_ := (Option.bind_some _ _).symm.trans H; rw [hy423]; with_reducible exact H2_) | (have H2_ := (Option.bind_some _ _).symm.trans H; with_reducible exact H2_) | with_reducible exact H | (rw [hy423]; exact H) | exact H
         have Ny423 := Aside0.mk hy423
         clear hy423
         by_cases c11 : ((rd_T34 l0 x5_1).f0) = 7
         ·rw [if_pos c11] at H
          obtain ⟨c11b0, c11b1⟩ := eqB c11
          clear c11
          by_cases c12 : y423.length < 140737488355328
          ·rw [if_pos c12] at H
           have LMc12 := Aside0.mk c12
           clear c12
           obtain ⟨y427, hy427⟩ : ∃ y_ : List Int, y_ = (y423 ++ [10]) := ⟨_, rfl⟩
           replace H : (tmesisref07_Join.l0 k1 l0 y427 (wrap64 (x5_1 + 1))) = some (r1, r2) := by first | (rw [hy427]; with_reducible exact H) | (have H2_ := (Option.bind_some _ _).symm.trans H; rw [hy427]; with_reducible exact H2_) | (have H2_ := (Option.bind_some _ _).symm.trans H; with_reducible exact H2_) | with_reducible exact H | (rw [hy427]; exact H) | exact H
           have Ny427 := Aside0.mk hy427
           clear hy427
           have H' := Aside0.mk H
           clear H
           have p414 : 0 ≤ (x5_1 : Int) := dt
           have q414 : x5_1 < (l0.length : Int) := dt
           obtain ⟨ad414, e414, hx414_0, hx414_1, hx414_2, hx414_3, hx414_4⟩ := at_T34 HR0.out x5_1 p414 q414
           cases e414
           replace hx414_0 := pw_cell_below HB.out hx414_0
           replace hx414_1 := pw_cell_below HB.out hx414_1
           replace hx414_2 := pw_cell_below HB.out hx414_2
           replace hx414_3 := pw_cell_below HB.out hx414_3
           replace hx414_4 := pw_cell_below HB.out hx414_4
           replace p414 := eq_true p414
           replace q414 := eq_true q414
           go_wp2_with (first | ((with_reducible refine gate_dst (N := 21) rfl ?_); refine V_bytes _ 5 rfl (N := 21) rfl rfl (s := ((rd_T34 l0 x5_1).f3)) rfl Tryd.underlying9 Tryd.underlying22 Tryd.underlying5 dt (Below.refl _ _) (Nat.le_refl _) ?_; intro v416 w13 ho14 hb hg_ hnew_; clear hg_ hnew_; (first | rw [← Ny415.out] at ho14 | (simp only [Int.reduceToNat] at ho14; rw [← Ny415.out] at ho14)); have HO417 := Aside0.mk (Kd.V_lower (Kd.V_mono (ok' := fun k_ => some k_ ≠ (u4 : Value).ownBlock) ho14 (fun k_ hk_ => (Kd.fresh' (Kd.R_lt (RAt HO_4.out)) k_ hk_))) (below_size (bAt HB.out))); replace HO_4 := Aside0.mk (Kd.R_below (RAt HO_4.out) hb); replace HB := Aside0.mk (below_step (bAt HB.out) hb); clear hb ho14; have p418 : 0 ≤ (x5_1 : Int) := dt; have q418 : x5_1 < (l0.length : Int) := dt; obtain ⟨ad418, e418, hx418_0, hx418_1, hx418_2, hx418_3, hx418_4⟩ := at_T34 HR0.out x5_1 p418 q418; obtain rfl : ad414 = ad418 := (by injection e418); replace hx418_0 := pw_cell_below HB.out hx418_0; replace hx418_1 := pw_cell_below HB.out hx418_1; replace hx418_2 := pw_cell_below HB.out hx418_2; replace hx418_3 := pw_cell_below HB.out hx418_3; replace hx418_4 := pw_cell_below HB.out hx418_4; replace p418 := eq_true p418; replace q418 := eq_true q418; obtain ⟨Ao15, co15, eo15⟩ := Kd.V_slice HO417.out; subst eo15) | ((with_reducible refine gate_callee (f := 21) rfl ?_); refine gL (some 30) Tryd.func21 #[.slice Ao15 y415.length co15] rfl gA ?_; (with_reducible refine (tmesisref04_Put.calls k1 _ _ y415 t419 t420 _ ?side1 ?side2 A8.out).mono ?_); (case side1 => exact CAt ((Kd.V_reads' HO417.out).2.2)); (case side2 => exact (Kd.V_reads' HO417.out).2.1); rintro e w16 ⟨v421, rfl, ho0, hb⟩; refine ⟨_, rfl, ?_⟩; replace HO417 := Aside0.mk (Kd.V_elder' (VAt HO417.out) (Kd.R_base ho0) hb); have HO422 := Aside0.mk (Kd.R_lower (Kd.R_new' ho0 (Kd.R_lt (RAt HO_4.out))) (below_size (bAt HB.out))); replace HO_4 := Aside0.mk (Kd.R_elder' (RAt HO_4.out) (Kd.R_base ho0) hb); replace HB := Aside0.mk (below_step (bAt HB.out) hb); (try clear hb); (try clear hb2); (try clear hk); (try clear hi); (try clear ho0); obtain ⟨Ao18, co18, eo18⟩ := Kd.R_slice HO422.out; subst eo18) | ((with_reducible refine gate_builtin (b := .append) (xs := #[.tmp 36, .tmp 37]) rfl ?_); at_builtin; refine Kd.R_append_rows (Kd.int .u8) (w0 := w) w.heap.size rfl (.tmp 36) (.tmp 37) 22 5 (.int .u8 0) 1 rfl Tryd.underlying22 info5 rfl (by decide) (by omega) u4 x4_1 t419 _ _ _ (fun k_ => some k_ ≠ (.slice Ao18 t419.length co18 : Value).ownBlock) (fun _ => False) rfl rfl ?aO ?aR (fun _ _ h => h) (fun _ h => h.elim) ?aF ?aB ?aS ?aL ?_; (case aR => repeat (first | exact (Kd.R_reads' HO422.out).2.2 | (with_reducible refine Kd.C_alloc ?_ _) | (with_reducible refine Kd.C_drewN ?_ _) | (with_reducible refine Kd.C_drew ?_))); (case aB => exact (bAt HB.out)); (case aF => exact (fun k_ hk => Kd.fresh' (Kd.R_lt (RAt HO422.out)) k_ hk)); (case aO => exact (RAt (Kd.R_mono HO_4.out (fun _ hk => hk.2)))); (case aS => exact (below_size (bAt HB.out))); (case aL => have := LMc10.out; omega); intro v424 w17 ho hb hg hat; rw [← Ny423.out] at ho; replace HO417 := Aside0.mk (Kd.V_afterv (ok := (fun k_ => some k_ ≠ (.slice Ao18 t419.length co18 : Value).ownBlock)) (VAt (Kd.V_mono HO417.out (fun _ hk => ⟨hk.2, hk.1⟩))) hg hat); replace HO422 := Aside0.mk (Kd.R_after (ok := (fun _ => True)) (RAt HO422.out) hg hat); replace HB := Aside0.mk (hb); have HO425 := Aside0.mk (ho); clear HO_4; clear ho hb hg hat; have p426 : 0 ≤ (x5_1 : Int) := dt; have q426 : x5_1 < (l0.length : Int) := dt; obtain ⟨ad426, e426, hx426_0, hx426_1, hx426_2, hx426_3, hx426_4⟩ := at_T34 HR0.out x5_1 p426 q426; obtain rfl : ad414 = ad426 := (by injection e426); replace hx426_0 := pw_cell_below HB.out hx426_0; replace hx426_1 := pw_cell_below HB.out hx426_1; replace hx426_2 := pw_cell_below HB.out hx426_2; replace hx426_3 := pw_cell_below HB.out hx426_3; replace hx426_4 := pw_cell_below HB.out hx426_4; replace p426 := eq_true p426; replace q426 := eq_true q426) | ((with_reducible refine gate_builtin (b := .append) (xs := #[.tmp 45, .tmp 46]) rfl ?_); at_builtin; refine Kd.R_append (Kd.int .u8) (w0 := w) w.heap.size rfl (.tmp 45) (.tmp 46) 22 5 (.int .u8 0) 1 rfl Tryd.underlying22 info5 rfl (by decide) (by omega) v424 y423 10 [.int .u8 10] (fun k_ => some k_ ≠ (.slice Ao18 t419.length co18 : Value).ownBlock) (fun _ => False) rfl rfl ?aP (fun _ hk => hk.elim) ?aF ?aO ?aB ?aS ?aL ?_; (case aP => exact rfl); (case aB => exact (bAt HB.out)); (case aF => exact (fun k_ hk => Kd.fresh' (Kd.R_lt (RAt HO422.out)) k_ hk)); (case aO => exact (RAt HO425.out)); (case aS => exact (below_size (bAt HB.out))); (case aL => have := LMc12.out; omega); intro v428 w19 ho hb hg hat; rw [← Ny427.out] at ho; replace HO417 := Aside0.mk (Kd.V_afterv (ok := (fun k_ => some k_ ≠ (.slice Ao18 t419.length co18 : Value).ownBlock)) (VAt HO417.out) hg hat); replace HO422 := Aside0.mk (Kd.R_after (ok := (fun _ => True)) (RAt HO422.out) hg hat); replace HB := Aside0.mk (hb); have HO429 := Aside0.mk (ho); clear HO425; clear ho hb hg hat))
           go_roundg k1
           case measure => have := HK1.out; omega
           case rel => exact ⟨(y427), (wrap64 (x5_1 + 1)), sR, H', ⟨by have := HK1.out; omega⟩, ⟨RAt (Kd.R_mono HO429.out (fun _ hk => trivial))⟩, ⟨bAt HB.out⟩⟩
          ·exact nB H c12
         ·rw [if_neg c11] at H
          obtain ⟨c11b0, c11b1⟩ := neB c11
          by_cases c20 : y423.length < 140737488355328
          ·rw [if_pos c20] at H
           have LMc20 := Aside0.mk c20
           clear c20
           obtain ⟨y430, hy430⟩ : ∃ y_ : List Int, y_ = (y423 ++ [32]) := ⟨_, rfl⟩
           replace H : (tmesisref07_Join.l0 k1 l0 y430 (wrap64 (x5_1 + 1))) = some (r1, r2) := by first | (rw [hy430]; with_reducible exact H) | (have H2_ := (Option.bind_some _ _).symm.trans H; rw [hy430]; with_reducible exact H2_) | (have H2_ := (Option.bind_some _ _).symm.trans H; with_reducible exact H2_) | with_reducible exact H | (rw [hy430]; exact H) | exact H
           have Ny430 := Aside0.mk hy430
           clear hy430
           have H' := Aside0.mk H
           clear H
           have p414 : 0 ≤ (x5_1 : Int) := dt
           have q414 : x5_1 < (l0.length : Int) := dt
           obtain ⟨ad414, e414, hx414_0, hx414_1, hx414_2, hx414_3, hx414_4⟩ := at_T34 HR0.out x5_1 p414 q414
           cases e414
           replace hx414_0 := pw_cell_below HB.out hx414_0
           replace hx414_1 := pw_cell_below HB.out hx414_1
           replace hx414_2 := pw_cell_below HB.out hx414_2
           replace hx414_3 := pw_cell_below HB.out hx414_3
           replace hx414_4 := pw_cell_below HB.out hx414_4
           replace p414 := eq_true p414
           replace q414 := eq_true q414
           go_wp2_with (first | ((with_reducible refine gate_dst (N := 21) rfl ?_); refine V_bytes _ 5 rfl (N := 21) rfl rfl (s := ((rd_T34 l0 x5_1).f3)) rfl Tryd.underlying9 Tryd.underlying22 Tryd.underlying5 dt (Below.refl _ _) (Nat.le_refl _) ?_; intro v416 w21 ho22 hb hg_ hnew_; clear hg_ hnew_; (first | rw [← Ny415.out] at ho22 | (simp only [Int.reduceToNat] at ho22; rw [← Ny415.out] at ho22)); have HO417 := Aside0.mk (Kd.V_lower (Kd.V_mono (ok' := fun k_ => some k_ ≠ (u4 : Value).ownBlock) ho22 (fun k_ hk_ => (Kd.fresh' (Kd.R_lt (RAt HO_4.out)) k_ hk_))) (below_size (bAt HB.out))); replace HO_4 := Aside0.mk (Kd.R_below (RAt HO_4.out) hb); replace HB := Aside0.mk (below_step (bAt HB.out) hb); clear hb ho22; have p418 : 0 ≤ (x5_1 : Int) := dt; have q418 : x5_1 < (l0.length : Int) := dt; obtain ⟨ad418, e418, hx418_0, hx418_1, hx418_2, hx418_3, hx418_4⟩ := at_T34 HR0.out x5_1 p418 q418; obtain rfl : ad414 = ad418 := (by injection e418); replace hx418_0 := pw_cell_below HB.out hx418_0; replace hx418_1 := pw_cell_below HB.out hx418_1; replace hx418_2 := pw_cell_below HB.out hx418_2; replace hx418_3 := pw_cell_below HB.out hx418_3; replace hx418_4 := pw_cell_below HB.out hx418_4; replace p418 := eq_true p418; replace q418 := eq_true q418; obtain ⟨Ao23, co23, eo23⟩ := Kd.V_slice HO417.out; subst eo23) | ((with_reducible refine gate_callee (f := 21) rfl ?_); refine gL (some 30) Tryd.func21 #[.slice Ao23 y415.length co23] rfl gA ?_; (with_reducible refine (tmesisref04_Put.calls k1 _ _ y415 t419 t420 _ ?side1 ?side2 A8.out).mono ?_); (case side1 => exact CAt ((Kd.V_reads' HO417.out).2.2)); (case side2 => exact (Kd.V_reads' HO417.out).2.1); rintro e w24 ⟨v421, rfl, ho0, hb⟩; refine ⟨_, rfl, ?_⟩; replace HO417 := Aside0.mk (Kd.V_elder' (VAt HO417.out) (Kd.R_base ho0) hb); have HO422 := Aside0.mk (Kd.R_lower (Kd.R_new' ho0 (Kd.R_lt (RAt HO_4.out))) (below_size (bAt HB.out))); replace HO_4 := Aside0.mk (Kd.R_elder' (RAt HO_4.out) (Kd.R_base ho0) hb); replace HB := Aside0.mk (below_step (bAt HB.out) hb); (try clear hb); (try clear hb2); (try clear hk); (try clear hi); (try clear ho0); obtain ⟨Ao26, co26, eo26⟩ := Kd.R_slice HO422.out; subst eo26) | ((with_reducible refine gate_builtin (b := .append) (xs := #[.tmp 36, .tmp 37]) rfl ?_); at_builtin; refine Kd.R_append_rows (Kd.int .u8) (w0 := w) w.heap.size rfl (.tmp 36) (.tmp 37) 22 5 (.int .u8 0) 1 rfl Tryd.underlying22 info5 rfl (by decide) (by omega) u4 x4_1 t419 _ _ _ (fun k_ => some k_ ≠ (.slice Ao26 t419.length co26 : Value).ownBlock) (fun _ => False) rfl rfl ?aO ?aR (fun _ _ h => h) (fun _ h => h.elim) ?aF ?aB ?aS ?aL ?_; (case aR => repeat (first | exact (Kd.R_reads' HO422.out).2.2 | (with_reducible refine Kd.C_alloc ?_ _) | (with_reducible refine Kd.C_drewN ?_ _) | (with_reducible refine Kd.C_drew ?_))); (case aB => exact (bAt HB.out)); (case aF => exact (fun k_ hk => Kd.fresh' (Kd.R_lt (RAt HO422.out)) k_ hk)); (case aO => exact (RAt (Kd.R_mono HO_4.out (fun _ hk => hk.2)))); (case aS => exact (below_size (bAt HB.out))); (case aL => have := LMc10.out; omega); intro v424 w25 ho hb hg hat; rw [← Ny423.out] at ho; replace HO417 := Aside0.mk (Kd.V_afterv (ok := (fun k_ => some k_ ≠ (.slice Ao26 t419.length co26 : Value).ownBlock)) (VAt (Kd.V_mono HO417.out (fun _ hk => ⟨hk.2, hk.1⟩))) hg hat); replace HO422 := Aside0.mk (Kd.R_after (ok := (fun _ => True)) (RAt HO422.out) hg hat); replace HB := Aside0.mk (hb); have HO425 := Aside0.mk (ho); clear HO_4; clear ho hb hg hat; have p426 : 0 ≤ (x5_1 : Int) := dt; have q426 : x5_1 < (l0.length : Int) := dt; obtain ⟨ad426, e426, hx426_0, hx426_1, hx426_2, hx426_3, hx426_4⟩ := at_T34 HR0.out x5_1 p426 q426; obtain rfl : ad414 = ad426 := (by injection e426); replace hx426_0 := pw_cell_below HB.out hx426_0; replace hx426_1 := pw_cell_below HB.out hx426_1; replace hx426_2 := pw_cell_below HB.out hx426_2; replace hx426_3 := pw_cell_below HB.out hx426_3; replace hx426_4 := pw_cell_below HB.out hx426_4; replace p426 := eq_true p426; replace q426 := eq_true q426) | ((with_reducible refine gate_builtin (b := .append) (xs := #[.tmp 48, .tmp 49]) rfl ?_); at_builtin; refine Kd.R_append (Kd.int .u8) (w0 := w) w.heap.size rfl (.tmp 48) (.tmp 49) 22 5 (.int .u8 0) 1 rfl Tryd.underlying22 info5 rfl (by decide) (by omega) v424 y423 32 [.int .u8 32] (fun k_ => some k_ ≠ (.slice Ao26 t419.length co26 : Value).ownBlock) (fun _ => False) rfl rfl ?aP (fun _ hk => hk.elim) ?aF ?aO ?aB ?aS ?aL ?_; (case aP => exact rfl); (case aB => exact (bAt HB.out)); (case aF => exact (fun k_ hk => Kd.fresh' (Kd.R_lt (RAt HO422.out)) k_ hk)); (case aO => exact (RAt HO425.out)); (case aS => exact (below_size (bAt HB.out))); (case aL => have := LMc20.out; omega); intro v431 w27 ho hb hg hat; rw [← Ny430.out] at ho; replace HO417 := Aside0.mk (Kd.V_afterv (ok := (fun k_ => some k_ ≠ (.slice Ao26 t419.length co26 : Value).ownBlock)) (VAt HO417.out) hg hat); replace HO422 := Aside0.mk (Kd.R_after (ok := (fun _ => True)) (RAt HO422.out) hg hat); replace HB := Aside0.mk (hb); have HO432 := Aside0.mk (ho); clear HO425; clear ho hb hg hat))
           go_roundg k1
           case measure => have := HK1.out; omega
           case rel => exact ⟨(y430), (wrap64 (x5_1 + 1)), sR, H', ⟨by have := HK1.out; omega⟩, ⟨RAt (Kd.R_mono HO432.out (fun _ hk => trivial))⟩, ⟨bAt HB.out⟩⟩
          ·exact nB H c20
        ·exact nB H c10
       ·rw [if_neg c9] at H
        obtain ⟨c9b0, c9b1⟩ := neB c9
        simp only [Option.some.injEq, Prod.mk.injEq] at H
        obtain ⟨rfl, rfl⟩ := H
        have p414 : 0 ≤ (x5_1 : Int) := dt
        have q414 : x5_1 < (l0.length : Int) := dt
        obtain ⟨ad414, e414, hx414_0, hx414_1, hx414_2, hx414_3, hx414_4⟩ := at_T34 HR0.out x5_1 p414 q414
        cases e414
        replace hx414_0 := pw_cell_below HB.out hx414_0
        replace hx414_1 := pw_cell_below HB.out hx414_1
        replace hx414_2 := pw_cell_below HB.out hx414_2
        replace hx414_3 := pw_cell_below HB.out hx414_3
        replace hx414_4 := pw_cell_below HB.out hx414_4
        replace p414 := eq_true p414
        replace q414 := eq_true q414
        go_wp2_with (first | ((with_reducible refine gate_dst (N := 21) rfl ?_); refine V_bytes _ 5 rfl (N := 21) rfl rfl (s := ((rd_T34 l0 x5_1).f3)) rfl Tryd.underlying9 Tryd.underlying22 Tryd.underlying5 dt (Below.refl _ _) (Nat.le_refl _) ?_; intro v416 w28 ho29 hb hg_ hnew_; clear hg_ hnew_; (first | rw [← Ny415.out] at ho29 | (simp only [Int.reduceToNat] at ho29; rw [← Ny415.out] at ho29)); have HO417 := Aside0.mk (Kd.V_lower (Kd.V_mono (ok' := fun k_ => some k_ ≠ (u4 : Value).ownBlock) ho29 (fun k_ hk_ => (Kd.fresh' (Kd.R_lt (RAt HO_4.out)) k_ hk_))) (below_size (bAt HB.out))); replace HO_4 := Aside0.mk (Kd.R_below (RAt HO_4.out) hb); replace HB := Aside0.mk (below_step (bAt HB.out) hb); clear hb ho29; have p418 : 0 ≤ (x5_1 : Int) := dt; have q418 : x5_1 < (l0.length : Int) := dt; obtain ⟨ad418, e418, hx418_0, hx418_1, hx418_2, hx418_3, hx418_4⟩ := at_T34 HR0.out x5_1 p418 q418; obtain rfl : ad414 = ad418 := (by injection e418); replace hx418_0 := pw_cell_below HB.out hx418_0; replace hx418_1 := pw_cell_below HB.out hx418_1; replace hx418_2 := pw_cell_below HB.out hx418_2; replace hx418_3 := pw_cell_below HB.out hx418_3; replace hx418_4 := pw_cell_below HB.out hx418_4; replace p418 := eq_true p418; replace q418 := eq_true q418; obtain ⟨Ao30, co30, eo30⟩ := Kd.V_slice HO417.out; subst eo30) | ((with_reducible refine gate_callee (f := 21) rfl ?_); refine gL (some 30) Tryd.func21 #[.slice Ao30 y415.length co30] rfl gA ?_; (with_reducible refine (tmesisref04_Put.calls k1 _ _ y415 t419 t420 _ ?side1 ?side2 A8.out).mono ?_); (case side1 => exact CAt ((Kd.V_reads' HO417.out).2.2)); (case side2 => exact (Kd.V_reads' HO417.out).2.1); rintro e w31 ⟨v421, rfl, ho0, hb⟩; refine ⟨_, rfl, ?_⟩; replace HO417 := Aside0.mk (Kd.V_elder' (VAt HO417.out) (Kd.R_base ho0) hb); have HO422 := Aside0.mk (Kd.R_lower (Kd.R_new' ho0 (Kd.R_lt (RAt HO_4.out))) (below_size (bAt HB.out))); replace HO_4 := Aside0.mk (Kd.R_elder' (RAt HO_4.out) (Kd.R_base ho0) hb); replace HB := Aside0.mk (below_step (bAt HB.out) hb); (try clear hb); (try clear hb2); (try clear hk); (try clear hi); (try clear ho0)))
        go_ret2
        exact ⟨_, eR, by first | exact Kd.R_nil _ _ _ _ _ | exact Kd.N_nil _ _ _ _ _ | exact Kd.V_nil _ _ _ _ _ | exact Kd.Q_nil _ _ _ _ _ | exact Kd.S_nil _ _ _ _ _, bAt HB.out⟩
      ·rw [if_neg c7] at H
       obtain ⟨c7b0, c7b1⟩ := neB c7
       by_cases c32 : x4_1.length + y415.length < 140737488355328
       ·rw [if_pos c32] at H
        have LMc32 := Aside0.mk c32
        clear c32
        obtain ⟨y433, hy433⟩ : ∃ y_ : List Int, y_ = (x4_1 ++ y415) := ⟨_, rfl⟩
        replace H : (if ((rd_T34 l0 x5_1).f0) = 7 then (if y433.length < 140737488355328 then (tmesisref07_Join.l0 k1 l0 (y433 ++ [10]) (wrap64 (x5_1 + 1))) else (none)) else (if y433.length < 140737488355328 then (tmesisref07_Join.l0 k1 l0 (y433 ++ [32]) (wrap64 (x5_1 + 1))) else (none))) = some (r1, r2) := by first | (rw [hy433]; with_reducible exact H) | (have H2_ := (Option.bind_some _ _).symm.trans H; rw [hy433]; with_reducible exact H2_) | (have H2_ := (Option.bind_some _ _).symm.trans H; with_reducible exact H2_) | with_reducible exact H | (rw [hy433]; exact H) | exact H
        have Ny433 := Aside0.mk hy433
        clear hy433
        by_cases c33 : ((rd_T34 l0 x5_1).f0) = 7
        ·rw [if_pos c33] at H
         obtain ⟨c33b0, c33b1⟩ := eqB c33
         clear c33
         by_cases c34 : y433.length < 140737488355328
         ·rw [if_pos c34] at H
          have LMc34 := Aside0.mk c34
          clear c34
          obtain ⟨y437, hy437⟩ : ∃ y_ : List Int, y_ = (y433 ++ [10]) := ⟨_, rfl⟩
          replace H : (tmesisref07_Join.l0 k1 l0 y437 (wrap64 (x5_1 + 1))) = some (r1, r2) := by first | (rw [hy437]; with_reducible exact H) | (have H2_ := (Option.bind_some _ _).symm.trans H; rw [hy437]; with_reducible exact H2_) | (have H2_ := (Option.bind_some _ _).symm.trans H; with_reducible exact H2_) | with_reducible exact H | (rw [hy437]; exact H) | exact H
          have Ny437 := Aside0.mk hy437
          clear hy437
          have H' := Aside0.mk H
          clear H
          have p414 : 0 ≤ (x5_1 : Int) := dt
          have q414 : x5_1 < (l0.length : Int) := dt
          obtain ⟨ad414, e414, hx414_0, hx414_1, hx414_2, hx414_3, hx414_4⟩ := at_T34 HR0.out x5_1 p414 q414
          cases e414
          replace hx414_0 := pw_cell_below HB.out hx414_0
          replace hx414_1 := pw_cell_below HB.out hx414_1
          replace hx414_2 := pw_cell_below HB.out hx414_2
          replace hx414_3 := pw_cell_below HB.out hx414_3
          replace hx414_4 := pw_cell_below HB.out hx414_4
          replace p414 := eq_true p414
          replace q414 := eq_true q414
          go_wp2_with (first | ((with_reducible refine gate_dst (N := 21) rfl ?_); refine V_bytes _ 5 rfl (N := 21) rfl rfl (s := ((rd_T34 l0 x5_1).f3)) rfl Tryd.underlying9 Tryd.underlying22 Tryd.underlying5 dt (Below.refl _ _) (Nat.le_refl _) ?_; intro v416 w35 ho36 hb hg_ hnew_; clear hg_ hnew_; (first | rw [← Ny415.out] at ho36 | (simp only [Int.reduceToNat] at ho36; rw [← Ny415.out] at ho36)); have HO417 := Aside0.mk (Kd.V_lower (Kd.V_mono (ok' := fun k_ => some k_ ≠ (u4 : Value).ownBlock) ho36 (fun k_ hk_ => (Kd.fresh' (Kd.R_lt (RAt HO_4.out)) k_ hk_))) (below_size (bAt HB.out))); replace HO_4 := Aside0.mk (Kd.R_below (RAt HO_4.out) hb); replace HB := Aside0.mk (below_step (bAt HB.out) hb); clear hb ho36; have p418 : 0 ≤ (x5_1 : Int) := dt; have q418 : x5_1 < (l0.length : Int) := dt; obtain ⟨ad418, e418, hx418_0, hx418_1, hx418_2, hx418_3, hx418_4⟩ := at_T34 HR0.out x5_1 p418 q418; obtain rfl : ad414 = ad418 := (by injection e418); replace hx418_0 := pw_cell_below HB.out hx418_0; replace hx418_1 := pw_cell_below HB.out hx418_1; replace hx418_2 := pw_cell_below HB.out hx418_2; replace hx418_3 := pw_cell_below HB.out hx418_3; replace hx418_4 := pw_cell_below HB.out hx418_4; replace p418 := eq_true p418; replace q418 := eq_true q418; obtain ⟨Ao38, co38, eo38⟩ := Kd.V_slice HO417.out; subst eo38) | ((with_reducible refine gate_builtin (b := .append) (xs := #[.tmp 36, .tmp 37]) rfl ?_); at_builtin; refine Kd.R_append_rows (Kd.int .u8) (w0 := w) w.heap.size rfl (.tmp 36) (.tmp 37) 22 5 (.int .u8 0) 1 rfl Tryd.underlying22 info5 rfl (by decide) (by omega) u4 x4_1 y415 _ _ _ (fun _ => True) (fun _ => False) rfl rfl ?aO ?aR (fun _ _ h => h) (fun _ h => h.elim) ?aF ?aB ?aS ?aL ?_; (case aR => repeat (first | exact (Kd.V_reads' HO417.out).2.2 | (with_reducible refine Kd.C_alloc ?_ _) | (with_reducible refine Kd.C_drewN ?_ _) | (with_reducible refine Kd.C_drew ?_))); (case aB => exact (bAt HB.out)); (case aF => exact (fun _ _ => trivial)); (case aO => exact (RAt HO_4.out)); (case aS => exact (below_size (bAt HB.out))); (case aL => have := LMc32.out; omega); intro v434 w37 ho hb hg hat; rw [← Ny433.out] at ho; replace HO417 := Aside0.mk (Kd.V_afterv (ok := (fun _ => True)) (VAt (Kd.V_mono HO417.out (fun _ hk => ⟨trivial, hk⟩))) hg hat); replace HB := Aside0.mk (hb); have HO435 := Aside0.mk (ho); clear HO_4; clear ho hb hg hat; have p436 : 0 ≤ (x5_1 : Int) := dt; have q436 : x5_1 < (l0.length : Int) := dt; obtain ⟨ad436, e436, hx436_0, hx436_1, hx436_2, hx436_3, hx436_4⟩ := at_T34 HR0.out x5_1 p436 q436; obtain rfl : ad414 = ad436 := (by injection e436); replace hx436_0 := pw_cell_below HB.out hx436_0; replace hx436_1 := pw_cell_below HB.out hx436_1; replace hx436_2 := pw_cell_below HB.out hx436_2; replace hx436_3 := pw_cell_below HB.out hx436_3; replace hx436_4 := pw_cell_below HB.out hx436_4; replace p436 := eq_true p436; replace q436 := eq_true q436) | ((with_reducible refine gate_builtin (b := .append) (xs := #[.tmp 45, .tmp 46]) rfl ?_); at_builtin; refine Kd.R_append (Kd.int .u8) (w0 := w) w.heap.size rfl (.tmp 45) (.tmp 46) 22 5 (.int .u8 0) 1 rfl Tryd.underlying22 info5 rfl (by decide) (by omega) v434 y433 10 [.int .u8 10] (fun _ => True) (fun _ => False) rfl rfl ?aP (fun _ hk => hk.elim) ?aF ?aO ?aB ?aS ?aL ?_; (case aP => exact rfl); (case aB => exact (bAt HB.out)); (case aF => exact (fun _ _ => trivial)); (case aO => exact (RAt HO435.out)); (case aS => exact (below_size (bAt HB.out))); (case aL => have := LMc34.out; omega); intro v438 w39 ho hb hg hat; rw [← Ny437.out] at ho; replace HO417 := Aside0.mk (Kd.V_afterv (ok := (fun _ => True)) (VAt HO417.out) hg hat); replace HB := Aside0.mk (hb); have HO439 := Aside0.mk (ho); clear HO435; clear ho hb hg hat))
          go_roundg k1
          case measure => have := HK1.out; omega
          case rel => exact ⟨(y437), (wrap64 (x5_1 + 1)), sR, H', ⟨by have := HK1.out; omega⟩, ⟨RAt HO439.out⟩, ⟨bAt HB.out⟩⟩
         ·exact nB H c34
        ·rw [if_neg c33] at H
         obtain ⟨c33b0, c33b1⟩ := neB c33
         by_cases c40 : y433.length < 140737488355328
         ·rw [if_pos c40] at H
          have LMc40 := Aside0.mk c40
          clear c40
          obtain ⟨y440, hy440⟩ : ∃ y_ : List Int, y_ = (y433 ++ [32]) := ⟨_, rfl⟩
          replace H : (tmesisref07_Join.l0 k1 l0 y440 (wrap64 (x5_1 + 1))) = some (r1, r2) := by first | (rw [hy440]; with_reducible exact H) | (have H2_ := (Option.bind_some _ _).symm.trans H; rw [hy440]; with_reducible exact H2_) | (have H2_ := (Option.bind_some _ _).symm.trans H; with_reducible exact H2_) | with_reducible exact H | (rw [hy440]; exact H) | exact H
          have Ny440 := Aside0.mk hy440
          clear hy440
          have H' := Aside0.mk H
          clear H
          have p414 : 0 ≤ (x5_1 : Int) := dt
          have q414 : x5_1 < (l0.length : Int) := dt
          obtain ⟨ad414, e414, hx414_0, hx414_1, hx414_2, hx414_3, hx414_4⟩ := at_T34 HR0.out x5_1 p414 q414
          cases e414
          replace hx414_0 := pw_cell_below HB.out hx414_0
          replace hx414_1 := pw_cell_below HB.out hx414_1
          replace hx414_2 := pw_cell_below HB.out hx414_2
          replace hx414_3 := pw_cell_below HB.out hx414_3
          replace hx414_4 := pw_cell_below HB.out hx414_4
          replace p414 := eq_true p414
          replace q414 := eq_true q414
          go_wp2_with (first | ((with_reducible refine gate_dst (N := 21) rfl ?_); refine V_bytes _ 5 rfl (N := 21) rfl rfl (s := ((rd_T34 l0 x5_1).f3)) rfl Tryd.underlying9 Tryd.underlying22 Tryd.underlying5 dt (Below.refl _ _) (Nat.le_refl _) ?_; intro v416 w41 ho42 hb hg_ hnew_; clear hg_ hnew_; (first | rw [← Ny415.out] at ho42 | (simp only [Int.reduceToNat] at ho42; rw [← Ny415.out] at ho42)); have HO417 := Aside0.mk (Kd.V_lower (Kd.V_mono (ok' := fun k_ => some k_ ≠ (u4 : Value).ownBlock) ho42 (fun k_ hk_ => (Kd.fresh' (Kd.R_lt (RAt HO_4.out)) k_ hk_))) (below_size (bAt HB.out))); replace HO_4 := Aside0.mk (Kd.R_below (RAt HO_4.out) hb); replace HB := Aside0.mk (below_step (bAt HB.out) hb); clear hb ho42; have p418 : 0 ≤ (x5_1 : Int) := dt; have q418 : x5_1 < (l0.length : Int) := dt; obtain ⟨ad418, e418, hx418_0, hx418_1, hx418_2, hx418_3, hx418_4⟩ := at_T34 HR0.out x5_1 p418 q418; obtain rfl : ad414 = ad418 := (by injection e418); replace hx418_0 := pw_cell_below HB.out hx418_0; replace hx418_1 := pw_cell_below HB.out hx418_1; replace hx418_2 := pw_cell_below HB.out hx418_2; replace hx418_3 := pw_cell_below HB.out hx418_3; replace hx418_4 := pw_cell_below HB.out hx418_4; replace p418 := eq_true p418; replace q418 := eq_true q418; obtain ⟨Ao44, co44, eo44⟩ := Kd.V_slice HO417.out; subst eo44) | ((with_reducible refine gate_builtin (b := .append) (xs := #[.tmp 36, .tmp 37]) rfl ?_); at_builtin; refine Kd.R_append_rows (Kd.int .u8) (w0 := w) w.heap.size rfl (.tmp 36) (.tmp 37) 22 5 (.int .u8 0) 1 rfl Tryd.underlying22 info5 rfl (by decide) (by omega) u4 x4_1 y415 _ _ _ (fun _ => True) (fun _ => False) rfl rfl ?aO ?aR (fun _ _ h => h) (fun _ h => h.elim) ?aF ?aB ?aS ?aL ?_; (case aR => repeat (first | exact (Kd.V_reads' HO417.out).2.2 | (with_reducible refine Kd.C_alloc ?_ _) | (with_reducible refine Kd.C_drewN ?_ _) | (with_reducible refine Kd.C_drew ?_))); (case aB => exact (bAt HB.out)); (case aF => exact (fun _ _ => trivial)); (case aO => exact (RAt HO_4.out)); (case aS => exact (below_size (bAt HB.out))); (case aL => have := LMc32.out; omega); intro v434 w43 ho hb hg hat; rw [← Ny433.out] at ho; replace HO417 := Aside0.mk (Kd.V_afterv (ok := (fun _ => True)) (VAt (Kd.V_mono HO417.out (fun _ hk => ⟨trivial, hk⟩))) hg hat); replace HB := Aside0.mk (hb); have HO435 := Aside0.mk (ho); clear HO_4; clear ho hb hg hat; have p436 : 0 ≤ (x5_1 : Int) := dt; have q436 : x5_1 < (l0.length : Int) := dt; obtain ⟨ad436, e436, hx436_0, hx436_1, hx436_2, hx436_3, hx436_4⟩ := at_T34 HR0.out x5_1 p436 q436; obtain rfl : ad414 = ad436 := (by injection e436); replace hx436_0 := pw_cell_below HB.out hx436_0; replace hx436_1 := pw_cell_below HB.out hx436_1; replace hx436_2 := pw_cell_below HB.out hx436_2; replace hx436_3 := pw_cell_below HB.out hx436_3; replace hx436_4 := pw_cell_below HB.out hx436_4; replace p436 := eq_true p436; replace q436 := eq_true q436) | ((with_reducible refine gate_builtin (b := .append) (xs := #[.tmp 48, .tmp 49]) rfl ?_); at_builtin; refine Kd.R_append (Kd.int .u8) (w0 := w) w.heap.size rfl (.tmp 48) (.tmp 49) 22 5 (.int .u8 0) 1 rfl Tryd.underlying22 info5 rfl (by decide) (by omega) v434 y433 32 [.int .u8 32] (fun _ => True) (fun _ => False) rfl rfl ?aP (fun _ hk => hk.elim) ?aF ?aO ?aB ?aS ?aL ?_; (case aP => exact rfl); (case aB => exact (bAt HB.out)); (case aF => exact (fun _ _ => trivial)); (case aO => exact (RAt HO435.out)); (case aS => exact (below_size (bAt HB.out))); (case aL => have := LMc40.out; omega); intro v441 w45 ho hb hg hat; rw [← Ny440.out] at ho; replace HO417 := Aside0.mk (Kd.V_afterv (ok := (fun _ => True)) (VAt HO417.out) hg hat); replace HB := Aside0.mk (hb); have HO442 := Aside0.mk (ho); clear HO435; clear ho hb hg hat))
          go_roundg k1
          case measure => have := HK1.out; omega
          case rel => exact ⟨(y440), (wrap64 (x5_1 + 1)), sR, H', ⟨by have := HK1.out; omega⟩, ⟨RAt HO442.out⟩, ⟨bAt HB.out⟩⟩
         ·exact nB H c40
       ·exact nB H c32
     ·exact nB H c6
    ·exact nB H c5
   ·rw [if_neg c4] at H
    have c4b0 := decide_eq_false c4
    clear c4
    obtain ⟨t443, A46, H⟩ := bE H
    obtain ⟨t446, A47, H⟩ := bE H
    by_cases c48 : t446 = true
    ·subst c48
     replace H := tP H
     simp only [Option.some.injEq, Prod.mk.injEq] at H
     obtain ⟨rfl, rfl⟩ := H
     obtain ⟨Ao49, co49, eo49⟩ := Kd.R_slice HO_4.out
     subst eo49
     go_wp2_with (first | ((with_reducible refine gate_callee (f := 16) rfl ?_); refine gL (some 52) Tryd.func16 #[.slice Ao49 x4_1.length co49] rfl gA ?_; (with_reducible refine (tmesisref07_All.calls k1 _ _ x4_1 t443 _ ?side1 ?side2 A46.out).mono ?_); (case side1 => exact CAt ((Kd.R_reads' HO_4.out).2.2)); (case side2 => exact (Kd.R_reads' HO_4.out).2.1); rintro e w50 ⟨v444, rfl, ho0, hb⟩; refine ⟨_, rfl, ?_⟩; replace HO_4 := Aside0.mk (Kd.R_below (RAt HO_4.out) hb); have HO445 := Aside0.mk (Kd.R_lower ho0 (below_size (bAt HB.out))); replace HB := Aside0.mk (below_step (bAt HB.out) hb); (try clear hb); (try clear hb2); (try clear hk); (try clear hi); (try clear ho0); obtain ⟨Ao51, co51, eo51⟩ := Kd.R_slice HO445.out; subst eo51) | ((with_reducible refine gate_callee (f := 17) rfl ?_); refine gL (some 54) Tryd.func17 #[.slice Ao51 t443.length co51, .slice A0 l0.length c0] rfl gA ?_; (with_reducible refine (tmesisref07_Alike.calls k1 _ _ t443 _ _ l0 true _ ?side1 ?side2 ?side3 ?side4 A47.out).mono ?_); (case side1 => exact CAt ((Kd.R_reads' HO445.out).2.2)); (case side2 => exact (Kd.R_reads' HO445.out).2.1); (case side3 => exact CAt (Kd.C_below HR0.out HB.out)); (case side4 => exact HC0.out); rintro e w' ⟨rfl, ⟨nd, rfl⟩⟩; refine ⟨_, rfl, ?_⟩))
     go_ret2
     exact ⟨_, eR, RAt HO_4.out, bAt HB.out⟩
    ·replace c48 := Bool.eq_false_iff.mpr c48
     subst c48
     replace H := fP H
     simp only [Option.some.injEq, Prod.mk.injEq] at H
     obtain ⟨rfl, rfl⟩ := H
     obtain ⟨Ao52, co52, eo52⟩ := Kd.R_slice HO_4.out
     subst eo52
     go_wp2_with (first | ((with_reducible refine gate_callee (f := 16) rfl ?_); refine gL (some 52) Tryd.func16 #[.slice Ao52 x4_1.length co52] rfl gA ?_; (with_reducible refine (tmesisref07_All.calls k1 _ _ x4_1 t443 _ ?side1 ?side2 A46.out).mono ?_); (case side1 => exact CAt ((Kd.R_reads' HO_4.out).2.2)); (case side2 => exact (Kd.R_reads' HO_4.out).2.1); rintro e w53 ⟨v444, rfl, ho0, hb⟩; refine ⟨_, rfl, ?_⟩; replace HO_4 := Aside0.mk (Kd.R_below (RAt HO_4.out) hb); have HO445 := Aside0.mk (Kd.R_lower ho0 (below_size (bAt HB.out))); replace HB := Aside0.mk (below_step (bAt HB.out) hb); (try clear hb); (try clear hb2); (try clear hk); (try clear hi); (try clear ho0); obtain ⟨Ao54, co54, eo54⟩ := Kd.R_slice HO445.out; subst eo54) | ((with_reducible refine gate_callee (f := 17) rfl ?_); refine gL (some 54) Tryd.func17 #[.slice Ao54 t443.length co54, .slice A0 l0.length c0] rfl gA ?_; (with_reducible refine (tmesisref07_Alike.calls k1 _ _ t443 _ _ l0 false _ ?side1 ?side2 ?side3 ?side4 A47.out).mono ?_); (case side1 => exact CAt ((Kd.R_reads' HO445.out).2.2)); (case side2 => exact (Kd.R_reads' HO445.out).2.1); (case side3 => exact CAt (Kd.C_below HR0.out HB.out)); (case side4 => exact HC0.out); rintro e w' ⟨rfl, ⟨nd, rfl⟩⟩; refine ⟨_, rfl, ?_⟩))
     go_ret2
     exact ⟨_, eR, by first | exact Kd.R_nil _ _ _ _ _ | exact Kd.N_nil _ _ _ _ _ | exact Kd.V_nil _ _ _ _ _ | exact Kd.Q_nil _ _ _ _ _ | exact Kd.S_nil _ _ _ _ _, bAt HB.out⟩
def tmesisref07_Same.l0 : Nat → List (S34) → List (S34) → Int → Option (Bool)
 | 0, _, _, _ => none
 | k + 1, x0, x1, x5 => if x5 < (x0.length : Int) then (if 0 ≤ x5 then (if x5 < (x1.length : Int) then (if (!(((rd_T34 x0 x5).f0) == ((rd_T34 x1 x5).f0)) || (!(((rd_T34 x0 x5).f1) == ((rd_T34 x1 x5).f1)) || (!(((rd_T34 x0 x5).f2) == ((rd_T34 x1 x5).f2)) || (!((((rd_T34 x0 x5).f3).toList) == (((rd_T34 x1 x5).f3).toList)) || (!(((rd_T34 x0 x5).f4) == ((rd_T34 x1 x5).f4))))))) = true then (some false) else (tmesisref07_Same.l0 k x0 x1 (wrap64 (x5 + 1)))) else (none)) else (none)) else (some true)
def tmesisref07_Same.f (k : Nat) (l0 : List (S34)) (l1 : List (S34)) : Option (Bool) := if (l0.length : Int) = (l1.length : Int) then (tmesisref07_Same.l0 k l0 l1 0) else (some false)
theorem tmesisref07_Same.mono_l : ∀ k, (∀ y0 y1 y2, LeO (tmesisref07_Same.l0 k y0 y1 y2) (tmesisref07_Same.l0 (k + 1) y0 y1 y2))
 | 0 => fun _ _ _ r h => by simp [tmesisref07_Same.l0] at h
 | k + 1 => by
  have ih0 := tmesisref07_Same.mono_l k
  ·intro y0 y1 y2
   unfold tmesisref07_Same.l0
   repeat' with_reducible first | exact ih0 _ _ _ | exact LeO.refl _ | exact LeO.none _ | refine LeO.ite ?_ ?_ | refine LeO.bind ?_ (fun _ => ?_)
theorem tmesisref07_Same.mono : ∀ a0 a1 k, LeO (tmesisref07_Same.f k a0 a1) (tmesisref07_Same.f (k + 1) a0 a1) := by
 intro a0 a1 k
 have ih0 := tmesisref07_Same.mono_l k
 unfold tmesisref07_Same.f
 repeat' with_reducible first | exact ih0 _ _ _ | exact LeO.refl _ | exact LeO.none _ | refine LeO.ite ?_ ?_ | refine LeO.bind ?_ (fun _ => ?_)
set_option maxHeartbeats 8000000 in
set_option maxRecDepth 100000 in
theorem tmesisref07_Same.calls (k : Nat) (A0 : Option Addr) (c0 : Nat) (l0 : List (S34)) (A1 : Option Addr) (c1 : Nat) (l1 : List (S34)) (r : Bool) (w : World) (hr0 : Kd.C k34 w A0 l0.length l0) (hc0 : l0.length ≤ c0) (hr1 : Kd.C k34 w A1 l1.length l1) (hc1 : l1.length ≤ c1) (h : tmesisref07_Same.f k l0 l1 = some r) :
  Calls Tryd.prog 13 #[.slice A0 l0.length c0, .slice A1 l1.length c1] w fun e w' => e = .returned (.bool r) ∧ Drawn0 w w' := by
 have hu34 := Tryd.underlying34
 have HR0 := Aside0.mk hr0
 have HC0 := Aside0.mk hc0
 clear hr0 hc0
 have HR1 := Aside0.mk hr1
 have HC1 := Aside0.mk hc1
 clear hr1 hc1
 have H : (if (l0.length : Int) = (l1.length : Int) then (tmesisref07_Same.l0 k l0 l1 0) else (some false)) = some r := h
 clear h
 by_cases c3 : (l0.length : Int) = (l1.length : Int)
 ·rw [if_pos c3] at H
  obtain ⟨c3b0, c3b1⟩ := eqB c3
  have c3b2 : (l0.length == l1.length) = true := by first | simpa using c3 | (simp at c3 ⊢; omega)
  clear c3
  have H' := Aside0.mk H
  clear H
  go_enter Tryd.func13, Tryd.ntmps13
  go_wp2
  repeat (go_quiet (fail); try go_wp2)
  go_loopg [5] k (fun kq v5 w' => ∃ (x5_1 : Int), v5 = .int .i64 x5_1 ∧ Aside0 (tmesisref07_Same.l0 kq l0 l1 x5_1 = some r) ∧ Aside0 (kq ≤ k) ∧ Drawn0 w w')
  case atStart => exact ⟨(0), sR, H', ⟨Nat.le_refl _⟩, by repeat (first | exact Drawn0.refl _ | apply Drawn0.step)⟩
  case round =>
   clear H'
   try clear c1
   try clear p2
   try clear c3
   try clear c3b0 c3b1
   try clear c3b2
   obtain ⟨x5_1, rfl, HA, HK1, ⟨m1, rfl⟩⟩ := hrel
   cases gk with
   | zero => exact absurd HA.out (by simp [tmesisref07_Same.l0])
   | succ k1 =>
    have H := HA.out
    clear HA
    simp only [tmesisref07_Same.l0] at H
    by_cases c4 : x5_1 < (l0.length : Int)
    ·rw [if_pos c4] at H
     have c4b0 := decide_eq_true c4
     clear c4
     by_cases c5 : 0 ≤ x5_1
     ·rw [if_pos c5] at H
      have c5b0 := decide_eq_true c5
      clear c5
      by_cases c6 : x5_1 < (l1.length : Int)
      ·rw [if_pos c6] at H
       have c6b0 := decide_eq_true c6
       clear c6
       by_cases c7 : (!(((rd_T34 l0 x5_1).f0) == ((rd_T34 l1 x5_1).f0)) || (!(((rd_T34 l0 x5_1).f1) == ((rd_T34 l1 x5_1).f1)) || (!(((rd_T34 l0 x5_1).f2) == ((rd_T34 l1 x5_1).f2)) || (!((((rd_T34 l0 x5_1).f3).toList) == (((rd_T34 l1 x5_1).f3).toList)) || (!(((rd_T34 l0 x5_1).f4) == ((rd_T34 l1 x5_1).f4))))))) = true
       ·rw [if_pos c7] at H
        have c7b0 : (!(((rd_T34 l0 x5_1).f0) == ((rd_T34 l1 x5_1).f0)) || (!(((rd_T34 l0 x5_1).f1) == ((rd_T34 l1 x5_1).f1)) || (!(((rd_T34 l0 x5_1).f2) == ((rd_T34 l1 x5_1).f2)) || (!((((rd_T34 l0 x5_1).f3).toList) == (((rd_T34 l1 x5_1).f3).toList)) || (!(((rd_T34 l0 x5_1).f4) == ((rd_T34 l1 x5_1).f4))))))) = true := c7
        clear c7
        obtain rfl := Option.some.inj H
        have p447 : 0 ≤ (x5_1 : Int) := dt
        have q447 : x5_1 < (l0.length : Int) := dt
        obtain ⟨ad447, e447, hx447_0, hx447_1, hx447_2, hx447_3, hx447_4⟩ := at_T34 HR0.out x5_1 p447 q447
        cases e447
        replace p447 := eq_true p447
        replace q447 := eq_true q447
        have p448 : 0 ≤ (x5_1 : Int) := dt
        have q448 : x5_1 < (l1.length : Int) := dt
        obtain ⟨ad448, e448, hx448_0, hx448_1, hx448_2, hx448_3, hx448_4⟩ := at_T34 HR1.out x5_1 p448 q448
        cases e448
        replace p448 := eq_true p448
        replace q448 := eq_true q448
        go_wp2
        repeat (go_quiet (fail); try go_wp2)
        go_ret
        exact ⟨by first | rfl | (simp; done) | (simp [*]; done), by repeat (first | exact Drawn0.refl _ | apply Drawn0.step)⟩
       ·rw [if_neg c7] at H
        have c7b0 : (!(((rd_T34 l0 x5_1).f0) == ((rd_T34 l1 x5_1).f0)) || (!(((rd_T34 l0 x5_1).f1) == ((rd_T34 l1 x5_1).f1)) || (!(((rd_T34 l0 x5_1).f2) == ((rd_T34 l1 x5_1).f2)) || (!((((rd_T34 l0 x5_1).f3).toList) == (((rd_T34 l1 x5_1).f3).toList)) || (!(((rd_T34 l0 x5_1).f4) == ((rd_T34 l1 x5_1).f4))))))) = false := by simpa using c7
        clear c7
        have H' := Aside0.mk H
        clear H
        have p447 : 0 ≤ (x5_1 : Int) := dt
        have q447 : x5_1 < (l0.length : Int) := dt
        obtain ⟨ad447, e447, hx447_0, hx447_1, hx447_2, hx447_3, hx447_4⟩ := at_T34 HR0.out x5_1 p447 q447
        cases e447
        replace p447 := eq_true p447
        replace q447 := eq_true q447
        have p448 : 0 ≤ (x5_1 : Int) := dt
        have q448 : x5_1 < (l1.length : Int) := dt
        obtain ⟨ad448, e448, hx448_0, hx448_1, hx448_2, hx448_3, hx448_4⟩ := at_T34 HR1.out x5_1 p448 q448
        cases e448
        replace p448 := eq_true p448
        replace q448 := eq_true q448
        go_wp2
        repeat (go_quiet (fail); try go_wp2)
        go_roundg k1
        case measure => have := HK1.out; omega
        case rel => exact ⟨(wrap64 (x5_1 + 1)), sR, H', ⟨by have := HK1.out; omega⟩, by repeat (first | exact Drawn0.refl _ | apply Drawn0.step)⟩
      ·exact nB H c6
     ·exact nB H c5
    ·rw [if_neg c4] at H
     have c4b0 := decide_eq_false c4
     clear c4
     obtain rfl := Option.some.inj H
     go_wp2
     repeat (go_quiet (fail); try go_wp2)
     go_ret
     exact ⟨by first | rfl | (simp; done) | (simp [*]; done), by repeat (first | exact Drawn0.refl _ | apply Drawn0.step)⟩
 ·rw [if_neg c3] at H
  obtain ⟨c3b0, c3b1⟩ := neB c3
  have c3b2 : (l0.length == l1.length) = false := by first | simpa using c3 | (simp at c3 ⊢; omega)
  obtain rfl := Option.some.inj H
  go_enter Tryd.func13, Tryd.ntmps13
  go_wp2
  repeat (go_quiet (fail); try go_wp2)
  go_ret
  exact ⟨by first | rfl | (simp; done) | (simp [*]; done), by repeat (first | exact Drawn0.refl _ | apply Drawn0.step)⟩
end Go.Proofs.YtdejidhgeefmeaaDoor.P
