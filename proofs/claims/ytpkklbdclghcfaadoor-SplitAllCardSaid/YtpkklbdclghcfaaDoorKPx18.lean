/- Part of the proof: what the theorem needs of this text. -/
import Derived.Test.YtpkklbdclghcfaaDoorKPx0
import Derived.Test.YtpkklbdclghcfaaDoorKPx17
namespace Go.Proofs.YtpkklbdclghcfaaDoor.P
open Go.RowKit Go.Proofs.YtpkklbdclghcfaaDoorW.PrintWords Go.Proofs.YtpkklbdclghcfaaDoorW.PrintLast Go.Proofs.YtpkklbdclghcfaaDoorW.PrintMore
attribute [local go_sem] max2_int min2_int max_two min_two max_three min_three max_four min_four   -- for this text's walks alone
set_option linter.unusedVariables false
set_option linter.unusedSimpArgs false
def tmesisref10_Pieces.l0 : Nat → List (S25) → List (S38) → Int → Int → Option ((List (S25)))
 | 0, _, _, _, _ => none
 | k + 1, x3, x4, x5, x6 => if x6 < (x4.length : Int) then (if 0 ≤ x6 then (if ((rd_T38 x4 x6).f0) = 7 then (if 0 ≤ x5 then (if x5 < (x4.length : Int) then ((some (([] : List (S38)) : List (S38))).bind fun y456 => (if x5 ≤ (wrap64 (x6 + 1)) then (if (wrap64 (x6 + 1)) ≤ (x4.length : Int) then ((some ((x4.take ((wrap64 (x6 + 1)) : Int).toNat).drop (x5 : Int).toNat : List (S38))).bind fun y459 => (if y456.length + y459.length < 2932031007402 then (if x3.length < 2932031007402 then (tmesisref10_Pieces.l0 k (x3 ++ [(⟨(rd_T38 x4 x5).f1, (rd_T38 x4 x6).f2, x5, (y456 ++ y459)⟩ : S25)]) x4 (wrap64 (x6 + 1)) (wrap64 (x6 + 1))) else (none)) else (none))) else (none)) else (none))) else (none)) else (none)) else (if x6 = (wrap64 ((x4.length : Int) - 1)) then (if 0 ≤ x5 then (if x5 < (x4.length : Int) then ((some (([] : List (S38)) : List (S38))).bind fun y471 => (if x5 ≤ (wrap64 (x6 + 1)) then (if (wrap64 (x6 + 1)) ≤ (x4.length : Int) then ((some ((x4.take ((wrap64 (x6 + 1)) : Int).toNat).drop (x5 : Int).toNat : List (S38))).bind fun y474 => (if y471.length + y474.length < 2932031007402 then (if x3.length < 2932031007402 then (tmesisref10_Pieces.l0 k (x3 ++ [(⟨(rd_T38 x4 x5).f1, (rd_T38 x4 x6).f2, x5, (y471 ++ y474)⟩ : S25)]) x4 (wrap64 (x6 + 1)) (wrap64 (x6 + 1))) else (none)) else (none))) else (none)) else (none))) else (none)) else (none)) else (tmesisref10_Pieces.l0 k x3 x4 x5 (wrap64 (x6 + 1))))) else (none)) else (some x3)
def tmesisref10_Pieces.f (k : Nat) (l0 : List Int) : Option ((List (S25))) := (tmesisref07_All.f k l0).bind fun t450 => (tmesisref10_Pieces.l0 k (([] : List (S25))) t450 0 0)
theorem tmesisref10_Pieces.mono_l : ∀ k, (∀ y0 y1 y2 y3, LeO (tmesisref10_Pieces.l0 k y0 y1 y2 y3) (tmesisref10_Pieces.l0 (k + 1) y0 y1 y2 y3))
 | 0 => fun _ _ _ _ r h => by simp [tmesisref10_Pieces.l0] at h
 | k + 1 => by
  have ih0 := tmesisref10_Pieces.mono_l k
  ·intro y0 y1 y2 y3
   unfold tmesisref10_Pieces.l0
   repeat' with_reducible first | exact ih0 _ _ _ _ | exact tmesisref07_All.mono _ _ | exact LeO.refl _ | exact LeO.none _ | refine LeO.ite ?_ ?_ | refine LeO.bind ?_ (fun _ => ?_)
theorem tmesisref10_Pieces.mono : ∀ a0 k, LeO (tmesisref10_Pieces.f k a0) (tmesisref10_Pieces.f (k + 1) a0) := by
 intro a0 k
 have ih0 := tmesisref10_Pieces.mono_l k
 unfold tmesisref10_Pieces.f
 repeat' with_reducible first | exact ih0 _ _ _ _ | exact tmesisref07_All.mono _ _ | exact LeO.refl _ | exact LeO.none _ | refine LeO.ite ?_ ?_ | refine LeO.bind ?_ (fun _ => ?_)
def tmesisref10_Pieces.T8 : Bool × List (List Nat × List Nat) := (true, [([], []), ([], []), ([], []), ([1, 2], [1, 2]), ([3], [3]), ([4], [4]), ([], []), ([], []), ([6, 7], [6, 7]), ([8], [8]), ([9], [9]), ([], []), ([], []), ([], []), ([], []), ([], []), ([15], [15]), ([13, 14, 16], [13, 14, 16]), ([12, 17], [12, 17]), ([5, 10, 11, 18], [5, 10, 11, 18]), ([19], [19]), ([0, 20, 18], [0, 20]), ([21, 21, 0, 1, 2, 3, 4, 5, 6, 7, 8, 9, 10, 11, 12, 13, 14, 15, 16, 17, 18, 19, 20, 21], [0, 21])])
def tmesisref10_Pieces.B8 : List Nat := [0, 0, 0, 6, 14, 30, 0, 0, 192, 448, 960, 0, 0, 0, 0, 0, 32768, 122880, 258048, 524286, 1048574, 2097151, 4194303]
theorem tmesisref10_Pieces.tab8 : rtab .any (opsOf Tryd.f15 8) = tmesisref10_Pieces.T8 := by kernel_rfl
theorem tmesisref10_Pieces.bits8 : waitsOk tmesisref10_Pieces.T8.2 tmesisref10_Pieces.B8 = true := by kernel_rfl
set_option maxHeartbeats 8000000 in
set_option maxRecDepth 100000 in
theorem tmesisref10_Pieces.calls (k : Nat) (A0 : Option Addr) (c0 : Nat) (l0 : List Int) (r : List (S25)) (w : World) (hr0 : Kd.C (Kd.int .u8) w A0 l0.length l0) (hc0 : l0.length ≤ c0) (h : tmesisref10_Pieces.f k l0 = some r) :
  Calls Tryd.prog 15 #[.slice A0 l0.length c0] w fun e w' => ∃ v0_ : Value, e = .returned (v0_) ∧ Kd.S k25 25 w' w.heap.size (fun _ => True) v0_ r ∧ Below w.heap.size w w' := by
 have hu25 := Tryd.underlying25
 have HR0 := Aside0.mk hr0
 have HC0 := Aside0.mk hc0
 clear hr0 hc0
 have HB := Aside0.mk (Below.refl w.heap.size w)
 have H : ((tmesisref07_All.f k l0).bind fun t450 => (tmesisref10_Pieces.l0 k (([] : List (S25))) t450 0 0)) = some r := h
 clear h
 obtain ⟨y447, hy447⟩ : ∃ y_ : List (S25), y_ = (([] : List (S25))) := ⟨_, rfl⟩
 replace H : ((tmesisref07_All.f k l0).bind fun t450 => (tmesisref10_Pieces.l0 k y447 t450 0 0)) = some r := by first | (rw [hy447]; with_reducible exact H) | (have H2_ := (Option.bind_some _ _).symm.trans H; rw [hy447]; with_reducible exact H2_) | (have H2_ := (Option.bind_some _ _).symm.trans H; with_reducible exact H2_) | with_reducible exact H | (rw [hy447]; exact H) | exact H
 have Ny447 := Aside0.mk hy447
 clear hy447
 obtain ⟨t450, A2, H⟩ := bE H
 have H' := Aside0.mk H
 clear H
 go_enter Tryd.func15, Tryd.ntmps15
 go_wp2_with (first | ((with_reducible refine gate_dst (N := 7) rfl ?_); (try (refine gate_guard (by rfl) ?_; dsimp only)); refine Kd.S_lit k25 _ 25 ?hg (N := 7) ?hd (xs := ([] : List (S25))) (inner := []) (ok := fun _ => True) (okp := fun _ => True) ?hr ?hp (fun _ hk => hk) trivial (Below.refl _ _) (Nat.le_refl _) (by simp) ?_; (case hd => rfl); (case hg => rfl); (case hr => first | (go_simp; done) | (go_simp; rfl)); (case hp => exact (Reps.none _ _)); intro v448 w3 ho4 hb hg_ hnew_; clear hg_ hnew_; (first | rw [← Ny447.out] at ho4 | (simp only [Int.reduceToNat] at ho4; rw [← Ny447.out] at ho4)); have HO449 := Aside0.mk (Kd.S_lower ho4 (below_size (bAt HB.out))); replace HB := Aside0.mk (below_step (bAt HB.out) hb); clear hb ho4) | ((with_reducible refine gate_callee (f := 27) rfl ?_); refine gL (some 9) Tryd.func27 #[.slice A0 l0.length c0] rfl gA ?_; (with_reducible refine (tmesisref07_All.calls k _ _ l0 t450 _ ?side1 ?side2 A2.out).mono ?_); (case side1 => exact CAt (Kd.C_below HR0.out HB.out)); (case side2 => exact HC0.out); rintro e w5 ⟨v451, rfl, ho0, hb⟩; refine ⟨_, rfl, ?_⟩; replace HO449 := Aside0.mk (Kd.S_elder' (SAt HO449.out) (Kd.R_base ho0) hb); have HO452 := Aside0.mk (Kd.R_lower ho0 (below_size (bAt HB.out))); replace HB := Aside0.mk (below_step (bAt HB.out) hb); (try clear hb); (try clear hb2); (try clear hk); (try clear hi); (try clear ho0)))
 go_loopg [3, 5, 6] k (fun kq v3 v5 v6 w' => ∃ (x3_1 : List (S25)) (x5_1 : Int) (x6_1 : Int), v5 = .int .i64 x5_1 ∧ v6 = .int .i64 x6_1 ∧ Aside0 (tmesisref10_Pieces.l0 kq x3_1 t450 x5_1 x6_1 = some r) ∧ Aside0 (kq ≤ k) ∧ Aside0 (Kd.S k25 25 w' w.heap.size (fun k_ => some k_ ≠ (v451 : Value).ownBlock) v3 x3_1) ∧ Aside0 (Kd.R k38 38 w' w.heap.size (fun _ => True) v451 t450) ∧ Aside0 (Below w.heap.size w w'))
 case atStart => exact ⟨(y447), (0), (0), sR, sR, H', ⟨Nat.le_refl _⟩, ⟨SAt (Kd.S_mono HO449.out (fun _ hk => hk.2))⟩, ⟨RAt HO452.out⟩, ⟨bAt HB.out⟩⟩
 case round =>
  clear H'
  try clear c1
  try clear c2
  try clear p2
  obtain ⟨x3_1, x5_1, x6_1, rfl, rfl, HA, HK1, HO_3, HO_4, HB⟩ := hrel
  cases gk with
  | zero => exact absurd HA.out (by simp [tmesisref10_Pieces.l0])
  | succ k1 =>
   have H := HA.out
   clear HA
   simp only [tmesisref10_Pieces.l0] at H
   by_cases c6 : x6_1 < (t450.length : Int)
   ·rw [if_pos c6] at H
    have c6b0 := decide_eq_true c6
    clear c6
    by_cases c7 : 0 ≤ x6_1
    ·rw [if_pos c7] at H
     have c7b0 := decide_eq_true c7
     clear c7
     by_cases c8 : ((rd_T38 t450 x6_1).f0) = 7
     ·rw [if_pos c8] at H
      obtain ⟨c8b0, c8b1⟩ := eqB c8
      clear c8
      by_cases c9 : 0 ≤ x5_1
      ·rw [if_pos c9] at H
       have c9b0 := decide_eq_true c9
       clear c9
       by_cases c10 : x5_1 < (t450.length : Int)
       ·rw [if_pos c10] at H
        have c10b0 := decide_eq_true c10
        clear c10
        obtain ⟨y456, hy456⟩ : ∃ y_ : List (S38), y_ = (([] : List (S38))) := ⟨_, rfl⟩
        replace H : (if x5_1 ≤ (wrap64 (x6_1 + 1)) then (if (wrap64 (x6_1 + 1)) ≤ (t450.length : Int) then ((some ((t450.take ((wrap64 (x6_1 + 1)) : Int).toNat).drop (x5_1 : Int).toNat : List (S38))).bind fun y459 => (if y456.length + y459.length < 2932031007402 then (if x3_1.length < 2932031007402 then (tmesisref10_Pieces.l0 k1 (x3_1 ++ [(⟨(rd_T38 t450 x5_1).f1, (rd_T38 t450 x6_1).f2, x5_1, (y456 ++ y459)⟩ : S25)]) t450 (wrap64 (x6_1 + 1)) (wrap64 (x6_1 + 1))) else (none)) else (none))) else (none)) else (none)) = some r := by first | (rw [hy456]; with_reducible exact H) | (have H2_ := (Option.bind_some _ _).symm.trans H; rw [hy456]; with_reducible exact H2_) | (have H2_ := (Option.bind_some _ _).symm.trans H; with_reducible exact H2_) | with_reducible exact H | (rw [hy456]; exact H) | exact H
        have Ny456 := Aside0.mk hy456
        clear hy456
        have c11b0 := eq_true (dt : 0 ≤ x5_1)
        by_cases c12 : x5_1 ≤ (wrap64 (x6_1 + 1))
        ·rw [if_pos c12] at H
         have c12b0 := eq_true c12
         have c12b1 := decide_eq_true c12
         by_cases c13 : (wrap64 (x6_1 + 1)) ≤ (t450.length : Int)
         ·rw [if_pos c13] at H
          have c13b0 := eq_true c13
          have c13b1 := decide_eq_true c13
          obtain ⟨y459, hy459⟩ : ∃ y_ : List (S38), y_ = ((t450.take ((wrap64 (x6_1 + 1)) : Int).toNat).drop (x5_1 : Int).toNat) := ⟨_, rfl⟩
          replace H : (if y456.length + y459.length < 2932031007402 then (if x3_1.length < 2932031007402 then (tmesisref10_Pieces.l0 k1 (x3_1 ++ [(⟨(rd_T38 t450 x5_1).f1, (rd_T38 t450 x6_1).f2, x5_1, (y456 ++ y459)⟩ : S25)]) t450 (wrap64 (x6_1 + 1)) (wrap64 (x6_1 + 1))) else (none)) else (none)) = some r := by first | (rw [hy459]; with_reducible exact H) | (have H2_ := (Option.bind_some _ _).symm.trans H; rw [hy459]; with_reducible exact H2_) | (have H2_ := (Option.bind_some _ _).symm.trans H; with_reducible exact H2_) | with_reducible exact H | (rw [hy459]; exact H) | exact H
          have Ny459 := Aside0.mk hy459
          clear hy459
          by_cases c14 : y456.length + y459.length < 2932031007402
          ·rw [if_pos c14] at H
           have LMc14 := Aside0.mk c14
           clear c14
           obtain ⟨y463, hy463⟩ : ∃ y_ : List (S38), y_ = (y456 ++ y459) := ⟨_, rfl⟩
           replace H : (if x3_1.length < 2932031007402 then (tmesisref10_Pieces.l0 k1 (x3_1 ++ [(⟨(rd_T38 t450 x5_1).f1, (rd_T38 t450 x6_1).f2, x5_1, y463⟩ : S25)]) t450 (wrap64 (x6_1 + 1)) (wrap64 (x6_1 + 1))) else (none)) = some r := by first | (rw [hy463]; with_reducible exact H) | (have H2_ := (Option.bind_some _ _).symm.trans H; rw [hy463]; with_reducible exact H2_) | (have H2_ := (Option.bind_some _ _).symm.trans H; with_reducible exact H2_) | with_reducible exact H | (rw [hy463]; exact H) | exact H
           have Ny463 := Aside0.mk hy463
           clear hy463
           by_cases c15 : x3_1.length < 2932031007402
           ·rw [if_pos c15] at H
            have LMc15 := Aside0.mk c15
            clear c15
            obtain ⟨y466, hy466⟩ : ∃ y_ : List (S25), y_ = (x3_1 ++ [(⟨(rd_T38 t450 x5_1).f1, (rd_T38 t450 x6_1).f2, x5_1, y463⟩ : S25)]) := ⟨_, rfl⟩
            replace H : (tmesisref10_Pieces.l0 k1 y466 t450 (wrap64 (x6_1 + 1)) (wrap64 (x6_1 + 1))) = some r := by first | (rw [hy466]; with_reducible exact H) | (have H2_ := (Option.bind_some _ _).symm.trans H; rw [hy466]; with_reducible exact H2_) | (have H2_ := (Option.bind_some _ _).symm.trans H; with_reducible exact H2_) | with_reducible exact H | (rw [hy466]; exact H) | exact H
            have Ny466 := Aside0.mk hy466
            clear hy466
            have H' := Aside0.mk H
            clear H
            obtain ⟨Ao16, co16, eo16⟩ := Kd.R_slice HO_4.out
            subst eo16
            have p453 : 0 ≤ (x6_1 : Int) := dt
            have q453 : x6_1 < (t450.length : Int) := dt
            obtain ⟨ad453, e453, hx453_0, hx453_1, hx453_2, hx453_3, hx453_4⟩ := at_T38 (Kd.R_reads' HO_4.out).2.2 x6_1 p453 q453
            cases e453
            replace p453 := eq_true p453
            replace q453 := eq_true q453
            try go_wp2
            replace HO_3 := Aside0.mk (Kd.S_drew HO_3.out)
            replace HO_4 := Aside0.mk (Kd.R_drew HO_4.out)
            replace HB := Aside0.mk (below_drew1 HB.out)
            have p454 : 0 ≤ (x5_1 : Int) := dt
            have q454 : x5_1 < (t450.length : Int) := dt
            obtain ⟨ad454, e454, hx454_0, hx454_1, hx454_2, hx454_3, hx454_4⟩ := at_T38 (Kd.R_reads' HO_4.out).2.2 x5_1 p454 q454
            obtain rfl : ad453 = ad454 := (by injection e454)
            replace p454 := eq_true p454
            replace q454 := eq_true q454
            have p455 : 0 ≤ (x6_1 : Int) := dt
            have q455 : x6_1 < (t450.length : Int) := dt
            obtain ⟨ad455, e455, hx455_0, hx455_1, hx455_2, hx455_3, hx455_4⟩ := at_T38 (Kd.R_reads' HO_4.out).2.2 x6_1 p455 q455
            obtain rfl : ad453 = ad455 := (by injection e455)
            replace p455 := eq_true p455
            replace q455 := eq_true q455
            have q18 : ((wrap64 (x6_1 + 1)) : Int) ≤ ((t450.length : Int) : Int) := dt
            obtain ⟨i018, hi018, _, hsz18, _⟩ := info_parts info38
            have hroom18 : t450.length ≤ co16 := (Kd.R_reads' HO_4.out).2.1
            have hC18 : Kd.C k38 _ (some ad453) t450.length t450 := (Kd.R_reads' HO_4.out).2.2
            have ql18 : (x5_1 : Int) ≤ ((wrap64 (x6_1 + 1)) : Int) := dt
            have q018 : (0 : Int) ≤ (x5_1 : Int) := dt
            have hcut18 := cut_mid (P := Tryd.prog) 23 38 .i64 .i64 Tryd.underlying23 hi018 5 hsz18 (some ad453) t450.length co16 x5_1 (wrap64 (x6_1 + 1)) q018 ql18 q18 hroom18
            have hr18 := Kd.C_mid (lo := (x5_1 : Int).toNat) (hi := ((wrap64 (x6_1 + 1)) : Int).toNat) (c := co16) hC18 (by omega) (by omega) hroom18
            obtain ⟨A18, hA18⟩ : ∃ A1, A1 = (if co16 = (x5_1 : Int).toNat then (some ad453) else ((some ad453) : Option Addr).map (·.add ((x5_1 : Int).toNat * 5))) := ⟨_, rfl⟩
            obtain ⟨c18, hc18⟩ : ∃ c1, c1 = co16 - (x5_1 : Int).toNat := ⟨_, rfl⟩
            have hy18 : y459.length = ((wrap64 (x6_1 + 1)) : Int).toNat - (x5_1 : Int).toNat := (by rw [Ny459.out, List.length_drop, List.length_take] <;> omega)
            rw [show ((t450).take ((wrap64 (x6_1 + 1)) : Int).toNat).drop (x5_1 : Int).toNat = y459 from Ny459.out.symm] at hr18
            replace hr18 : Kd.C k38 _ A18 y459.length y459 := (by rw [hA18]; exact hr18)
            rw [← hy18, ← hA18, ← hc18] at hcut18
            have HR462 := Aside0.mk hr18
            have HC462 := Aside0.mk (show y459.length ≤ c18 from by rw [hy18, hc18]; exact Nat.sub_le_sub_right (Nat.le_trans (by omega) hroom18) _)
            clear hr18 hC18 hroom18 hi018 hsz18 hc18
            have KY18 := Aside0.mk hy18
            have KA18 := Aside0.mk hA18
            clear hy18 hA18
            have KL18 := Aside0.mk (show ((wrap64 (x6_1 + 1)) : Int).toNat ≤ t450.length from by omega)
            have KM18 := Aside0.mk (show (x5_1 : Int).toNat ≤ ((wrap64 (x6_1 + 1)) : Int).toNat from by omega)
            replace q18 := eq_true q18
            refine start_ (n := 23) (S := fun w' => w'.cell? (ad453.add ((x5_1).toNat * 5)) = some (.int .i64 ((rd_T38 t450 x5_1).f0)) ∧ w'.cell? ⟨(ad453.add ((x5_1).toNat * 5)).block, (ad453.add ((x5_1).toNat * 5)).off + 1, none⟩ = some (.int .i64 ((rd_T38 t450 x5_1).f1)) ∧ w'.cell? ⟨(ad453.add ((x5_1).toNat * 5)).block, (ad453.add ((x5_1).toNat * 5)).off + 2, none⟩ = some (.int .i64 ((rd_T38 t450 x5_1).f2)) ∧ w'.cell? ⟨(ad453.add ((x5_1).toNat * 5)).block, (ad453.add ((x5_1).toNat * 5)).off + 3, none⟩ = some (.string ((rd_T38 t450 x5_1).f3)) ∧ w'.cell? ⟨(ad453.add ((x5_1).toNat * 5)).block, (ad453.add ((x5_1).toNat * 5)).off + 4, none⟩ = some (.int .i64 ((rd_T38 t450 x5_1).f4)) ∧ w'.cell? (ad453.add ((x6_1).toNat * 5)) = some (.int .i64 ((rd_T38 t450 x6_1).f0)) ∧ w'.cell? ⟨(ad453.add ((x6_1).toNat * 5)).block, (ad453.add ((x6_1).toNat * 5)).off + 1, none⟩ = some (.int .i64 ((rd_T38 t450 x6_1).f1)) ∧ w'.cell? ⟨(ad453.add ((x6_1).toNat * 5)).block, (ad453.add ((x6_1).toNat * 5)).off + 2, none⟩ = some (.int .i64 ((rd_T38 t450 x6_1).f2)) ∧ w'.cell? ⟨(ad453.add ((x6_1).toNat * 5)).block, (ad453.add ((x6_1).toNat * 5)).off + 3, none⟩ = some (.string ((rd_T38 t450 x6_1).f3)) ∧ w'.cell? ⟨(ad453.add ((x6_1).toNat * 5)).block, (ad453.add ((x6_1).toNat * 5)).off + 4, none⟩ = some (.int .i64 ((rd_T38 t450 x6_1).f4))) (ds := [20, 21]) (bm 23 0) (by kernel_rfl) rfl rfl ⟨hx454_0, hx454_1, hx454_2, hx454_3, hx454_4, hx455_0, hx455_1, hx455_2, hx455_3, hx455_4⟩ (fun hHeld => ?_); refine with_tabW tmesisref10_Pieces.tab8 tmesisref10_Pieces.bits8 (fun HT_ HW_ => ?_)
            generalize wr.drew = w17 at HO_3 HO_4 HB HR462 hx454_0 hx454_1 hx454_2 hx454_3 hx454_4 hx455_0 hx455_1 hx455_2 hx455_3 hx455_4 hHeld ⊢
            refine pv_ 0 (some 29) (bm 23 1) HT_.out ?_
            refine pv_ 1 (some 30) (bm 23 3) HT_.out ?_
            refine pv_ 2 (some 31) (bm 23 7) HT_.out ?_
            refine pv_ 3 (some 32) (bm 23 15) HT_.out ?_
            refine pv_ 4 (some 33) (bm 23 31) HT_.out ?_
            refine pv_ 6 (some 35) (bm 23 95) HT_.out ?_
            refine pv_ 7 (some 36) (bm 23 223) HT_.out ?_
            refine pv_ 8 (some 37) (bm 23 479) HT_.out ?_
            refine pv_ 9 (some 38) (bm 23 991) HT_.out ?_
            refine pv_ 11 (some 40) (bm 23 3039) HT_.out ?_
            refine pv_ 13 (some 42) (bm 23 11231) HT_.out ?_
            refine pv_ 14 (some 43) (bm 23 27615) HT_.out ?_
            refine pv_ 15 (some 44) (bm 23 60383) HT_.out ?_
            refine pv_ 16 (some 45) (bm 23 125919) HT_.out ?_
            refine pv_ 17 (some 46) (bm 23 256991) HT_.out ?_
            refine tk_ 5 (some 34) (bm 23 257023) HT_.out HW_.out hHeld ?_
            refine tk_ 10 (some 39) (bm 23 258047) HT_.out HW_.out hHeld ?_
            refine one_ (i := 12) (N := some 41) (bm 23 262143) rfl rfl (one_of HT_.out (by kernel_rfl)) (by decide) (fun K hK => ?_)
            refine Kd.R_lit_step k38 _ 38 ?hg (N := 41) ?hd (xs := ([] : List (S38))) (inner := []) (ok := fun _ => True) (okp := fun _ => True) ?hr ?hp (fun _ hk => hk) trivial (Below.refl _ _) (Nat.le_refl _) (by simp) ?_; (case hd => rfl); (case hg => rfl); (case hr => first | (go_simp; done) | (go_simp; rfl)); (case hp => exact (Reps.none _ _))
            intro v457 w19 ho20 hb hg_ hnew_
            have HS0_ := (hb.cell (World.block_lt_of_cell? _ _ (hHeld.1))).trans (hHeld.1)
            have HS1_ := (hb.cell (World.block_lt_of_cell? _ _ (hHeld.2.1))).trans (hHeld.2.1)
            have HS2_ := (hb.cell (World.block_lt_of_cell? _ _ (hHeld.2.2.1))).trans (hHeld.2.2.1)
            have HS3_ := (hb.cell (World.block_lt_of_cell? _ _ (hHeld.2.2.2.1))).trans (hHeld.2.2.2.1)
            have HS4_ := (hb.cell (World.block_lt_of_cell? _ _ (hHeld.2.2.2.2.1))).trans (hHeld.2.2.2.2.1)
            have HS5_ := (hb.cell (World.block_lt_of_cell? _ _ (hHeld.2.2.2.2.2.1))).trans (hHeld.2.2.2.2.2.1)
            have HS6_ := (hb.cell (World.block_lt_of_cell? _ _ (hHeld.2.2.2.2.2.2.1))).trans (hHeld.2.2.2.2.2.2.1)
            have HS7_ := (hb.cell (World.block_lt_of_cell? _ _ (hHeld.2.2.2.2.2.2.2.1))).trans (hHeld.2.2.2.2.2.2.2.1)
            have HS8_ := (hb.cell (World.block_lt_of_cell? _ _ (hHeld.2.2.2.2.2.2.2.2.1))).trans (hHeld.2.2.2.2.2.2.2.2.1)
            have HS9_ := (hb.cell (World.block_lt_of_cell? _ _ (hHeld.2.2.2.2.2.2.2.2.2))).trans (hHeld.2.2.2.2.2.2.2.2.2)
            clear hg_ hnew_
            (first | rw [← Ny456.out] at ho20 | (simp only [Int.reduceToNat] at ho20; rw [← Ny456.out] at ho20))
            have n0_ := Aside0.mk (Kd.S_elder' (SAt HO_3.out) (Kd.R_base ho20) hb)
            have n1_ := Aside0.mk (Kd.R_elder' (RAt HO_4.out) (Kd.R_base ho20) hb)
            have n2_ := Aside0.mk (Kd.R_lower (Kd.R_new' ho20 (Kd.R_lt (RAt HO_4.out))) (below_size (bAt HB.out)))
            have n3_ := Aside0.mk (Kd.C_below (CAt HR462.out) hb)
            have n4_ := Aside0.mk (below_step (bAt HB.out) hb)
            clear HO_3 HO_4 HR462 HB
            have HO_3 := n0_
            have HO_4 := n1_
            have HO458 := n2_
            have HR462 := n3_
            have HB := n4_
            clear n0_ n1_ n2_ n3_ n4_ hb ho20
            refine hK.out _ _ ⟨HS0_, HS1_, HS2_, HS3_, HS4_, HS5_, HS6_, HS7_, HS8_, HS9_⟩ (fun hHeld => ?_)
            clear hK K
            refine norm_ (a' := ?_) ?_ ?_
            rotate_left
            ·show Act.put _ (some 41) _ = _
             simp only [Act.put, List.setIfInBounds_toArray, List.set_cons_zero, List.set_cons_succ, i64_w, i32_w]
             rfl
            refine one_ (i := 18) (N := some 47) (bm 23 524287) rfl rfl (one_of HT_.out (by kernel_rfl)) (by decide) (fun K hK => ?_)
            refine Kd.R_append_rows_step k38 (w0 := w) w.heap.size (by rfl) (.tmp 41) (.tmp 46) 23 38 (.agg #[(.int .i64 0), (.int .i64 0), (.int .i64 0), (.string ⟨#[]⟩), (.int .i64 0)]) 48 rfl Tryd.underlying23 info38 rfl (by decide) (by omega) v457 y456 y459 _ _ _ (fun k_ => some k_ ≠ (.slice (some ad453) t450.length co16 : Value).ownBlock) (fun _ => False) rfl rfl ?aO ?aR (fun _ _ h => h) (fun _ h => h.elim) ?aF ?aB ?aS ?aL ?_
            (case aR => repeat (first | exact (CAt HR462.out) | (with_reducible refine Kd.C_alloc ?_ _) | (with_reducible refine Kd.C_drewN ?_ _) | (with_reducible refine Kd.C_drew ?_)))
            (case aB => exact (bAt HB.out))
            (case aF => exact (fun k_ hk => Kd.fresh' (Kd.R_lt (RAt HO_4.out)) k_ hk))
            (case aO => exact (RAt (Kd.R_mono HO458.out (fun _ hk => hk.2))))
            (case aS => exact (below_size (bAt HB.out)))
            (case aL => have := LMc14.out; omega)
            intro v464 w21 ho hb hg hat
            have HS0_ := cell_grown hg (hHeld.1) (by first | (rw [add_block]; exact ((HO_4.out.1 _ rfl).2)) | (show some (Addr.add _ _).block ≠ _; rw [add_block]; exact ((HO_4.out.1 _ rfl).2)) | exact ((HO_4.out.1 _ rfl).2))
            have HS1_ := cell_grown hg (hHeld.2.1) (by first | (rw [add_block]; exact ((HO_4.out.1 _ rfl).2)) | (show some (Addr.add _ _).block ≠ _; rw [add_block]; exact ((HO_4.out.1 _ rfl).2)) | exact ((HO_4.out.1 _ rfl).2))
            have HS2_ := cell_grown hg (hHeld.2.2.1) (by first | (rw [add_block]; exact ((HO_4.out.1 _ rfl).2)) | (show some (Addr.add _ _).block ≠ _; rw [add_block]; exact ((HO_4.out.1 _ rfl).2)) | exact ((HO_4.out.1 _ rfl).2))
            have HS3_ := cell_grown hg (hHeld.2.2.2.1) (by first | (rw [add_block]; exact ((HO_4.out.1 _ rfl).2)) | (show some (Addr.add _ _).block ≠ _; rw [add_block]; exact ((HO_4.out.1 _ rfl).2)) | exact ((HO_4.out.1 _ rfl).2))
            have HS4_ := cell_grown hg (hHeld.2.2.2.2.1) (by first | (rw [add_block]; exact ((HO_4.out.1 _ rfl).2)) | (show some (Addr.add _ _).block ≠ _; rw [add_block]; exact ((HO_4.out.1 _ rfl).2)) | exact ((HO_4.out.1 _ rfl).2))
            have HS5_ := cell_grown hg (hHeld.2.2.2.2.2.1) (by first | (rw [add_block]; exact ((HO_4.out.1 _ rfl).2)) | (show some (Addr.add _ _).block ≠ _; rw [add_block]; exact ((HO_4.out.1 _ rfl).2)) | exact ((HO_4.out.1 _ rfl).2))
            have HS6_ := cell_grown hg (hHeld.2.2.2.2.2.2.1) (by first | (rw [add_block]; exact ((HO_4.out.1 _ rfl).2)) | (show some (Addr.add _ _).block ≠ _; rw [add_block]; exact ((HO_4.out.1 _ rfl).2)) | exact ((HO_4.out.1 _ rfl).2))
            have HS7_ := cell_grown hg (hHeld.2.2.2.2.2.2.2.1) (by first | (rw [add_block]; exact ((HO_4.out.1 _ rfl).2)) | (show some (Addr.add _ _).block ≠ _; rw [add_block]; exact ((HO_4.out.1 _ rfl).2)) | exact ((HO_4.out.1 _ rfl).2))
            have HS8_ := cell_grown hg (hHeld.2.2.2.2.2.2.2.2.1) (by first | (rw [add_block]; exact ((HO_4.out.1 _ rfl).2)) | (show some (Addr.add _ _).block ≠ _; rw [add_block]; exact ((HO_4.out.1 _ rfl).2)) | exact ((HO_4.out.1 _ rfl).2))
            have HS9_ := cell_grown hg (hHeld.2.2.2.2.2.2.2.2.2) (by first | (rw [add_block]; exact ((HO_4.out.1 _ rfl).2)) | (show some (Addr.add _ _).block ≠ _; rw [add_block]; exact ((HO_4.out.1 _ rfl).2)) | exact ((HO_4.out.1 _ rfl).2))
            rw [← Ny463.out] at ho
            have n0_ := Aside0.mk (Kd.S_after (ok := (fun k_ => some k_ ≠ (.slice (some ad453) t450.length co16 : Value).ownBlock)) (SAt HO_3.out) hg hat)
            have n1_ := Aside0.mk (Kd.R_after (ok := (fun _ => True)) (RAt HO_4.out) hg hat)
            have n2_ := Aside0.mk (hb)
            have n3_ := Aside0.mk ((show Kd.C k38 w21 A18 y459.length y459 from by rw [Ny459.out, KA18.out]; exact Kd.C_mid (lo := (x5_1 : Int).toNat) (hi := ((wrap64 (x6_1 + 1)) : Int).toNat) (c := co16) ((Kd.R_reads' (Kd.R_after (ok := (fun _ => True)) (RAt HO_4.out) hg hat)).2.2) KM18.out KL18.out ((Kd.R_reads' (Kd.R_after (ok := (fun _ => True)) (RAt HO_4.out) hg hat)).2.1)))
            have n4_ := Aside0.mk (ho)
            clear HO_3 HO_4 HB HR462 HO458
            have HO_3 := n0_
            have HO_4 := n1_
            have HB := n2_
            have HR462 := n3_
            have HO465 := n4_
            clear n0_ n1_ n2_ n3_ n4_ ho hb hg hat
            obtain ⟨Ao22, co22, eo22⟩ := Kd.R_slice HO465.out
            (first | subst eo22 | (injection eo22 with f1_ f2_ f3_; have f4_ := f1_.symm; have f5_ := f3_.symm; clear f1_ f2_ f3_; subst f4_; subst f5_))
            refine hK.out _ _ ⟨HS0_, HS1_, HS2_, HS3_, HS4_, HS5_, HS6_, HS7_, HS8_, HS9_⟩ (fun hHeld => ?_)
            clear hK K
            refine norm_ (a' := ?_) ?_ ?_
            rotate_left
            ·show Act.put _ (some 47) _ = _
             simp only [Act.put, List.setIfInBounds_toArray, List.set_cons_zero, List.set_cons_succ, i64_w, i32_w]
             rfl
            refine pv_ 19 (some 48) (bm 23 1048575) HT_.out ?_
            refine last_ (i := 20) (N := some 49) (bm 23 2097151) rfl rfl (one_of HT_.out (by kernel_rfl)) (by decide) (fun K hK => ?_)
            refine value_ (w1 := ?_) (v := ?_) (by rfl) rfl ?_ ?_
            rotate_left 2
            ·go_simp
             constructor
             ·rfl
             ·rfl
            refine hK.out _ _ ?_
            clear hK K
            refine norm_ (a' := ?_) ?_ ?_
            rotate_left
            ·show Act.put _ (some 49) _ = _
             simp only [Act.put, List.setIfInBounds_toArray, List.set_cons_zero, List.set_cons_succ, i64_w, i32_w]
             rfl
            refine last_ (i := 21) (N := some 50) (bm 23 4194303) rfl rfl (one_of HT_.out (by kernel_rfl)) (by decide) (fun K hK => ?_)
            refine Kd.S_append_step k25 (w0 := w) w.heap.size (by rfl) (.tmp 29) (.tmp 49) 31 25 (.agg #[(.int .i64 0), (.int .i64 0), (.int .i64 0), (.slice none 0 0)]) 48 rfl Tryd.underlying31 info25 rfl (by decide) (by omega) u3 x3_1 (⟨(rd_T38 t450 x5_1).f1, (rd_T38 t450 x6_1).f2, x5_1, y463⟩ : S25) [.int .i64 ((rd_T38 t450 x5_1).f1), .int .i64 ((rd_T38 t450 x6_1).f2), .int .i64 x5_1, .slice Ao22 y463.length co22] (fun k_ => some k_ ≠ (.slice (some ad453) t450.length co16 : Value).ownBlock) (fun k_ => some k_ = (.slice Ao22 y463.length co22 : Value).ownBlock) rfl rfl ?aP (fun k_ hk_ => ((Kd.R_mono (ok' := fun k_ => ((fun k_ => some k_ ≠ (.slice (some ad453) t450.length co16 : Value).ownBlock)) k_ ∧ some k_ ≠ (u3 : Value).ownBlock) (Kd.R_apart' (HO465.out) (Kd.S_typed HO_3.out) (by decide)) (fun k_ hk => ⟨hk.1, hk.2⟩))).1 k_ hk_.symm) ?aF ?aO ?aB ?aS ?aL ?_
            (case aP => exact k25_mkM _ _ _ (⟨(rd_T38 t450 x5_1).f1, (rd_T38 t450 x6_1).f2, x5_1, y463⟩ : S25) (Kd.R_mono (Kd.R_tight rfl (Kd.R_mono (ok' := fun k_ => ((fun k_ => some k_ ≠ (.slice (some ad453) t450.length co16 : Value).ownBlock)) k_ ∧ some k_ ≠ (u3 : Value).ownBlock) (Kd.R_apart' (HO465.out) (Kd.S_typed HO_3.out) (by decide)) (fun k_ hk => ⟨hk.1, hk.2⟩))) (fun _ h_ => h_)))
            (case aB => exact (bAt HB.out))
            (case aF => exact (fun k_ hk => Kd.fresh' (Kd.R_lt (RAt HO_4.out)) k_ hk))
            (case aO => exact (SAt (Kd.S_mono HO_3.out (fun k_ hk => ⟨hk.1, fun e_ => hk.2 e_⟩))))
            (case aS => exact (below_size (bAt HB.out)))
            (case aL => have := LMc15.out; omega)
            intro v467 w23 ho hb hg hat
            rw [← Ny466.out] at ho
            have n0_ := Aside0.mk (Kd.R_over' (RAt HO_4.out) (Kd.S_typed (SAt HO_3.out)) (by decide) hg)
            have n1_ := Aside0.mk (hb)
            have n2_ := Aside0.mk ((show Kd.C k38 w23 A18 y459.length y459 from by rw [Ny459.out, KA18.out]; exact Kd.C_mid (lo := (x5_1 : Int).toNat) (hi := ((wrap64 (x6_1 + 1)) : Int).toNat) (c := co16) ((Kd.R_reads' (Kd.R_over' (RAt HO_4.out) (Kd.S_typed (SAt HO_3.out)) (by decide) hg)).2.2) KM18.out KL18.out ((Kd.R_reads' (Kd.R_over' (RAt HO_4.out) (Kd.S_typed (SAt HO_3.out)) (by decide) hg)).2.1)))
            have n3_ := Aside0.mk (ho)
            clear HO_4 HB HR462 HO_3 HO465
            have HO_4 := n0_
            have HB := n1_
            have HR462 := n2_
            have HO468 := n3_
            clear n0_ n1_ n2_ n3_ ho hb hg hat
            refine hK.out _ _ ?_
            clear hK K
            refine norm_ (a' := ?_) ?_ ?_
            rotate_left
            ·show Act.put _ (some 50) _ = _
             simp only [Act.put, List.setIfInBounds_toArray, List.set_cons_zero, List.set_cons_succ, i64_w, i32_w]
             rfl
            refine pv_ 22 (some 3) (bm 23 8388607) HT_.out ?_
            refine done_ (done_of HT_.out (by kernel_rfl)) ?_
            try go_wp2
            go_roundg k1
            case measure => have := HK1.out; omega
            case rel => exact ⟨(y466), (wrap64 (x6_1 + 1)), (wrap64 (x6_1 + 1)), sR, sR, H', ⟨by have := HK1.out; omega⟩, ⟨SAt HO468.out⟩, ⟨RAt (Kd.R_mono HO_4.out (fun _ hk => trivial))⟩, ⟨bAt HB.out⟩⟩
           ·exact nB H c15
          ·exact nB H c14
         ·exact nB H c13
        ·exact nB H c12
       ·exact nB H c10
      ·exact nB H c9
     ·rw [if_neg c8] at H
      obtain ⟨c8b0, c8b1⟩ := neB c8
      by_cases c24 : x6_1 = (wrap64 ((t450.length : Int) - 1))
      ·rw [if_pos c24] at H
       obtain ⟨c24b0, c24b1⟩ := eqB c24
       clear c24
       by_cases c25 : 0 ≤ x5_1
       ·rw [if_pos c25] at H
        have c25b0 := decide_eq_true c25
        clear c25
        by_cases c26 : x5_1 < (t450.length : Int)
        ·rw [if_pos c26] at H
         have c26b0 := decide_eq_true c26
         clear c26
         obtain ⟨y471, hy471⟩ : ∃ y_ : List (S38), y_ = (([] : List (S38))) := ⟨_, rfl⟩
         replace H : (if x5_1 ≤ (wrap64 (x6_1 + 1)) then (if (wrap64 (x6_1 + 1)) ≤ (t450.length : Int) then ((some ((t450.take ((wrap64 (x6_1 + 1)) : Int).toNat).drop (x5_1 : Int).toNat : List (S38))).bind fun y474 => (if y471.length + y474.length < 2932031007402 then (if x3_1.length < 2932031007402 then (tmesisref10_Pieces.l0 k1 (x3_1 ++ [(⟨(rd_T38 t450 x5_1).f1, (rd_T38 t450 x6_1).f2, x5_1, (y471 ++ y474)⟩ : S25)]) t450 (wrap64 (x6_1 + 1)) (wrap64 (x6_1 + 1))) else (none)) else (none))) else (none)) else (none)) = some r := by first | (rw [hy471]; with_reducible exact H) | (have H2_ := (Option.bind_some _ _).symm.trans H; rw [hy471]; with_reducible exact H2_) | (have H2_ := (Option.bind_some _ _).symm.trans H; with_reducible exact H2_) | with_reducible exact H | (rw [hy471]; exact H) | exact H
         have Ny471 := Aside0.mk hy471
         clear hy471
         have c27b0 := eq_true (dt : 0 ≤ x5_1)
         by_cases c28 : x5_1 ≤ (wrap64 (x6_1 + 1))
         ·rw [if_pos c28] at H
          have c28b0 := eq_true c28
          have c28b1 := decide_eq_true c28
          by_cases c29 : (wrap64 (x6_1 + 1)) ≤ (t450.length : Int)
          ·rw [if_pos c29] at H
           have c29b0 := eq_true c29
           have c29b1 := decide_eq_true c29
           obtain ⟨y474, hy474⟩ : ∃ y_ : List (S38), y_ = ((t450.take ((wrap64 (x6_1 + 1)) : Int).toNat).drop (x5_1 : Int).toNat) := ⟨_, rfl⟩
           replace H : (if y471.length + y474.length < 2932031007402 then (if x3_1.length < 2932031007402 then (tmesisref10_Pieces.l0 k1 (x3_1 ++ [(⟨(rd_T38 t450 x5_1).f1, (rd_T38 t450 x6_1).f2, x5_1, (y471 ++ y474)⟩ : S25)]) t450 (wrap64 (x6_1 + 1)) (wrap64 (x6_1 + 1))) else (none)) else (none)) = some r := by first | (rw [hy474]; with_reducible exact H) | (have H2_ := (Option.bind_some _ _).symm.trans H; rw [hy474]; with_reducible exact H2_) | (have H2_ := (Option.bind_some _ _).symm.trans H; with_reducible exact H2_) | with_reducible exact H | (rw [hy474]; exact H) | exact H
           have Ny474 := Aside0.mk hy474
           clear hy474
           by_cases c30 : y471.length + y474.length < 2932031007402
           ·rw [if_pos c30] at H
            have LMc30 := Aside0.mk c30
            clear c30
            obtain ⟨y478, hy478⟩ : ∃ y_ : List (S38), y_ = (y471 ++ y474) := ⟨_, rfl⟩
            replace H : (if x3_1.length < 2932031007402 then (tmesisref10_Pieces.l0 k1 (x3_1 ++ [(⟨(rd_T38 t450 x5_1).f1, (rd_T38 t450 x6_1).f2, x5_1, y478⟩ : S25)]) t450 (wrap64 (x6_1 + 1)) (wrap64 (x6_1 + 1))) else (none)) = some r := by first | (rw [hy478]; with_reducible exact H) | (have H2_ := (Option.bind_some _ _).symm.trans H; rw [hy478]; with_reducible exact H2_) | (have H2_ := (Option.bind_some _ _).symm.trans H; with_reducible exact H2_) | with_reducible exact H | (rw [hy478]; exact H) | exact H
            have Ny478 := Aside0.mk hy478
            clear hy478
            by_cases c31 : x3_1.length < 2932031007402
            ·rw [if_pos c31] at H
             have LMc31 := Aside0.mk c31
             clear c31
             obtain ⟨y481, hy481⟩ : ∃ y_ : List (S25), y_ = (x3_1 ++ [(⟨(rd_T38 t450 x5_1).f1, (rd_T38 t450 x6_1).f2, x5_1, y478⟩ : S25)]) := ⟨_, rfl⟩
             replace H : (tmesisref10_Pieces.l0 k1 y481 t450 (wrap64 (x6_1 + 1)) (wrap64 (x6_1 + 1))) = some r := by first | (rw [hy481]; with_reducible exact H) | (have H2_ := (Option.bind_some _ _).symm.trans H; rw [hy481]; with_reducible exact H2_) | (have H2_ := (Option.bind_some _ _).symm.trans H; with_reducible exact H2_) | with_reducible exact H | (rw [hy481]; exact H) | exact H
             have Ny481 := Aside0.mk hy481
             clear hy481
             have H' := Aside0.mk H
             clear H
             obtain ⟨Ao32, co32, eo32⟩ := Kd.R_slice HO_4.out
             subst eo32
             have p453 : 0 ≤ (x6_1 : Int) := dt
             have q453 : x6_1 < (t450.length : Int) := dt
             obtain ⟨ad453, e453, hx453_0, hx453_1, hx453_2, hx453_3, hx453_4⟩ := at_T38 (Kd.R_reads' HO_4.out).2.2 x6_1 p453 q453
             cases e453
             replace p453 := eq_true p453
             replace q453 := eq_true q453
             try go_wp2
             replace HO_3 := Aside0.mk (Kd.S_drew HO_3.out)
             replace HO_4 := Aside0.mk (Kd.R_drew HO_4.out)
             replace HB := Aside0.mk (below_drew1 HB.out)
             have p469 : 0 ≤ (x5_1 : Int) := dt
             have q469 : x5_1 < (t450.length : Int) := dt
             obtain ⟨ad469, e469, hx469_0, hx469_1, hx469_2, hx469_3, hx469_4⟩ := at_T38 (Kd.R_reads' HO_4.out).2.2 x5_1 p469 q469
             obtain rfl : ad453 = ad469 := (by injection e469)
             replace p469 := eq_true p469
             replace q469 := eq_true q469
             have p470 : 0 ≤ (x6_1 : Int) := dt
             have q470 : x6_1 < (t450.length : Int) := dt
             obtain ⟨ad470, e470, hx470_0, hx470_1, hx470_2, hx470_3, hx470_4⟩ := at_T38 (Kd.R_reads' HO_4.out).2.2 x6_1 p470 q470
             obtain rfl : ad453 = ad470 := (by injection e470)
             replace p470 := eq_true p470
             replace q470 := eq_true q470
             have q34 : ((wrap64 (x6_1 + 1)) : Int) ≤ ((t450.length : Int) : Int) := dt
             obtain ⟨i034, hi034, _, hsz34, _⟩ := info_parts info38
             have hroom34 : t450.length ≤ co32 := (Kd.R_reads' HO_4.out).2.1
             have hC34 : Kd.C k38 _ (some ad453) t450.length t450 := (Kd.R_reads' HO_4.out).2.2
             have ql34 : (x5_1 : Int) ≤ ((wrap64 (x6_1 + 1)) : Int) := dt
             have q034 : (0 : Int) ≤ (x5_1 : Int) := dt
             have hcut34 := cut_mid (P := Tryd.prog) 23 38 .i64 .i64 Tryd.underlying23 hi034 5 hsz34 (some ad453) t450.length co32 x5_1 (wrap64 (x6_1 + 1)) q034 ql34 q34 hroom34
             have hr34 := Kd.C_mid (lo := (x5_1 : Int).toNat) (hi := ((wrap64 (x6_1 + 1)) : Int).toNat) (c := co32) hC34 (by omega) (by omega) hroom34
             obtain ⟨A34, hA34⟩ : ∃ A1, A1 = (if co32 = (x5_1 : Int).toNat then (some ad453) else ((some ad453) : Option Addr).map (·.add ((x5_1 : Int).toNat * 5))) := ⟨_, rfl⟩
             obtain ⟨c34, hc34⟩ : ∃ c1, c1 = co32 - (x5_1 : Int).toNat := ⟨_, rfl⟩
             have hy34 : y474.length = ((wrap64 (x6_1 + 1)) : Int).toNat - (x5_1 : Int).toNat := (by rw [Ny474.out, List.length_drop, List.length_take] <;> omega)
             rw [show ((t450).take ((wrap64 (x6_1 + 1)) : Int).toNat).drop (x5_1 : Int).toNat = y474 from Ny474.out.symm] at hr34
             replace hr34 : Kd.C k38 _ A34 y474.length y474 := (by rw [hA34]; exact hr34)
             rw [← hy34, ← hA34, ← hc34] at hcut34
             have HR477 := Aside0.mk hr34
             have HC477 := Aside0.mk (show y474.length ≤ c34 from by rw [hy34, hc34]; exact Nat.sub_le_sub_right (Nat.le_trans (by omega) hroom34) _)
             clear hr34 hC34 hroom34 hi034 hsz34 hc34
             have KY34 := Aside0.mk hy34
             have KA34 := Aside0.mk hA34
             clear hy34 hA34
             have KL34 := Aside0.mk (show ((wrap64 (x6_1 + 1)) : Int).toNat ≤ t450.length from by omega)
             have KM34 := Aside0.mk (show (x5_1 : Int).toNat ≤ ((wrap64 (x6_1 + 1)) : Int).toNat from by omega)
             replace q34 := eq_true q34
             refine start_ (n := 23) (S := fun w' => w'.cell? (ad453.add ((x5_1).toNat * 5)) = some (.int .i64 ((rd_T38 t450 x5_1).f0)) ∧ w'.cell? ⟨(ad453.add ((x5_1).toNat * 5)).block, (ad453.add ((x5_1).toNat * 5)).off + 1, none⟩ = some (.int .i64 ((rd_T38 t450 x5_1).f1)) ∧ w'.cell? ⟨(ad453.add ((x5_1).toNat * 5)).block, (ad453.add ((x5_1).toNat * 5)).off + 2, none⟩ = some (.int .i64 ((rd_T38 t450 x5_1).f2)) ∧ w'.cell? ⟨(ad453.add ((x5_1).toNat * 5)).block, (ad453.add ((x5_1).toNat * 5)).off + 3, none⟩ = some (.string ((rd_T38 t450 x5_1).f3)) ∧ w'.cell? ⟨(ad453.add ((x5_1).toNat * 5)).block, (ad453.add ((x5_1).toNat * 5)).off + 4, none⟩ = some (.int .i64 ((rd_T38 t450 x5_1).f4)) ∧ w'.cell? (ad453.add ((x6_1).toNat * 5)) = some (.int .i64 ((rd_T38 t450 x6_1).f0)) ∧ w'.cell? ⟨(ad453.add ((x6_1).toNat * 5)).block, (ad453.add ((x6_1).toNat * 5)).off + 1, none⟩ = some (.int .i64 ((rd_T38 t450 x6_1).f1)) ∧ w'.cell? ⟨(ad453.add ((x6_1).toNat * 5)).block, (ad453.add ((x6_1).toNat * 5)).off + 2, none⟩ = some (.int .i64 ((rd_T38 t450 x6_1).f2)) ∧ w'.cell? ⟨(ad453.add ((x6_1).toNat * 5)).block, (ad453.add ((x6_1).toNat * 5)).off + 3, none⟩ = some (.string ((rd_T38 t450 x6_1).f3)) ∧ w'.cell? ⟨(ad453.add ((x6_1).toNat * 5)).block, (ad453.add ((x6_1).toNat * 5)).off + 4, none⟩ = some (.int .i64 ((rd_T38 t450 x6_1).f4))) (ds := [20, 21]) (bm 23 0) (by kernel_rfl) rfl rfl ⟨hx469_0, hx469_1, hx469_2, hx469_3, hx469_4, hx470_0, hx470_1, hx470_2, hx470_3, hx470_4⟩ (fun hHeld => ?_); refine with_tabW tmesisref10_Pieces.tab8 tmesisref10_Pieces.bits8 (fun HT_ HW_ => ?_)
             generalize wr.drew = w33 at HO_3 HO_4 HB HR477 hx469_0 hx469_1 hx469_2 hx469_3 hx469_4 hx470_0 hx470_1 hx470_2 hx470_3 hx470_4 hHeld ⊢
             refine pv_ 0 (some 29) (bm 23 1) HT_.out ?_
             refine pv_ 1 (some 30) (bm 23 3) HT_.out ?_
             refine pv_ 2 (some 31) (bm 23 7) HT_.out ?_
             refine pv_ 3 (some 32) (bm 23 15) HT_.out ?_
             refine pv_ 4 (some 33) (bm 23 31) HT_.out ?_
             refine pv_ 6 (some 35) (bm 23 95) HT_.out ?_
             refine pv_ 7 (some 36) (bm 23 223) HT_.out ?_
             refine pv_ 8 (some 37) (bm 23 479) HT_.out ?_
             refine pv_ 9 (some 38) (bm 23 991) HT_.out ?_
             refine pv_ 11 (some 40) (bm 23 3039) HT_.out ?_
             refine pv_ 13 (some 42) (bm 23 11231) HT_.out ?_
             refine pv_ 14 (some 43) (bm 23 27615) HT_.out ?_
             refine pv_ 15 (some 44) (bm 23 60383) HT_.out ?_
             refine pv_ 16 (some 45) (bm 23 125919) HT_.out ?_
             refine pv_ 17 (some 46) (bm 23 256991) HT_.out ?_
             refine tk_ 5 (some 34) (bm 23 257023) HT_.out HW_.out hHeld ?_
             refine tk_ 10 (some 39) (bm 23 258047) HT_.out HW_.out hHeld ?_
             refine one_ (i := 12) (N := some 41) (bm 23 262143) rfl rfl (one_of HT_.out (by kernel_rfl)) (by decide) (fun K hK => ?_)
             refine Kd.R_lit_step k38 _ 38 ?hg (N := 41) ?hd (xs := ([] : List (S38))) (inner := []) (ok := fun _ => True) (okp := fun _ => True) ?hr ?hp (fun _ hk => hk) trivial (Below.refl _ _) (Nat.le_refl _) (by simp) ?_; (case hd => rfl); (case hg => rfl); (case hr => first | (go_simp; done) | (go_simp; rfl)); (case hp => exact (Reps.none _ _))
             intro v472 w35 ho36 hb hg_ hnew_
             have HS0_ := (hb.cell (World.block_lt_of_cell? _ _ (hHeld.1))).trans (hHeld.1)
             have HS1_ := (hb.cell (World.block_lt_of_cell? _ _ (hHeld.2.1))).trans (hHeld.2.1)
             have HS2_ := (hb.cell (World.block_lt_of_cell? _ _ (hHeld.2.2.1))).trans (hHeld.2.2.1)
             have HS3_ := (hb.cell (World.block_lt_of_cell? _ _ (hHeld.2.2.2.1))).trans (hHeld.2.2.2.1)
             have HS4_ := (hb.cell (World.block_lt_of_cell? _ _ (hHeld.2.2.2.2.1))).trans (hHeld.2.2.2.2.1)
             have HS5_ := (hb.cell (World.block_lt_of_cell? _ _ (hHeld.2.2.2.2.2.1))).trans (hHeld.2.2.2.2.2.1)
             have HS6_ := (hb.cell (World.block_lt_of_cell? _ _ (hHeld.2.2.2.2.2.2.1))).trans (hHeld.2.2.2.2.2.2.1)
             have HS7_ := (hb.cell (World.block_lt_of_cell? _ _ (hHeld.2.2.2.2.2.2.2.1))).trans (hHeld.2.2.2.2.2.2.2.1)
             have HS8_ := (hb.cell (World.block_lt_of_cell? _ _ (hHeld.2.2.2.2.2.2.2.2.1))).trans (hHeld.2.2.2.2.2.2.2.2.1)
             have HS9_ := (hb.cell (World.block_lt_of_cell? _ _ (hHeld.2.2.2.2.2.2.2.2.2))).trans (hHeld.2.2.2.2.2.2.2.2.2)
             clear hg_ hnew_
             (first | rw [← Ny471.out] at ho36 | (simp only [Int.reduceToNat] at ho36; rw [← Ny471.out] at ho36))
             have n0_ := Aside0.mk (Kd.S_elder' (SAt HO_3.out) (Kd.R_base ho36) hb)
             have n1_ := Aside0.mk (Kd.R_elder' (RAt HO_4.out) (Kd.R_base ho36) hb)
             have n2_ := Aside0.mk (Kd.R_lower (Kd.R_new' ho36 (Kd.R_lt (RAt HO_4.out))) (below_size (bAt HB.out)))
             have n3_ := Aside0.mk (Kd.C_below (CAt HR477.out) hb)
             have n4_ := Aside0.mk (below_step (bAt HB.out) hb)
             clear HO_3 HO_4 HR477 HB
             have HO_3 := n0_
             have HO_4 := n1_
             have HO473 := n2_
             have HR477 := n3_
             have HB := n4_
             clear n0_ n1_ n2_ n3_ n4_ hb ho36
             refine hK.out _ _ ⟨HS0_, HS1_, HS2_, HS3_, HS4_, HS5_, HS6_, HS7_, HS8_, HS9_⟩ (fun hHeld => ?_)
             clear hK K
             refine norm_ (a' := ?_) ?_ ?_
             rotate_left
             ·show Act.put _ (some 41) _ = _
              simp only [Act.put, List.setIfInBounds_toArray, List.set_cons_zero, List.set_cons_succ, i64_w, i32_w]
              rfl
             refine one_ (i := 18) (N := some 47) (bm 23 524287) rfl rfl (one_of HT_.out (by kernel_rfl)) (by decide) (fun K hK => ?_)
             refine Kd.R_append_rows_step k38 (w0 := w) w.heap.size (by rfl) (.tmp 41) (.tmp 46) 23 38 (.agg #[(.int .i64 0), (.int .i64 0), (.int .i64 0), (.string ⟨#[]⟩), (.int .i64 0)]) 48 rfl Tryd.underlying23 info38 rfl (by decide) (by omega) v472 y471 y474 _ _ _ (fun k_ => some k_ ≠ (.slice (some ad453) t450.length co32 : Value).ownBlock) (fun _ => False) rfl rfl ?aO ?aR (fun _ _ h => h) (fun _ h => h.elim) ?aF ?aB ?aS ?aL ?_
             (case aR => repeat (first | exact (CAt HR477.out) | (with_reducible refine Kd.C_alloc ?_ _) | (with_reducible refine Kd.C_drewN ?_ _) | (with_reducible refine Kd.C_drew ?_)))
             (case aB => exact (bAt HB.out))
             (case aF => exact (fun k_ hk => Kd.fresh' (Kd.R_lt (RAt HO_4.out)) k_ hk))
             (case aO => exact (RAt (Kd.R_mono HO473.out (fun _ hk => hk.2))))
             (case aS => exact (below_size (bAt HB.out)))
             (case aL => have := LMc30.out; omega)
             intro v479 w37 ho hb hg hat
             have HS0_ := cell_grown hg (hHeld.1) (by first | (rw [add_block]; exact ((HO_4.out.1 _ rfl).2)) | (show some (Addr.add _ _).block ≠ _; rw [add_block]; exact ((HO_4.out.1 _ rfl).2)) | exact ((HO_4.out.1 _ rfl).2))
             have HS1_ := cell_grown hg (hHeld.2.1) (by first | (rw [add_block]; exact ((HO_4.out.1 _ rfl).2)) | (show some (Addr.add _ _).block ≠ _; rw [add_block]; exact ((HO_4.out.1 _ rfl).2)) | exact ((HO_4.out.1 _ rfl).2))
             have HS2_ := cell_grown hg (hHeld.2.2.1) (by first | (rw [add_block]; exact ((HO_4.out.1 _ rfl).2)) | (show some (Addr.add _ _).block ≠ _; rw [add_block]; exact ((HO_4.out.1 _ rfl).2)) | exact ((HO_4.out.1 _ rfl).2))
             have HS3_ := cell_grown hg (hHeld.2.2.2.1) (by first | (rw [add_block]; exact ((HO_4.out.1 _ rfl).2)) | (show some (Addr.add _ _).block ≠ _; rw [add_block]; exact ((HO_4.out.1 _ rfl).2)) | exact ((HO_4.out.1 _ rfl).2))
             have HS4_ := cell_grown hg (hHeld.2.2.2.2.1) (by first | (rw [add_block]; exact ((HO_4.out.1 _ rfl).2)) | (show some (Addr.add _ _).block ≠ _; rw [add_block]; exact ((HO_4.out.1 _ rfl).2)) | exact ((HO_4.out.1 _ rfl).2))
             have HS5_ := cell_grown hg (hHeld.2.2.2.2.2.1) (by first | (rw [add_block]; exact ((HO_4.out.1 _ rfl).2)) | (show some (Addr.add _ _).block ≠ _; rw [add_block]; exact ((HO_4.out.1 _ rfl).2)) | exact ((HO_4.out.1 _ rfl).2))
             have HS6_ := cell_grown hg (hHeld.2.2.2.2.2.2.1) (by first | (rw [add_block]; exact ((HO_4.out.1 _ rfl).2)) | (show some (Addr.add _ _).block ≠ _; rw [add_block]; exact ((HO_4.out.1 _ rfl).2)) | exact ((HO_4.out.1 _ rfl).2))
             have HS7_ := cell_grown hg (hHeld.2.2.2.2.2.2.2.1) (by first | (rw [add_block]; exact ((HO_4.out.1 _ rfl).2)) | (show some (Addr.add _ _).block ≠ _; rw [add_block]; exact ((HO_4.out.1 _ rfl).2)) | exact ((HO_4.out.1 _ rfl).2))
             have HS8_ := cell_grown hg (hHeld.2.2.2.2.2.2.2.2.1) (by first | (rw [add_block]; exact ((HO_4.out.1 _ rfl).2)) | (show some (Addr.add _ _).block ≠ _; rw [add_block]; exact ((HO_4.out.1 _ rfl).2)) | exact ((HO_4.out.1 _ rfl).2))
             have HS9_ := cell_grown hg (hHeld.2.2.2.2.2.2.2.2.2) (by first | (rw [add_block]; exact ((HO_4.out.1 _ rfl).2)) | (show some (Addr.add _ _).block ≠ _; rw [add_block]; exact ((HO_4.out.1 _ rfl).2)) | exact ((HO_4.out.1 _ rfl).2))
             rw [← Ny478.out] at ho
             have n0_ := Aside0.mk (Kd.S_after (ok := (fun k_ => some k_ ≠ (.slice (some ad453) t450.length co32 : Value).ownBlock)) (SAt HO_3.out) hg hat)
             have n1_ := Aside0.mk (Kd.R_after (ok := (fun _ => True)) (RAt HO_4.out) hg hat)
             have n2_ := Aside0.mk (hb)
             have n3_ := Aside0.mk ((show Kd.C k38 w37 A34 y474.length y474 from by rw [Ny474.out, KA34.out]; exact Kd.C_mid (lo := (x5_1 : Int).toNat) (hi := ((wrap64 (x6_1 + 1)) : Int).toNat) (c := co32) ((Kd.R_reads' (Kd.R_after (ok := (fun _ => True)) (RAt HO_4.out) hg hat)).2.2) KM34.out KL34.out ((Kd.R_reads' (Kd.R_after (ok := (fun _ => True)) (RAt HO_4.out) hg hat)).2.1)))
             have n4_ := Aside0.mk (ho)
             clear HO_3 HO_4 HB HR477 HO473
             have HO_3 := n0_
             have HO_4 := n1_
             have HB := n2_
             have HR477 := n3_
             have HO480 := n4_
             clear n0_ n1_ n2_ n3_ n4_ ho hb hg hat
             obtain ⟨Ao38, co38, eo38⟩ := Kd.R_slice HO480.out
             (first | subst eo38 | (injection eo38 with f1_ f2_ f3_; have f4_ := f1_.symm; have f5_ := f3_.symm; clear f1_ f2_ f3_; subst f4_; subst f5_))
             refine hK.out _ _ ⟨HS0_, HS1_, HS2_, HS3_, HS4_, HS5_, HS6_, HS7_, HS8_, HS9_⟩ (fun hHeld => ?_)
             clear hK K
             refine norm_ (a' := ?_) ?_ ?_
             rotate_left
             ·show Act.put _ (some 47) _ = _
              simp only [Act.put, List.setIfInBounds_toArray, List.set_cons_zero, List.set_cons_succ, i64_w, i32_w]
              rfl
             refine pv_ 19 (some 48) (bm 23 1048575) HT_.out ?_
             refine last_ (i := 20) (N := some 49) (bm 23 2097151) rfl rfl (one_of HT_.out (by kernel_rfl)) (by decide) (fun K hK => ?_)
             refine value_ (w1 := ?_) (v := ?_) (by rfl) rfl ?_ ?_
             rotate_left 2
             ·go_simp
              constructor
              ·rfl
              ·rfl
             refine hK.out _ _ ?_
             clear hK K
             refine norm_ (a' := ?_) ?_ ?_
             rotate_left
             ·show Act.put _ (some 49) _ = _
              simp only [Act.put, List.setIfInBounds_toArray, List.set_cons_zero, List.set_cons_succ, i64_w, i32_w]
              rfl
             refine last_ (i := 21) (N := some 50) (bm 23 4194303) rfl rfl (one_of HT_.out (by kernel_rfl)) (by decide) (fun K hK => ?_)
             refine Kd.S_append_step k25 (w0 := w) w.heap.size (by rfl) (.tmp 29) (.tmp 49) 31 25 (.agg #[(.int .i64 0), (.int .i64 0), (.int .i64 0), (.slice none 0 0)]) 48 rfl Tryd.underlying31 info25 rfl (by decide) (by omega) u3 x3_1 (⟨(rd_T38 t450 x5_1).f1, (rd_T38 t450 x6_1).f2, x5_1, y478⟩ : S25) [.int .i64 ((rd_T38 t450 x5_1).f1), .int .i64 ((rd_T38 t450 x6_1).f2), .int .i64 x5_1, .slice Ao38 y478.length co38] (fun k_ => some k_ ≠ (.slice (some ad453) t450.length co32 : Value).ownBlock) (fun k_ => some k_ = (.slice Ao38 y478.length co38 : Value).ownBlock) rfl rfl ?aP (fun k_ hk_ => ((Kd.R_mono (ok' := fun k_ => ((fun k_ => some k_ ≠ (.slice (some ad453) t450.length co32 : Value).ownBlock)) k_ ∧ some k_ ≠ (u3 : Value).ownBlock) (Kd.R_apart' (HO480.out) (Kd.S_typed HO_3.out) (by decide)) (fun k_ hk => ⟨hk.1, hk.2⟩))).1 k_ hk_.symm) ?aF ?aO ?aB ?aS ?aL ?_
             (case aP => exact k25_mkM _ _ _ (⟨(rd_T38 t450 x5_1).f1, (rd_T38 t450 x6_1).f2, x5_1, y478⟩ : S25) (Kd.R_mono (Kd.R_tight rfl (Kd.R_mono (ok' := fun k_ => ((fun k_ => some k_ ≠ (.slice (some ad453) t450.length co32 : Value).ownBlock)) k_ ∧ some k_ ≠ (u3 : Value).ownBlock) (Kd.R_apart' (HO480.out) (Kd.S_typed HO_3.out) (by decide)) (fun k_ hk => ⟨hk.1, hk.2⟩))) (fun _ h_ => h_)))
             (case aB => exact (bAt HB.out))
             (case aF => exact (fun k_ hk => Kd.fresh' (Kd.R_lt (RAt HO_4.out)) k_ hk))
             (case aO => exact (SAt (Kd.S_mono HO_3.out (fun k_ hk => ⟨hk.1, fun e_ => hk.2 e_⟩))))
             (case aS => exact (below_size (bAt HB.out)))
             (case aL => have := LMc31.out; omega)
             intro v482 w39 ho hb hg hat
             rw [← Ny481.out] at ho
             have n0_ := Aside0.mk (Kd.R_over' (RAt HO_4.out) (Kd.S_typed (SAt HO_3.out)) (by decide) hg)
             have n1_ := Aside0.mk (hb)
             have n2_ := Aside0.mk ((show Kd.C k38 w39 A34 y474.length y474 from by rw [Ny474.out, KA34.out]; exact Kd.C_mid (lo := (x5_1 : Int).toNat) (hi := ((wrap64 (x6_1 + 1)) : Int).toNat) (c := co32) ((Kd.R_reads' (Kd.R_over' (RAt HO_4.out) (Kd.S_typed (SAt HO_3.out)) (by decide) hg)).2.2) KM34.out KL34.out ((Kd.R_reads' (Kd.R_over' (RAt HO_4.out) (Kd.S_typed (SAt HO_3.out)) (by decide) hg)).2.1)))
             have n3_ := Aside0.mk (ho)
             clear HO_4 HB HR477 HO_3 HO480
             have HO_4 := n0_
             have HB := n1_
             have HR477 := n2_
             have HO483 := n3_
             clear n0_ n1_ n2_ n3_ ho hb hg hat
             refine hK.out _ _ ?_
             clear hK K
             refine norm_ (a' := ?_) ?_ ?_
             rotate_left
             ·show Act.put _ (some 50) _ = _
              simp only [Act.put, List.setIfInBounds_toArray, List.set_cons_zero, List.set_cons_succ, i64_w, i32_w]
              rfl
             refine pv_ 22 (some 3) (bm 23 8388607) HT_.out ?_
             refine done_ (done_of HT_.out (by kernel_rfl)) ?_
             try go_wp2
             go_roundg k1
             case measure => have := HK1.out; omega
             case rel => exact ⟨(y481), (wrap64 (x6_1 + 1)), (wrap64 (x6_1 + 1)), sR, sR, H', ⟨by have := HK1.out; omega⟩, ⟨SAt HO483.out⟩, ⟨RAt (Kd.R_mono HO_4.out (fun _ hk => trivial))⟩, ⟨bAt HB.out⟩⟩
            ·exact nB H c31
           ·exact nB H c30
          ·exact nB H c29
         ·exact nB H c28
        ·exact nB H c26
       ·exact nB H c25
      ·rw [if_neg c24] at H
       obtain ⟨c24b0, c24b1⟩ := neB c24
       have H' := Aside0.mk H
       clear H
       obtain ⟨Ao40, co40, eo40⟩ := Kd.R_slice HO_4.out
       subst eo40
       have p453 : 0 ≤ (x6_1 : Int) := dt
       have q453 : x6_1 < (t450.length : Int) := dt
       obtain ⟨ad453, e453, hx453_0, hx453_1, hx453_2, hx453_3, hx453_4⟩ := at_T38 (Kd.R_reads' HO_4.out).2.2 x6_1 p453 q453
       cases e453
       replace p453 := eq_true p453
       replace q453 := eq_true q453
       go_wp2
       go_roundg k1
       case measure => have := HK1.out; omega
       case rel => exact ⟨(x3_1), (x5_1), (wrap64 (x6_1 + 1)), sR, sR, H', ⟨by have := HK1.out; omega⟩, ⟨SAt HO_3.out⟩, ⟨RAt HO_4.out⟩, ⟨bAt HB.out⟩⟩
    ·exact nB H c7
   ·rw [if_neg c6] at H
    have c6b0 := decide_eq_false c6
    clear c6
    obtain rfl := Option.some.inj H
    obtain ⟨Ao41, co41, eo41⟩ := Kd.R_slice HO_4.out
    subst eo41
    go_wp2
    go_ret
    exact ⟨_, eR, SAt (Kd.S_mono HO_3.out (fun _ hk => trivial)), bAt HB.out⟩
end Go.Proofs.YtpkklbdclghcfaaDoor.P
