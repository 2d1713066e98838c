/- Part of the proof: what the theorem needs of this text. -/
import Derived.Test.YtpkklbdclghcfaaDoorKHG
import Derived.Test.YtpkklbdclghcfaaDoorKPx0
import Derived.Test.YtpkklbdclghcfaaDoorKPx3
import Derived.Test.YtpkklbdclghcfaaDoorKPx9
namespace Go.Proofs.YtpkklbdclghcfaaDoor.P
open Go.RowKit Go.Proofs.YtpkklbdclghcfaaDoorW.PrintWords Go.Proofs.YtpkklbdclghcfaaDoorW.PrintLast Go.Proofs.YtpkklbdclghcfaaDoorW.PrintMore
attribute [local go_sem] max2_int min2_int max_two min_two max_three min_three max_four min_four   -- for this text's walks alone
set_option linter.unusedVariables false
set_option linter.unusedSimpArgs false
def split_Pieces.l0 : Nat → List (S25) → Int → List (List (S38)) → Int → Int → Option ((List (S25)))
 | 0, _, _, _, _, _ => none
 | k + 1, x3, x4, x9, x10, x11 => if x11 < x10 then (if 0 ≤ x11 then (if x11 < (x9.length : Int) then (if 0 < ((rd_L4 x9 x11).length : Int) then (if 0 ≤ (wrap64 (((rd_L4 x9 x11).length : Int) - 1)) then (if (wrap64 (((rd_L4 x9 x11).length : Int) - 1)) < ((rd_L4 x9 x11).length : Int) then (if x3.length < 2932031007402 then (split_Pieces.l0 k (x3 ++ [(⟨(rd_T38 (rd_L4 x9 x11) 0).f1, (rd_T38 (rd_L4 x9 x11) (wrap64 (((rd_L4 x9 x11).length : Int) - 1))).f2, x4, rd_L4 x9 x11⟩ : S25)]) (wrap64 (x4 + ((rd_L4 x9 x11).length : Int))) x9 x10 (wrap64 (x11 + 1))) else (none)) else (none)) else (none)) else (none)) else (none)) else (none)) else (some x3)
def split_Pieces.f (k : Nat) (l0 : List Int) : Option ((List (S25))) := (lex_All.f k l0).bind fun t220 => ((api_Token_25.f k t220).bind fun t223 => (split_Pieces.l0 k ([] : List (S25)) 0 t223 (t223.length : Int) 0))
theorem split_Pieces.mono_l : ∀ k, (∀ y0 y1 y2 y3 y4, LeO (split_Pieces.l0 k y0 y1 y2 y3 y4) (split_Pieces.l0 (k + 1) y0 y1 y2 y3 y4))
 | 0 => fun _ _ _ _ _ r h => by simp [split_Pieces.l0] at h
 | k + 1 => by
  have ih0 := split_Pieces.mono_l k
  ·intro y0 y1 y2 y3 y4
   unfold split_Pieces.l0
   repeat' first
   | (with_reducible exact ih0 _ _ _ _ _)
   | (with_reducible exact api_Token_25.mono _ _)
   | (with_reducible exact lex_All.mono _ _)
   | (with_reducible exact LeO.refl _)
   | (with_reducible exact LeO.none _)
   | (with_reducible refine LeO.ite ?_ ?_)
   | (with_reducible refine LeO.bind ?_ (fun _ => ?_))
   | exact ih0 _ _ _ _ _
   | exact api_Token_25.mono _ _
   | exact lex_All.mono _ _
   | exact LeO.none _
   | refine LeO.ite ?_ ?_
   | refine LeO.bind ?_ (fun _ => ?_)
theorem split_Pieces.mono : ∀ a0 k, LeO (split_Pieces.f k a0) (split_Pieces.f (k + 1) a0) := by
 intro a0 k
 have ih0 := split_Pieces.mono_l k
 unfold split_Pieces.f
 repeat' first
   | (with_reducible exact ih0 _ _ _ _ _)
   | (with_reducible exact api_Token_25.mono _ _)
   | (with_reducible exact lex_All.mono _ _)
   | (with_reducible exact LeO.refl _)
   | (with_reducible exact LeO.none _)
   | (with_reducible refine LeO.ite ?_ ?_)
   | (with_reducible refine LeO.bind ?_ (fun _ => ?_))
   | exact ih0 _ _ _ _ _
   | exact api_Token_25.mono _ _
   | exact lex_All.mono _ _
   | exact LeO.none _
   | refine LeO.ite ?_ ?_
   | refine LeO.bind ?_ (fun _ => ?_)
def split_Pieces.T6 : Bool × List (List Nat × List Nat) := (true, [([], []), ([], []), ([1], [1]), ([2], [2]), ([3], [3]), ([], []), ([], []), ([6], [6]), ([7], [7]), ([5, 8], [5, 8]), ([9], [9]), ([10], [10]), ([], []), ([], []), ([4, 11, 12, 13], [4, 11, 12, 13]), ([14], [14]), ([0, 15], [0, 15]), ([16, 16, 0, 1, 2, 3, 4, 5, 6, 7, 8, 9, 10, 11, 12, 13, 14, 15, 16], [0, 16])])
def split_Pieces.B6 : List Nat := [0, 0, 2, 6, 14, 0, 0, 64, 192, 480, 992, 2016, 0, 0, 16382, 32766, 65535, 131071]
theorem split_Pieces.tab6 : rtab .any (opsOf Tryd.f13 6) = split_Pieces.T6 := by kernel_rfl
theorem split_Pieces.bits6 : waitsOk split_Pieces.T6.2 split_Pieces.B6 = true := by kernel_rfl
set_option maxHeartbeats 8000000 in
set_option maxRecDepth 100000 in
theorem split_Pieces.calls (k : Nat) (A0 : Option Addr) (c0 : Nat) (l0 : List Int) (r : List (S25)) (w : World) (hG : Gl w) (hr0 : Kd.C (Kd.int .u8) w A0 l0.length l0) (hc0 : l0.length ≤ c0) (h : split_Pieces.f k l0 = some r) :
  Calls Tryd.prog 13 #[.slice A0 l0.length c0] w fun e w' => ∃ v0_ : Value, e = .returned (v0_) ∧ Kd.N k25 25 w' w.heap.size (fun k_ => (w.heap.size ≤ k_)) v0_ r ∧ Below w.heap.size w w' := by
 have hu25 := Tryd.underlying25
 have HR0 := Aside0.mk hr0
 have HC0 := Aside0.mk hc0
 clear hr0 hc0
 have HB := Aside0.mk (Below.refl w.heap.size w)
 have HG := Aside0.mk hG
 clear hG
 have H : ((lex_All.f k l0).bind fun t220 => ((api_Token_25.f k t220).bind fun t223 => (split_Pieces.l0 k ([] : List (S25)) 0 t223 (t223.length : Int) 0))) = some r := h
 clear h
 replace H := Option.bind_eq_some_iff.mp H
 obtain ⟨t220, A20, H⟩ := H
 replace H : ((api_Token_25.f k t220).bind fun t223 => (split_Pieces.l0 k ([] : List (S25)) 0 t223 (t223.length : Int) 0)) = some r := H
 have A2 := Aside0.mk A20
 clear A20
 replace H := Option.bind_eq_some_iff.mp H
 obtain ⟨t223, A30, H⟩ := H
 replace H : (split_Pieces.l0 k ([] : List (S25)) 0 t223 (t223.length : Int) 0) = some r := H
 have A3 := Aside0.mk A30
 clear A30
 have H' := Aside0.mk H
 clear H
 go_enter Tryd.func13, Tryd.ntmps13
 go_wp2_with (first | ((with_reducible refine gate_callee (f := 19) rfl ?_); refine goesL_ (some 8) rfl rfl Tryd.func19 (by kernel_rfl) rfl #[.slice A0 l0.length c0] rfl (by (try simp only [List.map_toArray, List.map_cons, List.map_nil]); first | done | rfl | (simp only [List.length_drop, List.length_take]; rfl)) ?_; (with_reducible refine (lex_All.calls k _ _ l0 t220 _ ?side1 ?side2 ?side3 A2.out).mono ?_); (case side1 => exact Gl.below HG.out (by repeat (first | (with_reducible first | exact HB.out | apply below_alloc | apply pw_below_drewN | apply below_drew1) | exact HB.out))); (case side2 => repeat (first | exact HR0.out | (with_reducible refine Kd.C_alloc ?_ _) | (with_reducible refine Kd.C_drewN ?_ _) | (with_reducible refine Kd.C_drew ?_))); (case side3 => exact HC0.out); rintro e w4 ⟨v221, rfl, ho0, hb⟩; refine ⟨_, rfl, ?_⟩; have n0_ := Aside0.mk (Kd.Q_lower (Kd.Q_newM (M := fun k_ => (w.heap.size ≤ k_)) ho0 (below_size (by repeat (first | (with_reducible first | exact HB.out | apply below_alloc | apply pw_below_drewN | apply below_drew1) | exact HB.out))) (fun k_ h_ => h_)) (below_size (by repeat (first | (with_reducible first | exact HB.out | apply below_alloc | apply pw_below_drewN | apply below_drew1) | exact HB.out)))); have n1_ := Aside0.mk (below_step (by repeat (first | (with_reducible first | exact HB.out | apply below_alloc | apply pw_below_drewN | apply below_drew1) | exact HB.out)) hb); clear HB; have HO222 := n0_; have HB := n1_; clear n0_ n1_; (try clear hb); (try clear hb2); (try clear hk); (try clear hi); (try clear ho0); obtain ⟨Ao5, co5, eo5, _⟩ := Kd.Q_slice HO222.out; subst eo5) | ((with_reducible refine gate_callee (f := 25) rfl ?_); refine goesL_ (some 9) rfl rfl Tryd.func25 (by kernel_rfl) rfl #[.slice Ao5 t220.length co5, .func (.func 26) #[] #[]] rfl (by (try simp only [List.map_toArray, List.map_cons, List.map_nil]); first | done | rfl | (simp only [List.length_drop, List.length_take]; rfl)) ?_; (with_reducible refine (api_Token_25.calls k (fun k_ => some k_ = (.slice Ao5 t220.length co5 : Value).ownBlock) _ _ t220 t223 _ ?side1 A3.out).mono ?_); (case side1 => exact Kd.Q_V (Kd.Q_tight rfl (HO222.out))); rintro e w6 ⟨v224, rfl, ho0, hb⟩; refine ⟨_, rfl, ?_⟩; have n0_ := Aside0.mk (Kd.Q_below (by (with_reducible repeat (first | apply Kd.Q_alloc | apply Kd.Q_drewN | apply Kd.Q_drew)); exact HO222.out) hb); have n1_ := Aside0.mk (Kd.N_lower (Kd.N_mono (ok' := fun k_ => (w.heap.size ≤ k_)) ho0 (fun k_ hk_ => Or.elim hk_ (fun hs_ => ((HO222.out).1 k_ hs_.symm).1) (fun hn_ => (Nat.le_trans (below_size (by repeat (first | (with_reducible first | exact HB.out | apply below_alloc | apply pw_below_drewN | apply below_drew1) | exact HB.out))) hn_)))) (below_size (by repeat (first | (with_reducible first | exact HB.out | apply below_alloc | apply pw_below_drewN | apply below_drew1) | exact HB.out)))); have n2_ := Aside0.mk (below_step (by repeat (first | (with_reducible first | exact HB.out | apply below_alloc | apply pw_below_drewN | apply below_drew1) | exact HB.out)) hb); clear HO222; clear HB; have HO222 := n0_; have HO225 := n1_; have HB := n2_; clear n0_ n1_ n2_; (try clear hb); (try clear hb2); (try clear hk); (try clear hi); (try clear ho0); obtain ⟨Ao7, co7, eo7⟩ := Kd.N_slice HO225.out; subst eo7))
 go_loopg [3, 4, 11] k (fun kq v3 v4 v11 w' => ∃ (x3_1 : List (S25)) (x4_1 : Int) (x11_1 : Int), v4 = .int .i64 x4_1 ∧ v11 = .int .i64 x11_1 ∧ Aside0 (split_Pieces.l0 kq x3_1 x4_1 t223 (t223.length : Int) x11_1 = some r) ∧ Aside0 (kq ≤ k) ∧ Aside0 (Kd.N k25 25 w' w.heap.size (fun k_ => (w.heap.size ≤ k_) ∧ some k_ ≠ ((.slice Ao7 t223.length co7) : Value).ownBlock) v3 x3_1) ∧ Aside0 (Kd.N (Kd.slice 38 k38) 23 w' w.heap.size (fun k_ => (w.heap.size ≤ k_) ∧ some k_ ≠ (v3 : Value).ownBlock) (.slice Ao7 t223.length co7) t223) ∧ Aside0 (Below w.heap.size w w'))
 case atStart => exact ⟨(([] : List (S25))), (0), (0), (by first | rfl | (simp; done) | (simp [*]; done)), (by first | rfl | (simp; done) | (simp [*]; done)), H', ⟨Nat.le_refl _⟩, ⟨by first | exact Kd.S_nil _ _ _ _ _ | exact Kd.N_nil _ _ _ _ _ | exact Kd.V_nil _ _ _ _ _ | exact Kd.Q_nil _ _ _ _ _ | exact Kd.R_nil _ _ _ _ _⟩, ⟨by (with_reducible repeat (first | apply Kd.N_alloc | apply Kd.N_drewN | apply Kd.N_drew)); exact Kd.N_mono HO225.out (fun _ hk => ⟨hk, (by simp [Value.ownBlock])⟩)⟩, ⟨by repeat (first | (with_reducible first | exact HB.out | apply below_alloc | apply pw_below_drewN | apply below_drew1) | exact HB.out)⟩⟩
 case round =>
  clear H'
  try clear c1
  try clear c2
  try clear p2
  obtain ⟨x3_1, x4_1, x11_1, rfl, rfl, HA, HK1, HO_3, HO_9, HB⟩ := hrel
  cases gk with
  | zero => exact absurd HA.out (by simp [split_Pieces.l0])
  | succ k1 =>
   have H := HA.out
   clear HA
   simp only [split_Pieces.l0] at H
   by_cases c8 : x11_1 < (t223.length : Int)
   ·rw [if_pos c8] at H
    have c8b0 : decide (x11_1 < (t223.length : Int)) = true := decide_eq_true c8
    clear c8
    by_cases c9 : 0 ≤ x11_1
    ·rw [if_pos c9] at H
     have c9b0 : decide (0 ≤ x11_1) = true := decide_eq_true c9
     clear c9
     by_cases c10 : x11_1 < (t223.length : Int)
     ·rw [if_pos c10] at H
      have c10b0 : decide (x11_1 < (t223.length : Int)) = true := decide_eq_true c10
      clear c10
      by_cases c11 : 0 < ((rd_L4 t223 x11_1).length : Int)
      ·rw [if_pos c11] at H
       have c11b0 : decide (0 < ((rd_L4 t223 x11_1).length : Int)) = true := decide_eq_true c11
       have c11b1 : decide (0 < (rd_L4 t223 x11_1).length) = true := decide_eq_true (by omega)
       clear c11
       obtain ⟨ji12, hji12⟩ : ∃ j_ : Int, (wrap64 (((rd_L4 t223 x11_1).length : Int) - 1)) = j_ := ⟨_, rfl⟩
       replace H : (if 0 ≤ (ji12) then (if (ji12) < ((rd_L4 t223 x11_1).length : Int) then (if x3_1.length < 2932031007402 then (split_Pieces.l0 k1 (x3_1 ++ [(⟨(rd_T38 (rd_L4 t223 x11_1) 0).f1, (rd_T38 (rd_L4 t223 x11_1) (ji12)).f2, x4_1, rd_L4 t223 x11_1⟩ : S25)]) (wrap64 (x4_1 + ((rd_L4 t223 x11_1).length : Int))) t223 (t223.length : Int) (wrap64 (x11_1 + 1))) else (none)) else (none)) else (none)) = some r := by first | (rw [hji12] at H; exact H) | (simp only [hji12] at H ⊢; exact H)
       have hji12w : (IntKind.i64.wrap (((rd_L4 t223 x11_1).length : Int) - 1)) = ji12 := (i64_w _).trans hji12
       by_cases c13 : 0 ≤ (ji12)
       ·rw [if_pos c13] at H
        have c13b0 : decide (0 ≤ (ji12)) = true := decide_eq_true c13
        clear c13
        by_cases c14 : (ji12) < ((rd_L4 t223 x11_1).length : Int)
        ·rw [if_pos c14] at H
         have c14b0 : decide ((ji12) < ((rd_L4 t223 x11_1).length : Int)) = true := decide_eq_true c14
         clear c14
         by_cases c15 : x3_1.length < 2932031007402
         ·rw [if_pos c15] at H
          have LMc15 := Aside0.mk c15
          clear c15
          obtain ⟨y229, hy229⟩ : ∃ y_ : List (S25), y_ = (x3_1 ++ [(⟨(rd_T38 (rd_L4 t223 x11_1) 0).f1, (rd_T38 (rd_L4 t223 x11_1) (ji12)).f2, x4_1, rd_L4 t223 x11_1⟩ : S25)]) := ⟨_, rfl⟩
          replace H : (split_Pieces.l0 k1 y229 (wrap64 (x4_1 + ((rd_L4 t223 x11_1).length : Int))) t223 (t223.length : Int) (wrap64 (x11_1 + 1))) = some r := by first | (rw [hy229]; with_reducible exact H) | (have H2_ := (Option.bind_some _ _).symm.trans H; rw [hy229]; with_reducible exact H2_) | (have H2_ := (Option.bind_some _ _).symm.trans H; with_reducible exact H2_) | with_reducible exact H | (rw [hy229]; exact H) | exact H
          have Ny229 := Aside0.mk hy229
          clear hy229
          have H' := Aside0.mk H
          clear H
          have p226 : 0 ≤ (x11_1 : Int) := of_decide_eq_true (by first | (with_reducible assumption) | assumption)
          have q226 : x11_1 < (t223.length : Int) := of_decide_eq_true (by first | (with_reducible assumption) | assumption)
          obtain ⟨ad226, A226_0, c226_0, e226, hx226_0, hl226_0, hi226_0⟩ := at_L4 (Kd.N_reads' HO_9.out).2.2 x11_1 p226 q226
          cases e226
          obtain ⟨ce226, hce226, hMe226, hcc226⟩ := Kd.N_get HO_9.out [] x11_1 p226 (by first | exact q226 | exact of_decide_eq_true (by first | (with_reducible assumption) | assumption) | (have e_ := (Kd.N_reads' HO_9.out).1; omega))
          obtain ⟨ua226_0, uc226_0, rfl, ul226_0, ge226_0⟩ := Kd.FK_slice_open hMe226
          have hv226_0 := hcc226 0 _ rfl
          rw [Nat.add_zero, show ((Kd.slice 38 k38)).sz = 1 from rfl, Nat.mul_one] at hv226_0
          replace hv226_0 := Option.some.inj (hv226_0.symm.trans hx226_0)
          injection hv226_0 with hva_ hvn_ hvc_
          rw [hva_] at ge226_0
          rw [hvc_] at ul226_0
          have HL226_0 := Aside0.mk (show Kd.V k38 38 _ w.heap.size _ _ (rd_L4 t223 x11_1) from Kd.V_mk ul226_0 ge226_0)
          clear hva_ hvn_ hvc_ ge226_0 ul226_0
          clear hcc226 hce226
          have HR226_0 := Aside0.mk hi226_0
          have HC226_0 := Aside0.mk hl226_0
          clear hi226_0 hl226_0
          replace p226 := eq_true p226
          replace q226 := eq_true q226
          try go_wp2
          have n0_ := Aside0.mk (Kd.N_drew HO_3.out)
          have n1_ := Aside0.mk (Kd.N_drew HO_9.out)
          have n2_ := Aside0.mk (Kd.V_drew HL226_0.out)
          have n3_ := Aside0.mk (Kd.C_drew HR226_0.out)
          have n4_ := Aside0.mk (below_drew1 HB.out)
          clear HO_3
          clear HO_9
          clear HL226_0
          clear HR226_0
          clear HB
          have HO_3 := n0_
          have HO_9 := n1_
          have HL226_0 := n2_
          have HR226_0 := n3_
          have HB := n4_
          clear n0_ n1_ n2_ n3_ n4_
          have p227 : 0 ≤ (0 : Int) := (by omega)
          have q227 : 0 < ((rd_L4 t223 x11_1).length : Int) := of_decide_eq_true (by first | (with_reducible assumption) | assumption)
          obtain ⟨ad227, e227, hx227_0, hx227_1, hx227_2, hx227_3, hx227_4⟩ := at_T38 (Kd.V_reads' HL226_0.out).2.2 0 p227 q227
          cases e227
          have qi227 : (0 < (rd_L4 t223 x11_1).length) = True := eq_true (by omega)
          (try rw [show ((0 : Int)).toNat = 0 from rfl] at hx227_0)
          (try rw [show 0 * 5 = 0 from rfl] at hx227_0)
          (try rw [Addr.add_zero'] at hx227_0)
          (try rw [show ((0 : Int)).toNat = 0 from rfl] at hx227_1)
          (try rw [show 0 * 5 = 0 from rfl] at hx227_1)
          (try rw [Addr.add_zero'] at hx227_1)
          (try rw [show ((0 : Int)).toNat = 0 from rfl] at hx227_2)
          (try rw [show 0 * 5 = 0 from rfl] at hx227_2)
          (try rw [Addr.add_zero'] at hx227_2)
          (try rw [show ((0 : Int)).toNat = 0 from rfl] at hx227_3)
          (try rw [show 0 * 5 = 0 from rfl] at hx227_3)
          (try rw [Addr.add_zero'] at hx227_3)
          (try rw [show ((0 : Int)).toNat = 0 from rfl] at hx227_4)
          (try rw [show 0 * 5 = 0 from rfl] at hx227_4)
          (try rw [Addr.add_zero'] at hx227_4)
          replace p227 := eq_true p227
          replace q227 := eq_true q227
          have p228 : 0 ≤ ((ji12) : Int) := of_decide_eq_true (by first | (with_reducible assumption) | assumption)
          have q228 : (ji12) < ((rd_L4 t223 x11_1).length : Int) := of_decide_eq_true (by first | (with_reducible assumption) | assumption)
          obtain ⟨ad228, e228, hx228_0, hx228_1, hx228_2, hx228_3, hx228_4⟩ := at_T38 (Kd.V_reads' HL226_0.out).2.2 (ji12) p228 q228
          obtain rfl : ad227 = ad228 := (by injection e228)
          replace p228 := eq_true p228
          replace q228 := eq_true q228
          refine start_ (n := 18) (S := fun w' => w'.cell? ad227 = some (.int .i64 ((rd_T38 (rd_L4 t223 x11_1) 0).f0)) ∧ w'.cell? ⟨ad227.block, ad227.off + 1, none⟩ = some (.int .i64 ((rd_T38 (rd_L4 t223 x11_1) 0).f1)) ∧ w'.cell? ⟨ad227.block, ad227.off + 2, none⟩ = some (.int .i64 ((rd_T38 (rd_L4 t223 x11_1) 0).f2)) ∧ w'.cell? ⟨ad227.block, ad227.off + 3, none⟩ = some (.string ((rd_T38 (rd_L4 t223 x11_1) 0).f3)) ∧ w'.cell? ⟨ad227.block, ad227.off + 4, none⟩ = some (.int .i64 ((rd_T38 (rd_L4 t223 x11_1) 0).f4)) ∧ w'.cell? (ad227.add (((ji12)).toNat * 5)) = some (.int .i64 ((rd_T38 (rd_L4 t223 x11_1) (ji12)).f0)) ∧ w'.cell? ⟨(ad227.add (((ji12)).toNat * 5)).block, (ad227.add (((ji12)).toNat * 5)).off + 1, none⟩ = some (.int .i64 ((rd_T38 (rd_L4 t223 x11_1) (ji12)).f1)) ∧ w'.cell? ⟨(ad227.add (((ji12)).toNat * 5)).block, (ad227.add (((ji12)).toNat * 5)).off + 2, none⟩ = some (.int .i64 ((rd_T38 (rd_L4 t223 x11_1) (ji12)).f2)) ∧ w'.cell? ⟨(ad227.add (((ji12)).toNat * 5)).block, (ad227.add (((ji12)).toNat * 5)).off + 3, none⟩ = some (.string ((rd_T38 (rd_L4 t223 x11_1) (ji12)).f3)) ∧ w'.cell? ⟨(ad227.add (((ji12)).toNat * 5)).block, (ad227.add (((ji12)).toNat * 5)).off + 4, none⟩ = some (.int .i64 ((rd_T38 (rd_L4 t223 x11_1) (ji12)).f4))) (ds := [15, 16]) #[false, false, false, false, false, false, false, false, false, false, false, false, false, false, false, false, false, false] (by kernel_rfl) rfl rfl ⟨hx227_0, hx227_1, hx227_2, hx227_3, hx227_4, hx228_0, hx228_1, hx228_2, hx228_3, hx228_4⟩ (fun hHeld => ?_); refine with_tabW split_Pieces.tab6 split_Pieces.bits6 (fun HT_ HW_ => ?_)
          generalize wr.drew = w16 at HO_3 HO_9 HL226_0 HR226_0 HB hx227_0 hx227_1 hx227_2 hx227_3 hx227_4 hx228_0 hx228_1 hx228_2 hx228_3 hx228_4 hHeld ⊢
          refine pure_ (i := 0) (N := some 15) (v := ?_) (a' := ?_) #[true, false, false, false, false, false, false, false, false, false, false, false, false, false, false, false, false, false] rfl rfl (any_of HT_.out (by kernel_rfl)) (fun _ _ _ h => h) (Or.inl ⟨by rfl, ?_⟩) ?_ ?_
          rotate_left
          ·intro w'
           go_simp
           with_reducible rfl
          rotate_left
          ·simp only [Act.put, List.setIfInBounds_toArray, List.set_cons_zero, List.set_cons_succ, i64_w, i32_w]
           rfl
          refine pure_ (i := 1) (N := some 16) (v := ?_) (a' := ?_) #[true, true, false, false, false, false, false, false, false, false, false, false, false, false, false, false, false, false] rfl rfl (any_of HT_.out (by kernel_rfl)) (fun _ _ _ h => h) (Or.inl ⟨by rfl, ?_⟩) ?_ ?_
          rotate_left
          ·intro w'
           go_simp
           with_reducible rfl
          rotate_left
          ·simp only [Act.put, List.setIfInBounds_toArray, List.set_cons_zero, List.set_cons_succ, i64_w, i32_w]
           rfl
          refine pure_ (i := 2) (N := some 17) (v := ?_) (a' := ?_) #[true, true, true, false, false, false, false, false, false, false, false, false, false, false, false, false, false, false] rfl rfl (any_of HT_.out (by kernel_rfl)) (fun _ _ _ h => h) (Or.inl ⟨by rfl, ?_⟩) ?_ ?_
          rotate_left
          ·intro w'
           go_simp
           with_reducible rfl
          rotate_left
          ·simp only [Act.put, List.setIfInBounds_toArray, List.set_cons_zero, List.set_cons_succ, i64_w, i32_w]
           rfl
          refine pure_ (i := 3) (N := some 18) (v := ?_) (a' := ?_) #[true, true, true, true, false, false, false, false, false, false, false, false, false, false, false, false, false, false] rfl rfl (any_of HT_.out (by kernel_rfl)) (fun _ _ _ h => h) (Or.inl ⟨by rfl, ?_⟩) ?_ ?_
          rotate_left
          ·intro w'
           go_simp
           with_reducible rfl
          rotate_left
          ·simp only [Act.put, List.setIfInBounds_toArray, List.set_cons_zero, List.set_cons_succ, i64_w, i32_w]
           rfl
          refine pure_ (i := 5) (N := some 20) (v := ?_) (a' := ?_) #[true, true, true, true, false, true, false, false, false, false, false, false, false, false, false, false, false, false] rfl rfl (any_of HT_.out (by kernel_rfl)) (fun _ _ _ h => h) (Or.inl ⟨by rfl, ?_⟩) ?_ ?_
          rotate_left
          ·intro w'
           go_simp
           with_reducible rfl
          rotate_left
          ·simp only [Act.put, List.setIfInBounds_toArray, List.set_cons_zero, List.set_cons_succ, i64_w, i32_w]
           rfl
          refine pure_ (i := 6) (N := some 21) (v := ?_) (a' := ?_) #[true, true, true, true, false, true, true, false, false, false, false, false, false, false, false, false, false, false] rfl rfl (any_of HT_.out (by kernel_rfl)) (fun _ _ _ h => h) (Or.inl ⟨by rfl, ?_⟩) ?_ ?_
          rotate_left
          ·intro w'
           go_simp
           with_reducible rfl
          rotate_left
          ·simp only [Act.put, List.setIfInBounds_toArray, List.set_cons_zero, List.set_cons_succ, i64_w, i32_w]
           rfl
          refine pure_ (i := 7) (N := some 22) (v := ?_) (a' := ?_) #[true, true, true, true, false, true, true, true, false, false, false, false, false, false, false, false, false, false] rfl rfl (any_of HT_.out (by kernel_rfl)) (fun _ _ _ h => h) (Or.inl ⟨by rfl, ?_⟩) ?_ ?_
          rotate_left
          ·intro w'
           go_simp
           with_reducible rfl
          rotate_left
          ·simp only [Act.put, List.setIfInBounds_toArray, List.set_cons_zero, List.set_cons_succ, i64_w, i32_w]
           rfl
          refine pure_ (i := 8) (N := some 23) (v := ?_) (a' := ?_) #[true, true, true, true, false, true, true, true, true, false, false, false, false, false, false, false, false, false] rfl rfl (any_of HT_.out (by kernel_rfl)) (fun _ _ _ h => h) (Or.inl ⟨by rfl, ?_⟩) ?_ ?_
          rotate_left
          ·intro w'
           go_simp
           with_reducible rfl
          rotate_left
          ·simp only [Act.put, List.setIfInBounds_toArray, List.set_cons_zero, List.set_cons_succ, i64_w, i32_w]
           rfl
          refine pure_ (i := 9) (N := some 24) (v := ?_) (a' := ?_) #[true, true, true, true, false, true, true, true, true, true, false, false, false, false, false, false, false, false] rfl rfl (any_of HT_.out (by kernel_rfl)) (fun _ _ _ h => h) (Or.inl ⟨by rfl, ?_⟩) ?_ ?_
          rotate_left
          ·intro w'
           go_simp
           with_reducible rfl
          rotate_left
          ·simp only [Act.put, List.setIfInBounds_toArray, List.set_cons_zero, List.set_cons_succ, i64_w, i32_w]
           rfl
          refine pure_ (i := 10) (N := some 25) (v := ?_) (a' := ?_) #[true, true, true, true, false, true, true, true, true, true, true, false, false, false, false, false, false, false] rfl rfl (any_of HT_.out (by kernel_rfl)) (fun _ _ _ h => h) (Or.inl ⟨by rfl, ?_⟩) ?_ ?_
          rotate_left
          ·intro w'
           go_simp
           with_reducible rfl
          rotate_left
          ·simp only [Act.put, List.setIfInBounds_toArray, List.set_cons_zero, List.set_cons_succ, i64_w, i32_w]
           rfl
          refine pure_ (i := 12) (N := some 27) (v := ?_) (a' := ?_) #[true, true, true, true, false, true, true, true, true, true, true, false, true, false, false, false, false, false] rfl rfl (any_of HT_.out (by kernel_rfl)) (fun _ _ _ h => h) (Or.inl ⟨by rfl, ?_⟩) ?_ ?_
          rotate_left
          ·intro w'
           go_simp
           with_reducible rfl
          rotate_left
          ·simp only [Act.put, List.setIfInBounds_toArray, List.set_cons_zero, List.set_cons_succ, i64_w, i32_w]
           rfl
          refine pure_ (i := 13) (N := some 28) (v := ?_) (a' := ?_) #[true, true, true, true, false, true, true, true, true, true, true, false, true, true, false, false, false, false] rfl rfl (any_of HT_.out (by kernel_rfl)) (fun _ _ _ h => h) (Or.inl ⟨by rfl, ?_⟩) ?_ ?_
          rotate_left
          ·intro w'
           go_simp
           with_reducible rfl
          rotate_left
          ·simp only [Act.put, List.setIfInBounds_toArray, List.set_cons_zero, List.set_cons_succ, i64_w, i32_w]
           rfl
          refine take_ (i := 4) (N := some 19) (v := ?_) (a' := ?_) #[true, true, true, true, true, true, true, true, true, true, true, false, true, true, false, false, false, false] rfl rfl (take_ofW HT_.out HW_.out (by kernel_rfl)) (fun _ _ _ h => h) (Or.inl ⟨by rfl, ?_⟩) hHeld ?_ ?_
          rotate_left
          ·rintro w' ⟨s0, s1, s2, s3, s4, s5, s6, s7, s8, s9⟩
           go_simp
           with_reducible rfl
          rotate_left
          ·simp only [Act.put, List.setIfInBounds_toArray, List.set_cons_zero, List.set_cons_succ, i64_w, i32_w]
           rfl
          refine take_ (i := 11) (N := some 26) (v := ?_) (a' := ?_) #[true, true, true, true, true, true, true, true, true, true, true, true, true, true, false, false, false, false] rfl rfl (take_ofW HT_.out HW_.out (by kernel_rfl)) (fun _ _ _ h => h) (Or.inl ⟨by rfl, ?_⟩) hHeld ?_ ?_
          rotate_left
          ·rintro w' ⟨s0, s1, s2, s3, s4, s5, s6, s7, s8, s9⟩
           go_simp
           with_reducible rfl
          rotate_left
          ·simp only [Act.put, List.setIfInBounds_toArray, List.set_cons_zero, List.set_cons_succ, i64_w, i32_w]
           rfl
          refine pure_ (i := 14) (N := some 29) (v := ?_) (a' := ?_) #[true, true, true, true, true, true, true, true, true, true, true, true, true, true, true, false, false, false] rfl rfl (any_of HT_.out (by kernel_rfl)) (fun _ _ _ h => h) (Or.inl ⟨by rfl, ?_⟩) ?_ ?_
          rotate_left
          ·intro w'
           go_simp
           with_reducible rfl
          rotate_left
          ·simp only [Act.put, List.setIfInBounds_toArray, List.set_cons_zero, List.set_cons_succ, i64_w, i32_w]
           rfl
          refine last_ (i := 15) (N := some 30) #[true, true, true, true, true, true, true, true, true, true, true, true, true, true, true, true, false, false] rfl rfl (one_of HT_.out (by kernel_rfl)) (by decide) (fun K hK => ?_)
          refine value_ (w1 := ?_) (v := ?_) (by rfl) rfl ?_ ?_
          rotate_left 2
          ·go_simp
           constructor
           ·rfl
           ·rfl
          refine hK.out _ _ ?_
          clear hK K
          refine norm_ (a' := ?_) ?_ ?_
          rotate_left
          ·show Act.put _ (some 30) _ = _
           simp only [Act.put, List.setIfInBounds_toArray, List.set_cons_zero, List.set_cons_succ, i64_w, i32_w]
           rfl
          refine last_ (i := 16) (N := some 31) #[true, true, true, true, true, true, true, true, true, true, true, true, true, true, true, true, true, false] rfl rfl (one_of HT_.out (by kernel_rfl)) (by decide) (fun K hK => ?_)
          refine Kd.N_append_step k25 (w0 := w) w.heap.size (by rfl) (.tmp 15) (.tmp 30) 31 25 (.agg #[(.int .i64 0), (.int .i64 0), (.int .i64 0), (.slice none 0 0)]) 48 rfl Tryd.underlying31 info25 rfl (by decide) (by omega) u3 x3_1 (⟨(rd_T38 (rd_L4 t223 x11_1) 0).f1, (rd_T38 (rd_L4 t223 x11_1) (ji12)).f2, x4_1, rd_L4 t223 x11_1⟩ : S25) [.int .i64 ((rd_T38 (rd_L4 t223 x11_1) 0).f1), .int .i64 ((rd_T38 (rd_L4 t223 x11_1) (ji12)).f2), .int .i64 x4_1, .slice (some ad227) (rd_L4 t223 x11_1).length c226_0] (fun k_ => (w.heap.size ≤ k_) ∧ some k_ ≠ (.slice (some ad226) t223.length co7 : Value).ownBlock) (fun k_ => ((fun k_ => (w.heap.size ≤ k_) ∧ some k_ ≠ (.slice (some ad226) t223.length co7 : Value).ownBlock)) k_ ∧ some k_ ≠ (u3 : Value).ownBlock) rfl rfl ?aP (fun _ hk => hk) ?aF ?aO ?aB ?aS ?aL ?_
          (case aP => exact (k25_mkF _ _ (⟨(rd_T38 (rd_L4 t223 x11_1) 0).f1, (rd_T38 (rd_L4 t223 x11_1) (ji12)).f2, x4_1, rd_L4 t223 x11_1⟩ : S25) (Kd.V_reads' (Kd.V_mono (ok' := (fun k_ => ((fun k_ => (w.heap.size ≤ k_) ∧ some k_ ≠ (.slice (some ad226) t223.length co7 : Value).ownBlock)) k_ ∧ some k_ ≠ (u3 : Value).ownBlock)) (HL226_0.out) (fun k_ hk => ⟨⟨hk.1.1, hk.2⟩, hk.1.2⟩))).2.1 (Kd.V_F (Kd.V_mono (ok' := (fun k_ => ((fun k_ => (w.heap.size ≤ k_) ∧ some k_ ≠ (.slice (some ad226) t223.length co7 : Value).ownBlock)) k_ ∧ some k_ ≠ (u3 : Value).ownBlock)) (HL226_0.out) (fun k_ hk => ⟨⟨hk.1.1, hk.2⟩, hk.1.2⟩)))))
          (case aB => exact (by repeat (first | (with_reducible first | exact HB.out | apply below_alloc | apply pw_below_drewN | apply below_drew1) | exact HB.out)))
          (case aF => exact (fun k_ hk => ⟨(Nat.le_trans (below_size (by repeat (first | (with_reducible first | exact HB.out | apply below_alloc | apply pw_below_drewN | apply below_drew1) | exact HB.out))) hk), Kd.fresh' (Kd.N_lt (by (with_reducible repeat (first | apply Kd.N_alloc | apply Kd.N_drewN | apply Kd.N_drew)); exact HO_9.out)) k_ hk⟩))
          (case aO => exact (by (with_reducible repeat (first | apply Kd.N_alloc | apply Kd.N_drewN | apply Kd.N_drew)); exact HO_3.out))
          (case aS => exact (below_size (by repeat (first | (with_reducible first | exact HB.out | apply below_alloc | apply pw_below_drewN | apply below_drew1) | exact HB.out))))
          (case aL => have := LMc15.out; omega)
          intro v230 w17 ho hb hg hat
          rw [← Ny229.out] at ho
          have n0_ := Aside0.mk (Kd.N_afterv (ok := (fun k_ => (w.heap.size ≤ k_))) (by (with_reducible repeat (first | apply Kd.N_alloc | apply Kd.N_drewN | apply Kd.N_drew)); exact HO_9.out) hg hat)
          have n1_ := Aside0.mk (Kd.V_afterv (ok := (fun k_ => (w.heap.size ≤ k_) ∧ some k_ ≠ (.slice (some ad226) t223.length co7 : Value).ownBlock)) (by (with_reducible repeat (first | apply Kd.V_alloc | apply Kd.V_drewN | apply Kd.V_drew)); exact Kd.V_mono HL226_0.out (fun _ hk => ⟨⟨hk.1.1, hk.2⟩, hk.1.2⟩)) hg hat)
          have n2_ := Aside0.mk (hb)
          have n3_ := Aside0.mk (ho)
          clear HO_9
          clear HL226_0
          clear HB
          clear HO_3
          have HO_9 := n0_
          have HL226_0 := n1_
          have HB := n2_
          have HO231 := n3_
          clear n0_ n1_ n2_ n3_
          clear ho hb hg hat
          refine hK.out _ _ ?_
          clear hK K
          refine norm_ (a' := ?_) ?_ ?_
          rotate_left
          ·show Act.put _ (some 31) _ = _
           simp only [Act.put, List.setIfInBounds_toArray, List.set_cons_zero, List.set_cons_succ, i64_w, i32_w]
           rfl
          refine pure_ (i := 17) (N := some 3) (v := ?_) (a' := ?_) #[true, true, true, true, true, true, true, true, true, true, true, true, true, true, true, true, true, true] rfl rfl (any_of HT_.out (by kernel_rfl)) (fun _ _ _ h => h) (Or.inl ⟨by rfl, ?_⟩) ?_ ?_
          rotate_left
          ·intro w'
           go_simp
           with_reducible rfl
          rotate_left
          ·simp only [Act.put, List.setIfInBounds_toArray, List.set_cons_zero, List.set_cons_succ, i64_w, i32_w]
           rfl
          refine done_ (done_of HT_.out (by kernel_rfl)) ?_
          try go_wp2
          go_roundg k1
          case measure => have := HK1.out; omega
          case rel => exact ⟨(y229), (wrap64 (x4_1 + ((rd_L4 t223 x11_1).length : Int))), (wrap64 (x11_1 + 1)), (by first | rfl | (simp; done) | (simp [*]; done)), (by first | rfl | (simp; done) | (simp [*]; done)), H', ⟨by have := HK1.out; omega⟩, ⟨by (with_reducible repeat (first | apply Kd.N_alloc | apply Kd.N_drewN | apply Kd.N_drew)); exact HO231.out⟩, ⟨by (with_reducible repeat (first | apply Kd.N_alloc | apply Kd.N_drewN | apply Kd.N_drew)); exact HO_9.out⟩, ⟨by repeat (first | (with_reducible first | exact HB.out | apply below_alloc | apply pw_below_drewN | apply below_drew1) | exact HB.out)⟩⟩
         ·rw [if_neg c15] at H
          exact absurd H (by simp)
        ·rw [if_neg c14] at H
         exact absurd H (by simp)
       ·rw [if_neg c13] at H
        exact absurd H (by simp)
      ·rw [if_neg c11] at H
       exact absurd H (by simp)
     ·rw [if_neg c10] at H
      exact absurd H (by simp)
    ·rw [if_neg c9] at H
     exact absurd H (by simp)
   ·rw [if_neg c8] at H
    have c8b0 : decide (x11_1 < (t223.length : Int)) = false := decide_eq_false c8
    clear c8
    obtain rfl := Option.some.inj H
    go_wp2
    go_ret
    exact ⟨_, by first | rfl | (simp [errW_none, errW_some] <;> rfl) | (simp [*, errW_none, errW_some] <;> rfl), by (with_reducible repeat (first | apply Kd.N_alloc | apply Kd.N_drewN | apply Kd.N_drew)); exact Kd.N_mono HO_3.out (fun _ hk => hk.1), by repeat (first | (with_reducible first | exact HB.out | apply below_alloc | apply pw_below_drewN | apply below_drew1) | exact HB.out)⟩
def split_Nest.l0 : Nat → Int → Int → List (S38) → Int → Int → Option (Int)
 | 0, _, _, _, _, _ => none
 | k + 1, x3, x4, x8, x9, x10 => if x10 < x9 then (if 0 ≤ x10 then (if x10 < (x8.length : Int) then (if ((rd_T38 x8 x10).f0) = 6 then (if ((rd_T38 x8 x10).f3).toList = ([40] : List UInt8) then (split_Nest.l0 k (wrap64 (x3 + 1)) (mx x4 (wrap64 (x3 + 1))) x8 x9 (wrap64 (x10 + 1))) else (if ((rd_T38 x8 x10).f3).toList = ([41] : List UInt8) then (split_Nest.l0 k (mx (wrap64 (x3 - 1)) 0) (mx x4 (mx (wrap64 (x3 - 1)) 0)) x8 x9 (wrap64 (x10 + 1))) else (split_Nest.l0 k x3 (mx x4 x3) x8 x9 (wrap64 (x10 + 1))))) else (split_Nest.l0 k x3 x4 x8 x9 (wrap64 (x10 + 1)))) else (none)) else (none)) else (some x4)
def split_Nest.f (k : Nat) (a0_0 : Int) (a0_1 : Int) (a0_2 : Int) (l0_3 : List (S38)) : Option (Int) := split_Nest.l0 k 0 0 l0_3 (l0_3.length : Int) 0
theorem split_Nest.mono_l : ∀ k, (∀ y0 y1 y2 y3 y4, LeO (split_Nest.l0 k y0 y1 y2 y3 y4) (split_Nest.l0 (k + 1) y0 y1 y2 y3 y4))
 | 0 => fun _ _ _ _ _ r h => by simp [split_Nest.l0] at h
 | k + 1 => by
  have ih0 := split_Nest.mono_l k
  ·intro y0 y1 y2 y3 y4
   unfold split_Nest.l0
   repeat' first
   | (with_reducible exact ih0 _ _ _ _ _)
   | (with_reducible exact LeO.refl _)
   | (with_reducible exact LeO.none _)
   | (with_reducible refine LeO.ite ?_ ?_)
   | (with_reducible refine LeO.bind ?_ (fun _ => ?_))
   | exact ih0 _ _ _ _ _
   | exact LeO.none _
   | refine LeO.ite ?_ ?_
   | refine LeO.bind ?_ (fun _ => ?_)
theorem split_Nest.mono : ∀ a0 a1 a2 a3 k, LeO (split_Nest.f k a0 a1 a2 a3) (split_Nest.f (k + 1) a0 a1 a2 a3) := by
 intro a0 a1 a2 a3 k
 have ih0 := split_Nest.mono_l k
 unfold split_Nest.f
 repeat' first
   | (with_reducible exact ih0 _ _ _ _ _)
   | (with_reducible exact LeO.refl _)
   | (with_reducible exact LeO.none _)
   | (with_reducible refine LeO.ite ?_ ?_)
   | (with_reducible refine LeO.bind ?_ (fun _ => ?_))
   | exact ih0 _ _ _ _ _
   | exact LeO.none _
   | refine LeO.ite ?_ ?_
   | refine LeO.bind ?_ (fun _ => ?_)
set_option maxHeartbeats 8000000 in
set_option maxRecDepth 100000 in
theorem split_Nest.calls (k : Nat) (a0_0 : Int) (a0_1 : Int) (a0_2 : Int) (A0_3 : Option Addr) (c0_3 : Nat) (l0_3 : List (S38)) (r : Int) (w : World) (hr0_3 : Kd.C k38 w A0_3 l0_3.length l0_3) (hc0_3 : l0_3.length ≤ c0_3) (h : split_Nest.f k a0_0 a0_1 a0_2 l0_3 = some r) :
  Calls Tryd.prog 16 #[.agg #[.int .i64 a0_0, .int .i64 a0_1, .int .i64 a0_2, .slice A0_3 l0_3.length c0_3]] w fun e w' => e = .returned (.int .i64 r) ∧ Below w.heap.size w w' := by
 have hu25 := Tryd.underlying25
 have hu38 := Tryd.underlying38
 have HR0_3 := Aside0.mk hr0_3
 have HC0_3 := Aside0.mk hc0_3
 clear hr0_3 hc0_3
 have HB := Aside0.mk (Below.refl w.heap.size w)
 have H : (split_Nest.l0 k 0 0 l0_3 (l0_3.length : Int) 0) = some r := h
 clear h
 have H' := Aside0.mk H
 clear H
 go_enter Tryd.func16, Tryd.ntmps16
 go_wp2_with (first | ((with_reducible refine gate_dst (N := 1) rfl ?_); refine box_event ?hg (N := 1) ?hd (cs := #[.int .i64 a0_0, .int .i64 a0_1, .int .i64 a0_2, .slice A0_3 l0_3.length c0_3]) (t := 25) ?hr ?_; (case hd => rfl); (case hg => rfl); (case hr => first | (go_simp; done) | (go_simp; rfl)); intro gb232 hg w2 hbox hb; have n0_ := Aside0.mk (below_step (by repeat (first | (with_reducible first | exact HB.out | apply below_alloc | apply pw_below_drewN | apply below_drew1) | exact HB.out)) hb); have n1_ := Aside0.mk (hbox); have n2_ := Aside0.mk ((by rw [hg]; exact (below_size (by repeat (first | (with_reducible first | exact HB.out | apply below_alloc | apply pw_below_drewN | apply below_drew1) | exact HB.out))) : w.heap.size ≤ gb232)); have n3_ := Aside0.mk ((by rw [hg]; exact (below_size (by repeat (first | (with_reducible first | exact HB.out | apply below_alloc | apply pw_below_drewN | apply below_drew1) | exact HB.out))) : w.heap.size ≤ gb232)); clear HB; have HB := n0_; have BK232 := n1_; have GW232 := n2_; have GE232 := n3_; clear n0_ n1_ n2_ n3_; clear hb hbox hg; have hcz3_0 : w2.cell? ⟨gb232, 0, none⟩ = some (.int .i64 a0_0) := (blk_cell BK232.out 0).trans rfl; have hcz3_1 : w2.cell? ⟨gb232, 1, none⟩ = some (.int .i64 a0_1) := (blk_cell BK232.out 1).trans rfl; have hcz3_2 : w2.cell? ⟨gb232, 2, none⟩ = some (.int .i64 a0_2) := (blk_cell BK232.out 2).trans rfl; have hcz3_3 : w2.cell? ⟨gb232, 3, none⟩ = some (.slice A0_3 l0_3.length c0_3) := (blk_cell BK232.out 3).trans rfl; have hfz3_0 := blk_frozen BK232.out 0; have hfz3_1 := blk_frozen BK232.out 1; have hfz3_2 := blk_frozen BK232.out 2; have hfz3_3 := blk_frozen BK232.out 3))
 go_loopg [3, 4, 10] k (fun kq v3 v4 v10 w' => ∃ (x3_1 : Int) (x4_1 : Int) (x10_1 : Int), v3 = .int .i64 x3_1 ∧ v4 = .int .i64 x4_1 ∧ v10 = .int .i64 x10_1 ∧ Aside0 (split_Nest.l0 kq x3_1 x4_1 l0_3 (l0_3.length : Int) x10_1 = some r) ∧ Aside0 (kq ≤ k) ∧ Aside0 (w'.heap[gb232]? = some (.cells #[.int .i64 a0_0, .int .i64 a0_1, .int .i64 a0_2, (.slice A0_3 l0_3.length c0_3)] 25 (0, 0))) ∧ Aside0 (Below w.heap.size w w'))
 case atStart => exact ⟨(0), (0), (0), (by first | rfl | (simp; done) | (simp [*]; done)), (by first | rfl | (simp; done) | (simp [*]; done)), (by first | rfl | (simp; done) | (simp [*]; done)), H', ⟨Nat.le_refl _⟩, ⟨by (with_reducible repeat (first | refine blk_drewN ?_ _ | refine blk_drew ?_ | refine blk_alloc ?_ _)); exact BK232.out⟩, ⟨by repeat (first | (with_reducible first | exact HB.out | apply below_alloc | apply pw_below_drewN | apply below_drew1 | refine below_set ?_ GE232.out) | exact HB.out)⟩⟩
 case round =>
  clear H'
  try clear c1
  try clear p2
  try clear hcz3_0
  try clear hcz3_1
  try clear hcz3_2
  try clear hcz3_3
  try clear hfz3_0
  try clear hfz3_1
  try clear hfz3_2
  try clear hfz3_3
  obtain ⟨x3_1, x4_1, x10_1, rfl, rfl, rfl, HA, HK1, BK232, HB⟩ := hrel
  cases gk with
  | zero => exact absurd HA.out (by simp [split_Nest.l0])
  | succ k1 =>
   have H := HA.out
   clear HA
   simp only [split_Nest.l0] at H
   by_cases c4 : x10_1 < (l0_3.length : Int)
   ·rw [if_pos c4] at H
    have c4b0 : decide (x10_1 < (l0_3.length : Int)) = true := decide_eq_true c4
    clear c4
    by_cases c5 : 0 ≤ x10_1
    ·rw [if_pos c5] at H
     have c5b0 : decide (0 ≤ x10_1) = true := decide_eq_true c5
     clear c5
     by_cases c6 : x10_1 < (l0_3.length : Int)
     ·rw [if_pos c6] at H
      have c6b0 : decide (x10_1 < (l0_3.length : Int)) = true := decide_eq_true c6
      clear c6
      by_cases c7 : ((rd_T38 l0_3 x10_1).f0) = 6
      ·rw [if_pos c7] at H
       have c7b0 : (((rd_T38 l0_3 x10_1).f0) == 6) = true := beq_iff_eq.mpr c7
       have c7b1 : (((rd_T38 l0_3 x10_1).f0) != 6) = false := bne_eq_false_iff_eq.mpr c7
       clear c7
       by_cases c8 : ((rd_T38 l0_3 x10_1).f3).toList = ([40] : List UInt8)
       ·rw [if_pos c8] at H
        have c8b0 : (((rd_T38 l0_3 x10_1).f3).toList == ([40] : List UInt8)) = true := beq_iff_eq.mpr c8
        have c8b1 : (((rd_T38 l0_3 x10_1).f3).toList != ([40] : List UInt8)) = false := bne_eq_false_iff_eq.mpr c8
        clear c8
        obtain ⟨ji9, hji9⟩ : ∃ j_ : Int, (mx x4_1 (wrap64 (x3_1 + 1))) = j_ := ⟨_, rfl⟩
        replace H : (split_Nest.l0 k1 (wrap64 (x3_1 + 1)) ji9 l0_3 (l0_3.length : Int) (wrap64 (x10_1 + 1))) = some r := by first | (rw [hji9] at H; exact H) | (simp only [hji9] at H ⊢; exact H)
        have hji9_ : (if x4_1 < (wrap64 (x3_1 + 1)) then (wrap64 (x3_1 + 1)) else x4_1) = ji9 := hji9
        have H' := Aside0.mk H
        clear H
        have p233 : 0 ≤ (x10_1 : Int) := of_decide_eq_true (by first | (with_reducible assumption) | assumption)
        have q233 : x10_1 < (l0_3.length : Int) := of_decide_eq_true (by first | (with_reducible assumption) | assumption)
        obtain ⟨ad233, e233, hx233_0, hx233_1, hx233_2, hx233_3, hx233_4⟩ := at_T38 HR0_3.out x10_1 p233 q233
        cases e233
        replace hx233_0 := (HB.out.cell (World.block_lt_of_cell? w _ hx233_0)).trans hx233_0
        replace hx233_1 := (HB.out.cell (World.block_lt_of_cell? w _ hx233_1)).trans hx233_1
        replace hx233_2 := (HB.out.cell (World.block_lt_of_cell? w _ hx233_2)).trans hx233_2
        replace hx233_3 := (HB.out.cell (World.block_lt_of_cell? w _ hx233_3)).trans hx233_3
        replace hx233_4 := (HB.out.cell (World.block_lt_of_cell? w _ hx233_4)).trans hx233_4
        replace p233 := eq_true p233
        replace q233 := eq_true q233
        go_wp2_with (first | ((with_reducible refine gate_dst (N := 6) rfl ?_); refine box_event ?hg (N := 6) ?hd (cs := #[.int .i64 0, .int .i64 0, .int .i64 0, .string (⟨#[]⟩ : ByteArray), .int .i64 0]) (t := 38) ?hr ?_; (case hd => rfl); (case hg => rfl); (case hr => first | (go_simp; done) | (go_simp; rfl)); intro gb234 hg w10 hbox hb; have n0_ := Aside0.mk (blk_below (g := gb232) (o := .cells #[.int .i64 a0_0, .int .i64 a0_1, .int .i64 a0_2, .slice (some ad233) l0_3.length c0_3] 25 (0, 0)) (by (with_reducible repeat (first | refine blk_drewN ?_ _ | refine blk_drew ?_ | refine blk_alloc ?_ _)); exact BK232.out) hb); have n1_ := Aside0.mk (below_step (by repeat (first | (with_reducible first | exact HB.out | apply below_alloc | apply pw_below_drewN | apply below_drew1 | refine below_set ?_ GE232.out) | exact HB.out)) hb); have n2_ := Aside0.mk (hbox); have n3_ := Aside0.mk ((by rw [hg]; exact (below_size (by repeat (first | (with_reducible first | exact HB.out | apply below_alloc | apply pw_below_drewN | apply below_drew1 | refine below_set ?_ GE232.out) | exact HB.out))) : w.heap.size ≤ gb234)); have n4_ := Aside0.mk ((by rw [hg]; exact (below_size (by repeat (first | (with_reducible first | exact HB.out | apply below_alloc | apply pw_below_drewN | apply below_drew1 | refine below_set ?_ GE232.out) | exact HB.out))) : w.heap.size ≤ gb234)); have n5_ := Aside0.mk ((by rw [hg]; exact Nat.ne_of_lt (blk_lt (g := gb232) (o := .cells #[.int .i64 a0_0, .int .i64 a0_1, .int .i64 a0_2, .slice (some ad233) l0_3.length c0_3] 25 (0, 0)) (by (with_reducible repeat (first | refine blk_drewN ?_ _ | refine blk_drew ?_ | refine blk_alloc ?_ _)); exact BK232.out)) : gb232 ≠ gb234)); have n6_ := Aside0.mk ((by rw [hg]; exact Nat.ne_of_gt (blk_lt (g := gb232) (o := .cells #[.int .i64 a0_0, .int .i64 a0_1, .int .i64 a0_2, .slice (some ad233) l0_3.length c0_3] 25 (0, 0)) (by (with_reducible repeat (first | refine blk_drewN ?_ _ | refine blk_drew ?_ | refine blk_alloc ?_ _)); exact BK232.out)) : gb234 ≠ gb232)); clear BK232; clear HB; have BK232 := n0_; have HB := n1_; have BK234 := n2_; have GW234 := n3_; have GE234 := n4_; have NB232_234 := n5_; have NB234_232 := n6_; clear n0_ n1_ n2_ n3_ n4_ n5_ n6_; clear hb hbox hg; have hnb11 := NB234_232.out; have hnc11 := NB232_234.out; have hcz12_0 : w10.cell? ⟨gb234, 0, none⟩ = some (.int .i64 0) := (blk_cell BK234.out 0).trans rfl; have hcz12_1 : w10.cell? ⟨gb234, 1, none⟩ = some (.int .i64 0) := (blk_cell BK234.out 1).trans rfl; have hcz12_2 : w10.cell? ⟨gb234, 2, none⟩ = some (.int .i64 0) := (blk_cell BK234.out 2).trans rfl; have hcz12_3 : w10.cell? ⟨gb234, 3, none⟩ = some (.string (⟨#[]⟩ : ByteArray)) := (blk_cell BK234.out 3).trans rfl; have hcz12_4 : w10.cell? ⟨gb234, 4, none⟩ = some (.int .i64 0) := (blk_cell BK234.out 4).trans rfl; have hfz12_0 := blk_frozen BK234.out 0; have hfz12_1 := blk_frozen BK234.out 1; have hfz12_2 := blk_frozen BK234.out 2; have hfz12_3 := blk_frozen BK234.out 3; have hfz12_4 := blk_frozen BK234.out 4))
        go_roundg k1
        case measure => have := HK1.out; omega
        case rel => exact ⟨(wrap64 (x3_1 + 1)), (ji9), (wrap64 (x10_1 + 1)), (by first | rfl | (simp; done) | (simp [*]; done)), (by first | rfl | (simp; done) | (simp only [← hji9] <;> (first | rfl | simp)) | (simp [*]; done)), (by first | rfl | (simp; done) | (simp [*]; done)), H', ⟨by have := HK1.out; omega⟩, ⟨by (with_reducible repeat (first | refine blk_drewN ?_ _ | refine blk_drew ?_ | refine blk_alloc ?_ _)); refine blk_far ?_ NB232_234.out _; (with_reducible repeat (first | refine blk_drewN ?_ _ | refine blk_drew ?_ | refine blk_alloc ?_ _)); refine blk_far ?_ NB232_234.out _; (with_reducible repeat (first | refine blk_drewN ?_ _ | refine blk_drew ?_ | refine blk_alloc ?_ _)); refine blk_far ?_ NB232_234.out _; (with_reducible repeat (first | refine blk_drewN ?_ _ | refine blk_drew ?_ | refine blk_alloc ?_ _)); refine blk_far ?_ NB232_234.out _; (with_reducible repeat (first | refine blk_drewN ?_ _ | refine blk_drew ?_ | refine blk_alloc ?_ _)); refine blk_far ?_ NB232_234.out _; (with_reducible repeat (first | refine blk_drewN ?_ _ | refine blk_drew ?_ | refine blk_alloc ?_ _)); exact BK232.out⟩, ⟨by repeat (first | (with_reducible first | exact HB.out | apply below_alloc | apply pw_below_drewN | apply below_drew1 | refine below_set ?_ GE232.out | refine below_set ?_ GE234.out) | exact HB.out)⟩⟩
       ·rw [if_neg c8] at H
        have c8b0 : (((rd_T38 l0_3 x10_1).f3).toList == ([40] : List UInt8)) = false := beq_eq_false_iff_ne.mpr c8
        have c8b1 : (((rd_T38 l0_3 x10_1).f3).toList != ([40] : List UInt8)) = true := bne_iff_ne.mpr c8
        by_cases c13 : ((rd_T38 l0_3 x10_1).f3).toList = ([41] : List UInt8)
        ·rw [if_pos c13] at H
         have c13b0 : (((rd_T38 l0_3 x10_1).f3).toList == ([41] : List UInt8)) = true := beq_iff_eq.mpr c13
         have c13b1 : (((rd_T38 l0_3 x10_1).f3).toList != ([41] : List UInt8)) = false := bne_eq_false_iff_eq.mpr c13
         clear c13
         obtain ⟨ji14, hji14⟩ : ∃ j_ : Int, (mx (wrap64 (x3_1 - 1)) 0) = j_ := ⟨_, rfl⟩
         replace H : (split_Nest.l0 k1 ji14 (mx x4_1 (ji14)) l0_3 (l0_3.length : Int) (wrap64 (x10_1 + 1))) = some r := by first | (rw [hji14] at H; exact H) | (simp only [hji14] at H ⊢; exact H)
         have hji14_ : (if (wrap64 (x3_1 - 1)) < 0 then 0 else (wrap64 (x3_1 - 1))) = ji14 := hji14
         obtain ⟨ji15, hji15⟩ : ∃ j_ : Int, (mx x4_1 (ji14)) = j_ := ⟨_, rfl⟩
         replace H : (split_Nest.l0 k1 ji14 ji15 l0_3 (l0_3.length : Int) (wrap64 (x10_1 + 1))) = some r := by first | (rw [hji15] at H; exact H) | (simp only [hji15] at H ⊢; exact H)
         have hji15_ : (if x4_1 < (ji14) then (ji14) else x4_1) = ji15 := hji15
         have H' := Aside0.mk H
         clear H
         have p233 : 0 ≤ (x10_1 : Int) := of_decide_eq_true (by first | (with_reducible assumption) | assumption)
         have q233 : x10_1 < (l0_3.length : Int) := of_decide_eq_true (by first | (with_reducible assumption) | assumption)
         obtain ⟨ad233, e233, hx233_0, hx233_1, hx233_2, hx233_3, hx233_4⟩ := at_T38 HR0_3.out x10_1 p233 q233
         cases e233
         replace hx233_0 := (HB.out.cell (World.block_lt_of_cell? w _ hx233_0)).trans hx233_0
         replace hx233_1 := (HB.out.cell (World.block_lt_of_cell? w _ hx233_1)).trans hx233_1
         replace hx233_2 := (HB.out.cell (World.block_lt_of_cell? w _ hx233_2)).trans hx233_2
         replace hx233_3 := (HB.out.cell (World.block_lt_of_cell? w _ hx233_3)).trans hx233_3
         replace hx233_4 := (HB.out.cell (World.block_lt_of_cell? w _ hx233_4)).trans hx233_4
         replace p233 := eq_true p233
         replace q233 := eq_true q233
         go_wp2_with (first | ((with_reducible refine gate_dst (N := 6) rfl ?_); refine box_event ?hg (N := 6) ?hd (cs := #[.int .i64 0, .int .i64 0, .int .i64 0, .string (⟨#[]⟩ : ByteArray), .int .i64 0]) (t := 38) ?hr ?_; (case hd => rfl); (case hg => rfl); (case hr => first | (go_simp; done) | (go_simp; rfl)); intro gb234 hg w16 hbox hb; have n0_ := Aside0.mk (blk_below (g := gb232) (o := .cells #[.int .i64 a0_0, .int .i64 a0_1, .int .i64 a0_2, .slice (some ad233) l0_3.length c0_3] 25 (0, 0)) (by (with_reducible repeat (first | refine blk_drewN ?_ _ | refine blk_drew ?_ | refine blk_alloc ?_ _)); exact BK232.out) hb); have n1_ := Aside0.mk (below_step (by repeat (first | (with_reducible first | exact HB.out | apply below_alloc | apply pw_below_drewN | apply below_drew1 | refine below_set ?_ GE232.out) | exact HB.out)) hb); have n2_ := Aside0.mk (hbox); have n3_ := Aside0.mk ((by rw [hg]; exact (below_size (by repeat (first | (with_reducible first | exact HB.out | apply below_alloc | apply pw_below_drewN | apply below_drew1 | refine below_set ?_ GE232.out) | exact HB.out))) : w.heap.size ≤ gb234)); have n4_ := Aside0.mk ((by rw [hg]; exact (below_size (by repeat (first | (with_reducible first | exact HB.out | apply below_alloc | apply pw_below_drewN | apply below_drew1 | refine below_set ?_ GE232.out) | exact HB.out))) : w.heap.size ≤ gb234)); have n5_ := Aside0.mk ((by rw [hg]; exact Nat.ne_of_lt (blk_lt (g := gb232) (o := .cells #[.int .i64 a0_0, .int .i64 a0_1, .int .i64 a0_2, .slice (some ad233) l0_3.length c0_3] 25 (0, 0)) (by (with_reducible repeat (first | refine blk_drewN ?_ _ | refine blk_drew ?_ | refine blk_alloc ?_ _)); exact BK232.out)) : gb232 ≠ gb234)); have n6_ := Aside0.mk ((by rw [hg]; exact Nat.ne_of_gt (blk_lt (g := gb232) (o := .cells #[.int .i64 a0_0, .int .i64 a0_1, .int .i64 a0_2, .slice (some ad233) l0_3.length c0_3] 25 (0, 0)) (by (with_reducible repeat (first | refine blk_drewN ?_ _ | refine blk_drew ?_ | refine blk_alloc ?_ _)); exact BK232.out)) : gb234 ≠ gb232)); clear BK232; clear HB; have BK232 := n0_; have HB := n1_; have BK234 := n2_; have GW234 := n3_; have GE234 := n4_; have NB232_234 := n5_; have NB234_232 := n6_; clear n0_ n1_ n2_ n3_ n4_ n5_ n6_; clear hb hbox hg; have hnb17 := NB234_232.out; have hnc17 := NB232_234.out; have hcz18_0 : w16.cell? ⟨gb234, 0, none⟩ = some (.int .i64 0) := (blk_cell BK234.out 0).trans rfl; have hcz18_1 : w16.cell? ⟨gb234, 1, none⟩ = some (.int .i64 0) := (blk_cell BK234.out 1).trans rfl; have hcz18_2 : w16.cell? ⟨gb234, 2, none⟩ = some (.int .i64 0) := (blk_cell BK234.out 2).trans rfl; have hcz18_3 : w16.cell? ⟨gb234, 3, none⟩ = some (.string (⟨#[]⟩ : ByteArray)) := (blk_cell BK234.out 3).trans rfl; have hcz18_4 : w16.cell? ⟨gb234, 4, none⟩ = some (.int .i64 0) := (blk_cell BK234.out 4).trans rfl; have hfz18_0 := blk_frozen BK234.out 0; have hfz18_1 := blk_frozen BK234.out 1; have hfz18_2 := blk_frozen BK234.out 2; have hfz18_3 := blk_frozen BK234.out 3; have hfz18_4 := blk_frozen BK234.out 4))
         go_roundg k1
         case measure => have := HK1.out; omega
         case rel => exact ⟨(ji14), (ji15), (wrap64 (x10_1 + 1)), (by first | rfl | (simp; done) | (simp only [← hji14] <;> (first | rfl | simp)) | (simp [*]; done)), (by first | rfl | (simp; done) | (simp only [← hji15] <;> (first | rfl | simp)) | (simp [*]; done)), (by first | rfl | (simp; done) | (simp [*]; done)), H', ⟨by have := HK1.out; omega⟩, ⟨by (with_reducible repeat (first | refine blk_drewN ?_ _ | refine blk_drew ?_ | refine blk_alloc ?_ _)); refine blk_far ?_ NB232_234.out _; (with_reducible repeat (first | refine blk_drewN ?_ _ | refine blk_drew ?_ | refine blk_alloc ?_ _)); refine blk_far ?_ NB232_234.out _; (with_reducible repeat (first | refine blk_drewN ?_ _ | refine blk_drew ?_ | refine blk_alloc ?_ _)); refine blk_far ?_ NB232_234.out _; (with_reducible repeat (first | refine blk_drewN ?_ _ | refine blk_drew ?_ | refine blk_alloc ?_ _)); refine blk_far ?_ NB232_234.out _; (with_reducible repeat (first | refine blk_drewN ?_ _ | refine blk_drew ?_ | refine blk_alloc ?_ _)); refine blk_far ?_ NB232_234.out _; (with_reducible repeat (first | refine blk_drewN ?_ _ | refine blk_drew ?_ | refine blk_alloc ?_ _)); exact BK232.out⟩, ⟨by repeat (first | (with_reducible first | exact HB.out | apply below_alloc | apply pw_below_drewN | apply below_drew1 | refine below_set ?_ GE232.out | refine below_set ?_ GE234.out) | exact HB.out)⟩⟩
        ·rw [if_neg c13] at H
         have c13b0 : (((rd_T38 l0_3 x10_1).f3).toList == ([41] : List UInt8)) = false := beq_eq_false_iff_ne.mpr c13
         have c13b1 : (((rd_T38 l0_3 x10_1).f3).toList != ([41] : List UInt8)) = true := bne_iff_ne.mpr c13
         obtain ⟨ji19, hji19⟩ : ∃ j_ : Int, (mx x4_1 x3_1) = j_ := ⟨_, rfl⟩
         replace H : (split_Nest.l0 k1 x3_1 ji19 l0_3 (l0_3.length : Int) (wrap64 (x10_1 + 1))) = some r := by first | (rw [hji19] at H; exact H) | (simp only [hji19] at H ⊢; exact H)
         have hji19_ : (if x4_1 < x3_1 then x3_1 else x4_1) = ji19 := hji19
         have H' := Aside0.mk H
         clear H
         have p233 : 0 ≤ (x10_1 : Int) := of_decide_eq_true (by first | (with_reducible assumption) | assumption)
         have q233 : x10_1 < (l0_3.length : Int) := of_decide_eq_true (by first | (with_reducible assumption) | assumption)
         obtain ⟨ad233, e233, hx233_0, hx233_1, hx233_2, hx233_3, hx233_4⟩ := at_T38 HR0_3.out x10_1 p233 q233
         cases e233
         replace hx233_0 := (HB.out.cell (World.block_lt_of_cell? w _ hx233_0)).trans hx233_0
         replace hx233_1 := (HB.out.cell (World.block_lt_of_cell? w _ hx233_1)).trans hx233_1
         replace hx233_2 := (HB.out.cell (World.block_lt_of_cell? w _ hx233_2)).trans hx233_2
         replace hx233_3 := (HB.out.cell (World.block_lt_of_cell? w _ hx233_3)).trans hx233_3
         replace hx233_4 := (HB.out.cell (World.block_lt_of_cell? w _ hx233_4)).trans hx233_4
         replace p233 := eq_true p233
         replace q233 := eq_true q233
         go_wp2_with (first | ((with_reducible refine gate_dst (N := 6) rfl ?_); refine box_event ?hg (N := 6) ?hd (cs := #[.int .i64 0, .int .i64 0, .int .i64 0, .string (⟨#[]⟩ : ByteArray), .int .i64 0]) (t := 38) ?hr ?_; (case hd => rfl); (case hg => rfl); (case hr => first | (go_simp; done) | (go_simp; rfl)); intro gb234 hg w20 hbox hb; have n0_ := Aside0.mk (blk_below (g := gb232) (o := .cells #[.int .i64 a0_0, .int .i64 a0_1, .int .i64 a0_2, .slice (some ad233) l0_3.length c0_3] 25 (0, 0)) (by (with_reducible repeat (first | refine blk_drewN ?_ _ | refine blk_drew ?_ | refine blk_alloc ?_ _)); exact BK232.out) hb); have n1_ := Aside0.mk (below_step (by repeat (first | (with_reducible first | exact HB.out | apply below_alloc | apply pw_below_drewN | apply below_drew1 | refine below_set ?_ GE232.out) | exact HB.out)) hb); have n2_ := Aside0.mk (hbox); have n3_ := Aside0.mk ((by rw [hg]; exact (below_size (by repeat (first | (with_reducible first | exact HB.out | apply below_alloc | apply pw_below_drewN | apply below_drew1 | refine below_set ?_ GE232.out) | exact HB.out))) : w.heap.size ≤ gb234)); have n4_ := Aside0.mk ((by rw [hg]; exact (below_size (by repeat (first | (with_reducible first | exact HB.out | apply below_alloc | apply pw_below_drewN | apply below_drew1 | refine below_set ?_ GE232.out) | exact HB.out))) : w.heap.size ≤ gb234)); have n5_ := Aside0.mk ((by rw [hg]; exact Nat.ne_of_lt (blk_lt (g := gb232) (o := .cells #[.int .i64 a0_0, .int .i64 a0_1, .int .i64 a0_2, .slice (some ad233) l0_3.length c0_3] 25 (0, 0)) (by (with_reducible repeat (first | refine blk_drewN ?_ _ | refine blk_drew ?_ | refine blk_alloc ?_ _)); exact BK232.out)) : gb232 ≠ gb234)); have n6_ := Aside0.mk ((by rw [hg]; exact Nat.ne_of_gt (blk_lt (g := gb232) (o := .cells #[.int .i64 a0_0, .int .i64 a0_1, .int .i64 a0_2, .slice (some ad233) l0_3.length c0_3] 25 (0, 0)) (by (with_reducible repeat (first | refine blk_drewN ?_ _ | refine blk_drew ?_ | refine blk_alloc ?_ _)); exact BK232.out)) : gb234 ≠ gb232)); clear BK232; clear HB; have BK232 := n0_; have HB := n1_; have BK234 := n2_; have GW234 := n3_; have GE234 := n4_; have NB232_234 := n5_; have NB234_232 := n6_; clear n0_ n1_ n2_ n3_ n4_ n5_ n6_; clear hb hbox hg; have hnb21 := NB234_232.out; have hnc21 := NB232_234.out; have hcz22_0 : w20.cell? ⟨gb234, 0, none⟩ = some (.int .i64 0) := (blk_cell BK234.out 0).trans rfl; have hcz22_1 : w20.cell? ⟨gb234, 1, none⟩ = some (.int .i64 0) := (blk_cell BK234.out 1).trans rfl; have hcz22_2 : w20.cell? ⟨gb234, 2, none⟩ = some (.int .i64 0) := (blk_cell BK234.out 2).trans rfl; have hcz22_3 : w20.cell? ⟨gb234, 3, none⟩ = some (.string (⟨#[]⟩ : ByteArray)) := (blk_cell BK234.out 3).trans rfl; have hcz22_4 : w20.cell? ⟨gb234, 4, none⟩ = some (.int .i64 0) := (blk_cell BK234.out 4).trans rfl; have hfz22_0 := blk_frozen BK234.out 0; have hfz22_1 := blk_frozen BK234.out 1; have hfz22_2 := blk_frozen BK234.out 2; have hfz22_3 := blk_frozen BK234.out 3; have hfz22_4 := blk_frozen BK234.out 4))
         go_roundg k1
         case measure => have := HK1.out; omega
         case rel => exact ⟨(x3_1), (ji19), (wrap64 (x10_1 + 1)), (by first | rfl | (simp; done) | (simp [*]; done)), (by first | rfl | (simp; done) | (simp only [← hji19] <;> (first | rfl | simp)) | (simp [*]; done)), (by first | rfl | (simp; done) | (simp [*]; done)), H', ⟨by have := HK1.out; omega⟩, ⟨by (with_reducible repeat (first | refine blk_drewN ?_ _ | refine blk_drew ?_ | refine blk_alloc ?_ _)); refine blk_far ?_ NB232_234.out _; (with_reducible repeat (first | refine blk_drewN ?_ _ | refine blk_drew ?_ | refine blk_alloc ?_ _)); refine blk_far ?_ NB232_234.out _; (with_reducible repeat (first | refine blk_drewN ?_ _ | refine blk_drew ?_ | refine blk_alloc ?_ _)); refine blk_far ?_ NB232_234.out _; (with_reducible repeat (first | refine blk_drewN ?_ _ | refine blk_drew ?_ | refine blk_alloc ?_ _)); refine blk_far ?_ NB232_234.out _; (with_reducible repeat (first | refine blk_drewN ?_ _ | refine blk_drew ?_ | refine blk_alloc ?_ _)); refine blk_far ?_ NB232_234.out _; (with_reducible repeat (first | refine blk_drewN ?_ _ | refine blk_drew ?_ | refine blk_alloc ?_ _)); exact BK232.out⟩, ⟨by repeat (first | (with_reducible first | exact HB.out | apply below_alloc | apply pw_below_drewN | apply below_drew1 | refine below_set ?_ GE232.out | refine below_set ?_ GE234.out) | exact HB.out)⟩⟩
      ·rw [if_neg c7] at H
       have c7b0 : (((rd_T38 l0_3 x10_1).f0) == 6) = false := beq_eq_false_iff_ne.mpr c7
       have c7b1 : (((rd_T38 l0_3 x10_1).f0) != 6) = true := bne_iff_ne.mpr c7
       have H' := Aside0.mk H
       clear H
       have p233 : 0 ≤ (x10_1 : Int) := of_decide_eq_true (by first | (with_reducible assumption) | assumption)
       have q233 : x10_1 < (l0_3.length : Int) := of_decide_eq_true (by first | (with_reducible assumption) | assumption)
       obtain ⟨ad233, e233, hx233_0, hx233_1, hx233_2, hx233_3, hx233_4⟩ := at_T38 HR0_3.out x10_1 p233 q233
       cases e233
       replace hx233_0 := (HB.out.cell (World.block_lt_of_cell? w _ hx233_0)).trans hx233_0
       replace hx233_1 := (HB.out.cell (World.block_lt_of_cell? w _ hx233_1)).trans hx233_1
       replace hx233_2 := (HB.out.cell (World.block_lt_of_cell? w _ hx233_2)).trans hx233_2
       replace hx233_3 := (HB.out.cell (World.block_lt_of_cell? w _ hx233_3)).trans hx233_3
       replace hx233_4 := (HB.out.cell (World.block_lt_of_cell? w _ hx233_4)).trans hx233_4
       replace p233 := eq_true p233
       replace q233 := eq_true q233
       go_wp2_with (first | ((with_reducible refine gate_dst (N := 6) rfl ?_); refine box_event ?hg (N := 6) ?hd (cs := #[.int .i64 0, .int .i64 0, .int .i64 0, .string (⟨#[]⟩ : ByteArray), .int .i64 0]) (t := 38) ?hr ?_; (case hd => rfl); (case hg => rfl); (case hr => first | (go_simp; done) | (go_simp; rfl)); intro gb234 hg w23 hbox hb; have n0_ := Aside0.mk (blk_below (g := gb232) (o := .cells #[.int .i64 a0_0, .int .i64 a0_1, .int .i64 a0_2, .slice (some ad233) l0_3.length c0_3] 25 (0, 0)) (by (with_reducible repeat (first | refine blk_drewN ?_ _ | refine blk_drew ?_ | refine blk_alloc ?_ _)); exact BK232.out) hb); have n1_ := Aside0.mk (below_step (by repeat (first | (with_reducible first | exact HB.out | apply below_alloc | apply pw_below_drewN | apply below_drew1 | refine below_set ?_ GE232.out) | exact HB.out)) hb); have n2_ := Aside0.mk (hbox); have n3_ := Aside0.mk ((by rw [hg]; exact (below_size (by repeat (first | (with_reducible first | exact HB.out | apply below_alloc | apply pw_below_drewN | apply below_drew1 | refine below_set ?_ GE232.out) | exact HB.out))) : w.heap.size ≤ gb234)); have n4_ := Aside0.mk ((by rw [hg]; exact (below_size (by repeat (first | (with_reducible first | exact HB.out | apply below_alloc | apply pw_below_drewN | apply below_drew1 | refine below_set ?_ GE232.out) | exact HB.out))) : w.heap.size ≤ gb234)); have n5_ := Aside0.mk ((by rw [hg]; exact Nat.ne_of_lt (blk_lt (g := gb232) (o := .cells #[.int .i64 a0_0, .int .i64 a0_1, .int .i64 a0_2, .slice (some ad233) l0_3.length c0_3] 25 (0, 0)) (by (with_reducible repeat (first | refine blk_drewN ?_ _ | refine blk_drew ?_ | refine blk_alloc ?_ _)); exact BK232.out)) : gb232 ≠ gb234)); have n6_ := Aside0.mk ((by rw [hg]; exact Nat.ne_of_gt (blk_lt (g := gb232) (o := .cells #[.int .i64 a0_0, .int .i64 a0_1, .int .i64 a0_2, .slice (some ad233) l0_3.length c0_3] 25 (0, 0)) (by (with_reducible repeat (first | refine blk_drewN ?_ _ | refine blk_drew ?_ | refine blk_alloc ?_ _)); exact BK232.out)) : gb234 ≠ gb232)); clear BK232; clear HB; have BK232 := n0_; have HB := n1_; have BK234 := n2_; have GW234 := n3_; have GE234 := n4_; have NB232_234 := n5_; have NB234_232 := n6_; clear n0_ n1_ n2_ n3_ n4_ n5_ n6_; clear hb hbox hg; have hnb24 := NB234_232.out; have hnc24 := NB232_234.out; have hcz25_0 : w23.cell? ⟨gb234, 0, none⟩ = some (.int .i64 0) := (blk_cell BK234.out 0).trans rfl; have hcz25_1 : w23.cell? ⟨gb234, 1, none⟩ = some (.int .i64 0) := (blk_cell BK234.out 1).trans rfl; have hcz25_2 : w23.cell? ⟨gb234, 2, none⟩ = some (.int .i64 0) := (blk_cell BK234.out 2).trans rfl; have hcz25_3 : w23.cell? ⟨gb234, 3, none⟩ = some (.string (⟨#[]⟩ : ByteArray)) := (blk_cell BK234.out 3).trans rfl; have hcz25_4 : w23.cell? ⟨gb234, 4, none⟩ = some (.int .i64 0) := (blk_cell BK234.out 4).trans rfl; have hfz25_0 := blk_frozen BK234.out 0; have hfz25_1 := blk_frozen BK234.out 1; have hfz25_2 := blk_frozen BK234.out 2; have hfz25_3 := blk_frozen BK234.out 3; have hfz25_4 := blk_frozen BK234.out 4))
       go_roundg k1
       case measure => have := HK1.out; omega
       case rel => exact ⟨(x3_1), (x4_1), (wrap64 (x10_1 + 1)), (by first | rfl | (simp; done) | (simp [*]; done)), (by first | rfl | (simp; done) | (simp [*]; done)), (by first | rfl | (simp; done) | (simp [*]; done)), H', ⟨by have := HK1.out; omega⟩, ⟨by (with_reducible repeat (first | refine blk_drewN ?_ _ | refine blk_drew ?_ | refine blk_alloc ?_ _)); refine blk_far ?_ NB232_234.out _; (with_reducible repeat (first | refine blk_drewN ?_ _ | refine blk_drew ?_ | refine blk_alloc ?_ _)); refine blk_far ?_ NB232_234.out _; (with_reducible repeat (first | refine blk_drewN ?_ _ | refine blk_drew ?_ | refine blk_alloc ?_ _)); refine blk_far ?_ NB232_234.out _; (with_reducible repeat (first | refine blk_drewN ?_ _ | refine blk_drew ?_ | refine blk_alloc ?_ _)); refine blk_far ?_ NB232_234.out _; (with_reducible repeat (first | refine blk_drewN ?_ _ | refine blk_drew ?_ | refine blk_alloc ?_ _)); refine blk_far ?_ NB232_234.out _; (with_reducible repeat (first | refine blk_drewN ?_ _ | refine blk_drew ?_ | refine blk_alloc ?_ _)); exact BK232.out⟩, ⟨by repeat (first | (with_reducible first | exact HB.out | apply below_alloc | apply pw_below_drewN | apply below_drew1 | refine below_set ?_ GE232.out | refine below_set ?_ GE234.out) | exact HB.out)⟩⟩
     ·rw [if_neg c6] at H
      exact absurd H (by simp)
    ·rw [if_neg c5] at H
     exact absurd H (by simp)
   ·rw [if_neg c4] at H
    have c4b0 : decide (x10_1 < (l0_3.length : Int)) = false := decide_eq_false c4
    clear c4
    obtain rfl := Option.some.inj H
    go_wp2
    go_ret
    exact ⟨by first | rfl | (simp [errW_none, errW_some] <;> rfl) | (simp [*, errW_none, errW_some] <;> rfl), by repeat (first | (with_reducible first | exact HB.out | apply below_alloc | apply pw_below_drewN | apply below_drew1 | refine below_set ?_ GE232.out) | exact HB.out)⟩
def tmesislaw10_shown.f (k : Nat)  : Option (Bool) := (split_Pieces.f k (([97, 46, 32, 40, 98] : List Int))).bind fun t238 => (if (t238.length : Int) = 2 then (if 0 < (t238.length : Int) then (if ((rd_T25 t238 0).f1) = 2 then (if 1 < (t238.length : Int) then (if ((rd_T25 t238 1).f0) = 3 then (if ((rd_T25 t238 1).f2) = 2 then ((split_Nest.f k ((rd_T25 t238 1).f0) ((rd_T25 t238 1).f1) ((rd_T25 t238 1).f2) ((rd_T25 t238 1).f3)).bind fun t245 => (if t245 = 1 then ((split_Names.f k ((rd_T25 t238 0).f0) ((rd_T25 t238 0).f1) ((rd_T25 t238 0).f2) ((rd_T25 t238 0).f3)).bind fun t247 => (some ((t247.length : Int) == 1))) else (some false))) else (some false)) else (some false)) else (none)) else (some false)) else (none)) else (some false))
theorem tmesislaw10_shown.mono : ∀ k, LeO (tmesislaw10_shown.f k ) (tmesislaw10_shown.f (k + 1) ) := by
 intro  k
 unfold tmesislaw10_shown.f
 repeat' first
   | (with_reducible exact split_Names.mono _ _ _ _ _)
   | (with_reducible exact split_Nest.mono _ _ _ _ _)
   | (with_reducible exact split_Pieces.mono _ _)
   | (with_reducible exact LeO.refl _)
   | (with_reducible exact LeO.none _)
   | (with_reducible refine LeO.ite ?_ ?_)
   | (with_reducible refine LeO.bind ?_ (fun _ => ?_))
   | exact split_Names.mono _ _ _ _ _
   | exact split_Nest.mono _ _ _ _ _
   | exact split_Pieces.mono _ _
   | exact LeO.none _
   | refine LeO.ite ?_ ?_
   | refine LeO.bind ?_ (fun _ => ?_)
set_option maxHeartbeats 8000000 in
set_option maxRecDepth 100000 in
theorem tmesislaw10_shown.calls (k : Nat)  (r : Bool) (w : World) (hG : Gl w) (h : tmesislaw10_shown.f k  = some r) :
  Calls Tryd.prog 8 #[] w fun e w' => e = .returned (.bool r) ∧ Below w.heap.size w w' := by
 have hu25 := Tryd.underlying25
 have HB := Aside0.mk (Below.refl w.heap.size w)
 have HG := Aside0.mk hG
 clear hG
 have H : ((split_Pieces.f k (([97, 46, 32, 40, 98] : List Int))).bind fun t238 => (if (t238.length : Int) = 2 then (if 0 < (t238.length : Int) then (if ((rd_T25 t238 0).f1) = 2 then (if 1 < (t238.length : Int) then (if ((rd_T25 t238 1).f0) = 3 then (if ((rd_T25 t238 1).f2) = 2 then ((split_Nest.f k ((rd_T25 t238 1).f0) ((rd_T25 t238 1).f1) ((rd_T25 t238 1).f2) ((rd_T25 t238 1).f3)).bind fun t245 => (if t245 = 1 then ((split_Names.f k ((rd_T25 t238 0).f0) ((rd_T25 t238 0).f1) ((rd_T25 t238 0).f2) ((rd_T25 t238 0).f3)).bind fun t247 => (some ((t247.length : Int) == 1))) else (some false))) else (some false)) else (some false)) else (none)) else (some false)) else (none)) else (some false))) = some r := h
 clear h
 obtain ⟨y235, hy235⟩ : ∃ y_ : List Int, y_ = (([97, 46, 32, 40, 98] : List Int)) := ⟨_, rfl⟩
 replace H : ((split_Pieces.f k y235).bind fun t238 => (if (t238.length : Int) = 2 then (if 0 < (t238.length : Int) then (if ((rd_T25 t238 0).f1) = 2 then (if 1 < (t238.length : Int) then (if ((rd_T25 t238 1).f0) = 3 then (if ((rd_T25 t238 1).f2) = 2 then ((split_Nest.f k ((rd_T25 t238 1).f0) ((rd_T25 t238 1).f1) ((rd_T25 t238 1).f2) ((rd_T25 t238 1).f3)).bind fun t245 => (if t245 = 1 then ((split_Names.f k ((rd_T25 t238 0).f0) ((rd_T25 t238 0).f1) ((rd_T25 t238 0).f2) ((rd_T25 t238 0).f3)).bind fun t247 => (some ((t247.length : Int) == 1))) else (some false))) else (some false)) else (some false)) else (none)) else (some false)) else (none)) else (some false))) = some r := by first | (rw [hy235]; with_reducible exact H) | (have H2_ := (Option.bind_some _ _).symm.trans H; rw [hy235]; with_reducible exact H2_) | (have H2_ := (Option.bind_some _ _).symm.trans H; with_reducible exact H2_) | with_reducible exact H | (rw [hy235]; exact H) | exact H
 have Ny235 := Aside0.mk hy235
 clear hy235
 replace H := Option.bind_eq_some_iff.mp H
 obtain ⟨t238, A10, H⟩ := H
 replace H : (if (t238.length : Int) = 2 then (if 0 < (t238.length : Int) then (if ((rd_T25 t238 0).f1) = 2 then (if 1 < (t238.length : Int) then (if ((rd_T25 t238 1).f0) = 3 then (if ((rd_T25 t238 1).f2) = 2 then ((split_Nest.f k ((rd_T25 t238 1).f0) ((rd_T25 t238 1).f1) ((rd_T25 t238 1).f2) ((rd_T25 t238 1).f3)).bind fun t245 => (if t245 = 1 then ((split_Names.f k ((rd_T25 t238 0).f0) ((rd_T25 t238 0).f1) ((rd_T25 t238 0).f2) ((rd_T25 t238 0).f3)).bind fun t247 => (some ((t247.length : Int) == 1))) else (some false))) else (some false)) else (some false)) else (none)) else (some false)) else (none)) else (some false)) = some r := H
 have A1 := Aside0.mk A10
 clear A10
 by_cases c2 : (t238.length : Int) = 2
 ·rw [if_pos c2] at H
  have c2b0 : ((t238.length : Int) == 2) = true := beq_iff_eq.mpr c2
  have c2b1 : ((t238.length : Int) != 2) = false := bne_eq_false_iff_eq.mpr c2
  clear c2
  by_cases c3 : 0 < (t238.length : Int)
  ·rw [if_pos c3] at H
   have c3b0 : decide (0 < (t238.length : Int)) = true := decide_eq_true c3
   have c3b1 : decide (0 < t238.length) = true := decide_eq_true (by omega)
   clear c3
   by_cases c4 : ((rd_T25 t238 0).f1) = 2
   ·rw [if_pos c4] at H
    have c4b0 : (((rd_T25 t238 0).f1) == 2) = true := beq_iff_eq.mpr c4
    have c4b1 : (((rd_T25 t238 0).f1) != 2) = false := bne_eq_false_iff_eq.mpr c4
    clear c4
    by_cases c5 : 1 < (t238.length : Int)
    ·rw [if_pos c5] at H
     have c5b0 : decide (1 < (t238.length : Int)) = true := decide_eq_true c5
     have c5b1 : decide (1 < t238.length) = true := decide_eq_true (by omega)
     clear c5
     by_cases c6 : ((rd_T25 t238 1).f0) = 3
     ·rw [if_pos c6] at H
      have c6b0 : (((rd_T25 t238 1).f0) == 3) = true := beq_iff_eq.mpr c6
      have c6b1 : (((rd_T25 t238 1).f0) != 3) = false := bne_eq_false_iff_eq.mpr c6
      clear c6
      by_cases c7 : ((rd_T25 t238 1).f2) = 2
      ·rw [if_pos c7] at H
       have c7b0 : (((rd_T25 t238 1).f2) == 2) = true := beq_iff_eq.mpr c7
       have c7b1 : (((rd_T25 t238 1).f2) != 2) = false := bne_eq_false_iff_eq.mpr c7
       clear c7
       replace H := Option.bind_eq_some_iff.mp H
       obtain ⟨t245, A80, H⟩ := H
       replace H : (if t245 = 1 then ((split_Names.f k ((rd_T25 t238 0).f0) ((rd_T25 t238 0).f1) ((rd_T25 t238 0).f2) ((rd_T25 t238 0).f3)).bind fun t247 => (some ((t247.length : Int) == 1))) else (some false)) = some r := H
       have A8 := Aside0.mk A80
       clear A80
       by_cases c9 : t245 = 1
       ·rw [if_pos c9] at H
        have c9b0 : (t245 == 1) = true := beq_iff_eq.mpr c9
        have c9b1 : (t245 != 1) = false := bne_eq_false_iff_eq.mpr c9
        clear c9
        replace H := Option.bind_eq_some_iff.mp H
        obtain ⟨t247, A100, H⟩ := H
        replace H : (some ((t247.length : Int) == 1)) = some r := H
        have A10 := Aside0.mk A100
        clear A100
        obtain rfl := Option.some.inj H
        go_enter Tryd.func8, Tryd.ntmps8
        go_wp2_with (first | ((with_reducible refine gate_dst (N := 2) rfl ?_); (try (refine gate_guard (by rfl) ?_; dsimp only)); refine V_litsG _ 5 ?hg (N := 2) ?hd (xs := ([97, 46, 32, 40, 98] : List Int)) ?hr ?hw2 ?hr2 (Below.refl _ _) (Nat.le_refl _) (by simp) ?_; (case hd => rfl); (case hg => rfl); (case hr => intro W_; first | (go_simp; done) | (go_simp; rfl)); (case hw2 => rfl); (case hr2 => intro W_; go_simp; rw [run_convert_lit _ 22 5 _ _ _ Tryd.underlying22 Tryd.underlying5]; rfl); intro v236 w11 ho12 hb hg_ hnew_; clear hg_ hnew_; (first | rw [← Ny235.out] at ho12 | (simp only [Int.reduceToNat] at ho12; rw [← Ny235.out] at ho12)); have n0_ := Aside0.mk (Kd.V_lower (Kd.V_mono (ok' := fun k_ => True) ho12 (fun k_ hk_ => trivial)) (below_size (by repeat (first | (with_reducible first | exact HB.out | apply below_alloc | apply pw_below_drewN | apply below_drew1) | exact HB.out)))); have n1_ := Aside0.mk (below_step (by repeat (first | (with_reducible first | exact HB.out | apply below_alloc | apply pw_below_drewN | apply below_drew1) | exact HB.out)) hb); clear HB; have HO237 := n0_; have HB := n1_; clear n0_ n1_; clear hb ho12; obtain ⟨Ao13, co13, eo13⟩ := Kd.V_slice HO237.out; subst eo13) | ((with_reducible refine gate_callee (f := 13) rfl ?_); refine goesL_ (some 4) rfl rfl Tryd.func13 (by kernel_rfl) rfl #[.slice Ao13 y235.length co13] rfl (by (try simp only [List.map_toArray, List.map_cons, List.map_nil]); first | done | rfl | (simp only [List.length_drop, List.length_take]; rfl)) ?_; (with_reducible refine (split_Pieces.calls k _ _ y235 t238 _ ?side1 ?side2 ?side3 A1.out).mono ?_); (case side1 => exact Gl.below HG.out (by repeat (first | (with_reducible first | exact HB.out | apply below_alloc | apply pw_below_drewN | apply below_drew1) | exact HB.out))); (case side2 => repeat (first | exact (Kd.V_reads' HO237.out).2.2 | (with_reducible refine Kd.C_alloc ?_ _) | (with_reducible refine Kd.C_drewN ?_ _) | (with_reducible refine Kd.C_drew ?_))); (case side3 => exact (Kd.V_reads' HO237.out).2.1); rintro e w14 ⟨v239, rfl, ho0, hb⟩; refine ⟨_, rfl, ?_⟩; have n0_ := Aside0.mk (Kd.V_elder' (by (with_reducible repeat (first | apply Kd.V_alloc | apply Kd.V_drewN | apply Kd.V_drew)); exact HO237.out) (Kd.N_base ho0) hb); have n1_ := Aside0.mk (Kd.N_lower (Kd.N_mono (ok' := fun k_ => True) ho0 (fun k_ hk_ => trivial)) (below_size (by repeat (first | (with_reducible first | exact HB.out | apply below_alloc | apply pw_below_drewN | apply below_drew1) | exact HB.out)))); have n2_ := Aside0.mk (below_step (by repeat (first | (with_reducible first | exact HB.out | apply below_alloc | apply pw_below_drewN | apply below_drew1) | exact HB.out)) hb); clear HO237; clear HB; have HO237 := n0_; have HO240 := n1_; have HB := n2_; clear n0_ n1_ n2_; (try clear hb); (try clear hb2); (try clear hk); (try clear hi); (try clear ho0); obtain ⟨Ao15, co15, eo15⟩ := Kd.N_slice HO240.out; subst eo15; have p241 : 0 ≤ (0 : Int) := (by omega); have q241 : 0 < (t238.length : Int) := of_decide_eq_true (by first | (with_reducible assumption) | assumption); obtain ⟨ad241, A241_3, c241_3, e241, hx241_0, hx241_1, hx241_2, hx241_3, hl241_3, hi241_3⟩ := at_T25 (Kd.N_reads' HO240.out).2.2 0 p241 q241; cases e241; obtain ⟨ce241, hce241, hMe241, hcc241⟩ := Kd.N_get HO240.out z25 0 p241 (by first | exact q241 | exact of_decide_eq_true (by first | (with_reducible assumption) | assumption) | (have e_ := (Kd.N_reads' HO240.out).1; omega)); obtain ⟨ua241_3, uc241_3, rfl, ul241_3, ge241_3⟩ := k25_openF hMe241; have hv241_3 := hcc241 3 _ rfl; rw [add_field _ _ 3 (by omega)] at hv241_3; replace hv241_3 := Option.some.inj (hv241_3.symm.trans hx241_3); injection hv241_3 with hva_ hvn_ hvc_; rw [hva_] at ge241_3; rw [hvc_] at ul241_3; have HL241_3 := Aside0.mk (show Kd.V k38 38 _ w.heap.size _ _ ((rd_T25 t238 0).f3) from Kd.V_mk ul241_3 ge241_3); clear hva_ hvn_ hvc_ ge241_3 ul241_3; clear hcc241 hce241; have qi241 : (0 < t238.length) = True := eq_true (by omega); (try rw [show ((0 : Int)).toNat = 0 from rfl] at hx241_0); (try rw [show 0 * 4 = 0 from rfl] at hx241_0); (try rw [Addr.add_zero'] at hx241_0); (try rw [show ((0 : Int)).toNat = 0 from rfl] at hx241_1); (try rw [show 0 * 4 = 0 from rfl] at hx241_1); (try rw [Addr.add_zero'] at hx241_1); (try rw [show ((0 : Int)).toNat = 0 from rfl] at hx241_2); (try rw [show 0 * 4 = 0 from rfl] at hx241_2); (try rw [Addr.add_zero'] at hx241_2); (try rw [show ((0 : Int)).toNat = 0 from rfl] at hx241_3); (try rw [show 0 * 4 = 0 from rfl] at hx241_3); (try rw [Addr.add_zero'] at hx241_3); have HR241_3 := Aside0.mk hi241_3; have HC241_3 := Aside0.mk hl241_3; clear hi241_3 hl241_3; replace p241 := eq_true p241; replace q241 := eq_true q241; have p242 : 0 ≤ (1 : Int) := (by omega); have q242 : 1 < (t238.length : Int) := of_decide_eq_true (by first | (with_reducible assumption) | assumption); obtain ⟨ad242, A242_3, c242_3, e242, hx242_0, hx242_1, hx242_2, hx242_3, hl242_3, hi242_3⟩ := at_T25 (Kd.N_reads' HO240.out).2.2 1 p242 q242; obtain rfl : ad241 = ad242 := (by injection e242); obtain ⟨ce242, hce242, hMe242, hcc242⟩ := Kd.N_get HO240.out z25 1 p242 (by first | exact q242 | exact of_decide_eq_true (by first | (with_reducible assumption) | assumption) | (have e_ := (Kd.N_reads' HO240.out).1; omega)); obtain ⟨ua242_3, uc242_3, rfl, ul242_3, ge242_3⟩ := k25_openF hMe242; have hv242_3 := hcc242 3 _ rfl; rw [add_field _ _ 3 (by omega)] at hv242_3; replace hv242_3 := Option.some.inj (hv242_3.symm.trans hx242_3); injection hv242_3 with hva_ hvn_ hvc_; rw [hva_] at ge242_3; rw [hvc_] at ul242_3; have HL242_3 := Aside0.mk (show Kd.V k38 38 _ w.heap.size _ _ ((rd_T25 t238 1).f3) from Kd.V_mk ul242_3 ge242_3); clear hva_ hvn_ hvc_ ge242_3 ul242_3; clear hcc242 hce242; (try simp only [show (1 : Int).toNat = 1 from rfl, Nat.reduceMul, Nat.reduceEqDiff, Go.Addr.add, ↓reduceIte] at hx242_0); (try simp only [show (1 : Int).toNat = 1 from rfl, Nat.reduceMul, Nat.reduceEqDiff, Go.Addr.add, ↓reduceIte] at hx242_1); (try simp only [show (1 : Int).toNat = 1 from rfl, Nat.reduceMul, Nat.reduceEqDiff, Go.Addr.add, ↓reduceIte] at hx242_2); (try simp only [show (1 : Int).toNat = 1 from rfl, Nat.reduceMul, Nat.reduceEqDiff, Go.Addr.add, ↓reduceIte] at hx242_3); have qi242 : (1 < t238.length) = True := eq_true (by omega); (try rw [show ((1 : Int)).toNat = 1 from rfl] at hx242_0); (try rw [show 1 * 4 = 4 from rfl] at hx242_0); (try rw [show ((1 : Int)).toNat = 1 from rfl] at hx242_1); (try rw [show 1 * 4 = 4 from rfl] at hx242_1); (try rw [show ((1 : Int)).toNat = 1 from rfl] at hx242_2); (try rw [show 1 * 4 = 4 from rfl] at hx242_2); (try rw [show ((1 : Int)).toNat = 1 from rfl] at hx242_3); (try rw [show 1 * 4 = 4 from rfl] at hx242_3); have HR242_3 := Aside0.mk hi242_3; have HC242_3 := Aside0.mk hl242_3; clear hi242_3 hl242_3; replace p242 := eq_true p242; replace q242 := eq_true q242; have p243 : 0 ≤ (1 : Int) := (by omega); have q243 : 1 < (t238.length : Int) := of_decide_eq_true (by first | (with_reducible assumption) | assumption); obtain ⟨ad243, A243_3, c243_3, e243, hx243_0, hx243_1, hx243_2, hx243_3, hl243_3, hi243_3⟩ := at_T25 (Kd.N_reads' HO240.out).2.2 1 p243 q243; obtain rfl : ad241 = ad243 := (by injection e243); obtain ⟨ce243, hce243, hMe243, hcc243⟩ := Kd.N_get HO240.out z25 1 p243 (by first | exact q243 | exact of_decide_eq_true (by first | (with_reducible assumption) | assumption) | (have e_ := (Kd.N_reads' HO240.out).1; omega)); obtain ⟨ua243_3, uc243_3, rfl, ul243_3, ge243_3⟩ := k25_openF hMe243; have hv243_3 := hcc243 3 _ rfl; rw [add_field _ _ 3 (by omega)] at hv243_3; replace hv243_3 := Option.some.inj (hv243_3.symm.trans hx243_3); injection hv243_3 with hva_ hvn_ hvc_; rw [hva_] at ge243_3; rw [hvc_] at ul243_3; have HL243_3 := Aside0.mk (show Kd.V k38 38 _ w.heap.size _ _ ((rd_T25 t238 1).f3) from Kd.V_mk ul243_3 ge243_3); clear hva_ hvn_ hvc_ ge243_3 ul243_3; clear hcc243 hce243; (try simp only [show (1 : Int).toNat = 1 from rfl, Nat.reduceMul, Nat.reduceEqDiff, Go.Addr.add, ↓reduceIte] at hx243_0); (try simp only [show (1 : Int).toNat = 1 from rfl, Nat.reduceMul, Nat.reduceEqDiff, Go.Addr.add, ↓reduceIte] at hx243_1); (try simp only [show (1 : Int).toNat = 1 from rfl, Nat.reduceMul, Nat.reduceEqDiff, Go.Addr.add, ↓reduceIte] at hx243_2); (try simp only [show (1 : Int).toNat = 1 from rfl, Nat.reduceMul, Nat.reduceEqDiff, Go.Addr.add, ↓reduceIte] at hx243_3); have qi243 : (1 < t238.length) = True := eq_true (by omega); (try rw [show ((1 : Int)).toNat = 1 from rfl] at hx243_0); (try rw [show 1 * 4 = 4 from rfl] at hx243_0); (try rw [show ((1 : Int)).toNat = 1 from rfl] at hx243_1); (try rw [show 1 * 4 = 4 from rfl] at hx243_1); (try rw [show ((1 : Int)).toNat = 1 from rfl] at hx243_2); (try rw [show 1 * 4 = 4 from rfl] at hx243_2); (try rw [show ((1 : Int)).toNat = 1 from rfl] at hx243_3); (try rw [show 1 * 4 = 4 from rfl] at hx243_3); have HR243_3 := Aside0.mk hi243_3; have HC243_3 := Aside0.mk hl243_3; clear hi243_3 hl243_3; replace p243 := eq_true p243; replace q243 := eq_true q243; have ea_ := Option.some.inj (hx242_3.symm.trans hx243_3); injection ea_ with ea_ en_ ec_; subst ea_; subst ec_; clear en_; have p244 : 0 ≤ (1 : Int) := (by omega); have q244 : 1 < (t238.length : Int) := of_decide_eq_true (by first | (with_reducible assumption) | assumption); obtain ⟨ad244, A244_3, c244_3, e244, hx244_0, hx244_1, hx244_2, hx244_3, hl244_3, hi244_3⟩ := at_T25 (Kd.N_reads' HO240.out).2.2 1 p244 q244; obtain rfl : ad241 = ad244 := (by injection e244); obtain ⟨ce244, hce244, hMe244, hcc244⟩ := Kd.N_get HO240.out z25 1 p244 (by first | exact q244 | exact of_decide_eq_true (by first | (with_reducible assumption) | assumption) | (have e_ := (Kd.N_reads' HO240.out).1; omega)); obtain ⟨ua244_3, uc244_3, rfl, ul244_3, ge244_3⟩ := k25_openF hMe244; have hv244_3 := hcc244 3 _ rfl; rw [add_field _ _ 3 (by omega)] at hv244_3; replace hv244_3 := Option.some.inj (hv244_3.symm.trans hx244_3); injection hv244_3 with hva_ hvn_ hvc_; rw [hva_] at ge244_3; rw [hvc_] at ul244_3; have HL244_3 := Aside0.mk (show Kd.V k38 38 _ w.heap.size _ _ ((rd_T25 t238 1).f3) from Kd.V_mk ul244_3 ge244_3); clear hva_ hvn_ hvc_ ge244_3 ul244_3; clear hcc244 hce244; (try simp only [show (1 : Int).toNat = 1 from rfl, Nat.reduceMul, Nat.reduceEqDiff, Go.Addr.add, ↓reduceIte] at hx244_0); (try simp only [show (1 : Int).toNat = 1 from rfl, Nat.reduceMul, Nat.reduceEqDiff, Go.Addr.add, ↓reduceIte] at hx244_1); (try simp only [show (1 : Int).toNat = 1 from rfl, Nat.reduceMul, Nat.reduceEqDiff, Go.Addr.add, ↓reduceIte] at hx244_2); (try simp only [show (1 : Int).toNat = 1 from rfl, Nat.reduceMul, Nat.reduceEqDiff, Go.Addr.add, ↓reduceIte] at hx244_3); have qi244 : (1 < t238.length) = True := eq_true (by omega); (try rw [show ((1 : Int)).toNat = 1 from rfl] at hx244_0); (try rw [show 1 * 4 = 4 from rfl] at hx244_0); (try rw [show ((1 : Int)).toNat = 1 from rfl] at hx244_1); (try rw [show 1 * 4 = 4 from rfl] at hx244_1); (try rw [show ((1 : Int)).toNat = 1 from rfl] at hx244_2); (try rw [show 1 * 4 = 4 from rfl] at hx244_2); (try rw [show ((1 : Int)).toNat = 1 from rfl] at hx244_3); (try rw [show 1 * 4 = 4 from rfl] at hx244_3); have HR244_3 := Aside0.mk hi244_3; have HC244_3 := Aside0.mk hl244_3; clear hi244_3 hl244_3; replace p244 := eq_true p244; replace q244 := eq_true q244; have ea_ := Option.some.inj (hx242_3.symm.trans hx244_3); injection ea_ with ea_ en_ ec_; subst ea_; subst ec_; clear en_) | ((with_reducible refine gate_callee (f := 16) rfl ?_); (try (refine gate_guard (by rfl) ?_; dsimp only)); refine goesL_ (some 33) rfl rfl Tryd.func16 (by kernel_rfl) rfl #[.agg #[.int .i64 ((rd_T25 t238 1).f0), .int .i64 ((rd_T25 t238 1).f1), .int .i64 ((rd_T25 t238 1).f2), .slice A242_3 ((rd_T25 t238 1).f3).length c242_3]] rfl (by (try simp only [List.map_toArray, List.map_cons, List.map_nil]); first | done | rfl | (simp only [List.length_drop, List.length_take]; rfl)) ?_; (with_reducible refine (split_Nest.calls k ((rd_T25 t238 1).f0) ((rd_T25 t238 1).f1) ((rd_T25 t238 1).f2) _ _ ((rd_T25 t238 1).f3) t245 _ ?side1 ?side2 A8.out).mono ?_); (case side1 => repeat (first | exact (by repeat (first | (with_reducible exact HR244_3.out) | (with_reducible refine Kd.C_alloc ?_ _) | (with_reducible refine Kd.C_drewN ?_ _) | (with_reducible refine Kd.C_drew ?_) | exact HR244_3.out)) | (with_reducible refine Kd.C_alloc ?_ _) | (with_reducible refine Kd.C_drewN ?_ _) | (with_reducible refine Kd.C_drew ?_))); (case side2 => exact HC244_3.out); rintro e w16 ⟨rfl, hb⟩; refine ⟨_, rfl, ?_⟩; have n0_ := Aside0.mk (Kd.V_below (by (with_reducible repeat (first | apply Kd.V_alloc | apply Kd.V_drewN | apply Kd.V_drew)); exact HO237.out) hb); have n1_ := Aside0.mk (Kd.N_below (by (with_reducible repeat (first | apply Kd.N_alloc | apply Kd.N_drewN | apply Kd.N_drew)); exact HO240.out) hb); have n2_ := Aside0.mk (Kd.V_below (by (with_reducible repeat (first | apply Kd.V_alloc | apply Kd.V_drewN | apply Kd.V_drew)); exact HL241_3.out) hb); have n3_ := Aside0.mk (Kd.V_below (by (with_reducible repeat (first | apply Kd.V_alloc | apply Kd.V_drewN | apply Kd.V_drew)); exact HL242_3.out) hb); have n4_ := Aside0.mk (Kd.V_below (by (with_reducible repeat (first | apply Kd.V_alloc | apply Kd.V_drewN | apply Kd.V_drew)); exact HL243_3.out) hb); have n5_ := Aside0.mk (Kd.V_below (by (with_reducible repeat (first | apply Kd.V_alloc | apply Kd.V_drewN | apply Kd.V_drew)); exact HL244_3.out) hb); have n6_ := Aside0.mk (Kd.C_below (by repeat (first | (with_reducible exact HR241_3.out) | (with_reducible refine Kd.C_alloc ?_ _) | (with_reducible refine Kd.C_drewN ?_ _) | (with_reducible refine Kd.C_drew ?_) | exact HR241_3.out)) hb); have n7_ := Aside0.mk (Kd.C_below (by repeat (first | (with_reducible exact HR242_3.out) | (with_reducible refine Kd.C_alloc ?_ _) | (with_reducible refine Kd.C_drewN ?_ _) | (with_reducible refine Kd.C_drew ?_) | exact HR242_3.out)) hb); have n8_ := Aside0.mk (Kd.C_below (by repeat (first | (with_reducible exact HR243_3.out) | (with_reducible refine Kd.C_alloc ?_ _) | (with_reducible refine Kd.C_drewN ?_ _) | (with_reducible refine Kd.C_drew ?_) | exact HR243_3.out)) hb); have n9_ := Aside0.mk (Kd.C_below (by repeat (first | (with_reducible exact HR244_3.out) | (with_reducible refine Kd.C_alloc ?_ _) | (with_reducible refine Kd.C_drewN ?_ _) | (with_reducible refine Kd.C_drew ?_) | exact HR244_3.out)) hb); have n10_ := Aside0.mk (below_step (by repeat (first | (with_reducible first | exact HB.out | apply below_alloc | apply pw_below_drewN | apply below_drew1) | exact HB.out)) hb); clear HO237; clear HO240; clear HL241_3; clear HL242_3; clear HL243_3; clear HL244_3; clear HR241_3; clear HR242_3; clear HR243_3; clear HR244_3; clear HB; have HO237 := n0_; have HO240 := n1_; have HL241_3 := n2_; have HL242_3 := n3_; have HL243_3 := n4_; have HL244_3 := n5_; have HR241_3 := n6_; have HR242_3 := n7_; have HR243_3 := n8_; have HR244_3 := n9_; have HB := n10_; clear n0_ n1_ n2_ n3_ n4_ n5_ n6_ n7_ n8_ n9_ n10_; (try clear hb); (try clear hb2); (try clear hk); (try clear hi); have p246 : 0 ≤ (0 : Int) := (by omega); have q246 : 0 < (t238.length : Int) := of_decide_eq_true (by first | (with_reducible assumption) | assumption); obtain ⟨ad246, A246_3, c246_3, e246, hx246_0, hx246_1, hx246_2, hx246_3, hl246_3, hi246_3⟩ := at_T25 (Kd.N_reads' HO240.out).2.2 0 p246 q246; obtain rfl : ad241 = ad246 := (by injection e246); obtain ⟨ce246, hce246, hMe246, hcc246⟩ := Kd.N_get HO240.out z25 0 p246 (by first | exact q246 | exact of_decide_eq_true (by first | (with_reducible assumption) | assumption) | (have e_ := (Kd.N_reads' HO240.out).1; omega)); obtain ⟨ua246_3, uc246_3, rfl, ul246_3, ge246_3⟩ := k25_openF hMe246; have hv246_3 := hcc246 3 _ rfl; rw [add_field _ _ 3 (by omega)] at hv246_3; replace hv246_3 := Option.some.inj (hv246_3.symm.trans hx246_3); injection hv246_3 with hva_ hvn_ hvc_; rw [hva_] at ge246_3; rw [hvc_] at ul246_3; have HL246_3 := Aside0.mk (show Kd.V k38 38 _ w.heap.size _ _ ((rd_T25 t238 0).f3) from Kd.V_mk ul246_3 ge246_3); clear hva_ hvn_ hvc_ ge246_3 ul246_3; clear hcc246 hce246; have qi246 : (0 < t238.length) = True := eq_true (by omega); (try rw [show ((0 : Int)).toNat = 0 from rfl] at hx246_0); (try rw [show 0 * 4 = 0 from rfl] at hx246_0); (try rw [Addr.add_zero'] at hx246_0); (try rw [show ((0 : Int)).toNat = 0 from rfl] at hx246_1); (try rw [show 0 * 4 = 0 from rfl] at hx246_1); (try rw [Addr.add_zero'] at hx246_1); (try rw [show ((0 : Int)).toNat = 0 from rfl] at hx246_2); (try rw [show 0 * 4 = 0 from rfl] at hx246_2); (try rw [Addr.add_zero'] at hx246_2); (try rw [show ((0 : Int)).toNat = 0 from rfl] at hx246_3); (try rw [show 0 * 4 = 0 from rfl] at hx246_3); (try rw [Addr.add_zero'] at hx246_3); have HR246_3 := Aside0.mk hi246_3; have HC246_3 := Aside0.mk hl246_3; clear hi246_3 hl246_3; replace p246 := eq_true p246; replace q246 := eq_true q246) | ((with_reducible refine gate_callee (f := 9) rfl ?_); (try (refine gate_guard (by rfl) ?_; dsimp only)); refine goesL_ (some 40) rfl rfl Tryd.func9 (by kernel_rfl) rfl #[.agg #[.int .i64 ((rd_T25 t238 0).f0), .int .i64 ((rd_T25 t238 0).f1), .int .i64 ((rd_T25 t238 0).f2), .slice A246_3 ((rd_T25 t238 0).f3).length c246_3]] rfl (by (try simp only [List.map_toArray, List.map_cons, List.map_nil]); first | done | rfl | (simp only [List.length_drop, List.length_take]; rfl)) ?_; (with_reducible refine (split_Names.calls k ((rd_T25 t238 0).f0) ((rd_T25 t238 0).f1) ((rd_T25 t238 0).f2) _ _ ((rd_T25 t238 0).f3) t247 _ ?side1 ?side2 A10.out).mono ?_); (case side1 => repeat (first | exact (by repeat (first | (with_reducible exact HR246_3.out) | (with_reducible refine Kd.C_alloc ?_ _) | (with_reducible refine Kd.C_drewN ?_ _) | (with_reducible refine Kd.C_drew ?_) | exact HR246_3.out)) | (with_reducible refine Kd.C_alloc ?_ _) | (with_reducible refine Kd.C_drewN ?_ _) | (with_reducible refine Kd.C_drew ?_))); (case side2 => exact HC246_3.out); rintro e w17 ⟨v248, rfl, ho0, hb⟩; refine ⟨_, rfl, ?_⟩; have n0_ := Aside0.mk (Kd.V_elder' (by (with_reducible repeat (first | apply Kd.V_alloc | apply Kd.V_drewN | apply Kd.V_drew)); exact HO237.out) (Kd.R_base ho0) hb); have n1_ := Aside0.mk (Kd.N_elder' (by (with_reducible repeat (first | apply Kd.N_alloc | apply Kd.N_drewN | apply Kd.N_drew)); exact HO240.out) (Kd.R_base ho0) hb); have n2_ := Aside0.mk (Kd.V_elder' (by (with_reducible repeat (first | apply Kd.V_alloc | apply Kd.V_drewN | apply Kd.V_drew)); exact HL241_3.out) (Kd.R_base ho0) hb); have n3_ := Aside0.mk (Kd.V_elder' (by (with_reducible repeat (first | apply Kd.V_alloc | apply Kd.V_drewN | apply Kd.V_drew)); exact HL242_3.out) (Kd.R_base ho0) hb); have n4_ := Aside0.mk (Kd.V_elder' (by (with_reducible repeat (first | apply Kd.V_alloc | apply Kd.V_drewN | apply Kd.V_drew)); exact HL243_3.out) (Kd.R_base ho0) hb); have n5_ := Aside0.mk (Kd.V_elder' (by (with_reducible repeat (first | apply Kd.V_alloc | apply Kd.V_drewN | apply Kd.V_drew)); exact HL244_3.out) (Kd.R_base ho0) hb); have n6_ := Aside0.mk (Kd.V_elder' (by (with_reducible repeat (first | apply Kd.V_alloc | apply Kd.V_drewN | apply Kd.V_drew)); exact HL246_3.out) (Kd.R_base ho0) hb); have n7_ := Aside0.mk (Kd.R_lower ho0 (below_size (by repeat (first | (with_reducible first | exact HB.out | apply below_alloc | apply pw_below_drewN | apply below_drew1) | exact HB.out)))); have n8_ := Aside0.mk (Kd.C_below (by repeat (first | (with_reducible exact HR241_3.out) | (with_reducible refine Kd.C_alloc ?_ _) | (with_reducible refine Kd.C_drewN ?_ _) | (with_reducible refine Kd.C_drew ?_) | exact HR241_3.out)) hb); have n9_ := Aside0.mk (Kd.C_below (by repeat (first | (with_reducible exact HR242_3.out) | (with_reducible refine Kd.C_alloc ?_ _) | (with_reducible refine Kd.C_drewN ?_ _) | (with_reducible refine Kd.C_drew ?_) | exact HR242_3.out)) hb); have n10_ := Aside0.mk (Kd.C_below (by repeat (first | (with_reducible exact HR243_3.out) | (with_reducible refine Kd.C_alloc ?_ _) | (with_reducible refine Kd.C_drewN ?_ _) | (with_reducible refine Kd.C_drew ?_) | exact HR243_3.out)) hb); have n11_ := Aside0.mk (Kd.C_below (by repeat (first | (with_reducible exact HR244_3.out) | (with_reducible refine Kd.C_alloc ?_ _) | (with_reducible refine Kd.C_drewN ?_ _) | (with_reducible refine Kd.C_drew ?_) | exact HR244_3.out)) hb); have n12_ := Aside0.mk (Kd.C_below (by repeat (first | (with_reducible exact HR246_3.out) | (with_reducible refine Kd.C_alloc ?_ _) | (with_reducible refine Kd.C_drewN ?_ _) | (with_reducible refine Kd.C_drew ?_) | exact HR246_3.out)) hb); have n13_ := Aside0.mk (below_step (by repeat (first | (with_reducible first | exact HB.out | apply below_alloc | apply pw_below_drewN | apply below_drew1) | exact HB.out)) hb); clear HO237; clear HO240; clear HL241_3; clear HL242_3; clear HL243_3; clear HL244_3; clear HL246_3; clear HR241_3; clear HR242_3; clear HR243_3; clear HR244_3; clear HR246_3; clear HB; have HO237 := n0_; have HO240 := n1_; have HL241_3 := n2_; have HL242_3 := n3_; have HL243_3 := n4_; have HL244_3 := n5_; have HL246_3 := n6_; have HO249 := n7_; have HR241_3 := n8_; have HR242_3 := n9_; have HR243_3 := n10_; have HR244_3 := n11_; have HR246_3 := n12_; have HB := n13_; clear n0_ n1_ n2_ n3_ n4_ n5_ n6_ n7_ n8_ n9_ n10_ n11_ n12_ n13_; (try clear hb); (try clear hb2); (try clear hk); (try clear hi); (try clear ho0); obtain ⟨Ao18, co18, eo18⟩ := Kd.R_slice HO249.out; subst eo18))
        go_ret
        exact ⟨by first | rfl | (simp [errW_none, errW_some] <;> rfl) | (simp [*, errW_none, errW_some] <;> rfl), by repeat (first | (with_reducible first | exact HB.out | apply below_alloc | apply pw_below_drewN | apply below_drew1) | exact HB.out)⟩
       ·rw [if_neg c9] at H
        have c9b0 : (t245 == 1) = false := beq_eq_false_iff_ne.mpr c9
        have c9b1 : (t245 != 1) = true := bne_iff_ne.mpr c9
        obtain rfl := Option.some.inj H
        go_enter Tryd.func8, Tryd.ntmps8
        go_wp2_with (first | ((with_reducible refine gate_dst (N := 2) rfl ?_); (try (refine gate_guard (by rfl) ?_; dsimp only)); refine V_litsG _ 5 ?hg (N := 2) ?hd (xs := ([97, 46, 32, 40, 98] : List Int)) ?hr ?hw2 ?hr2 (Below.refl _ _) (Nat.le_refl _) (by simp) ?_; (case hd => rfl); (case hg => rfl); (case hr => intro W_; first | (go_simp; done) | (go_simp; rfl)); (case hw2 => rfl); (case hr2 => intro W_; go_simp; rw [run_convert_lit _ 22 5 _ _ _ Tryd.underlying22 Tryd.underlying5]; rfl); intro v236 w19 ho20 hb hg_ hnew_; clear hg_ hnew_; (first | rw [← Ny235.out] at ho20 | (simp only [Int.reduceToNat] at ho20; rw [← Ny235.out] at ho20)); have n0_ := Aside0.mk (Kd.V_lower (Kd.V_mono (ok' := fun k_ => True) ho20 (fun k_ hk_ => trivial)) (below_size (by repeat (first | (with_reducible first | exact HB.out | apply below_alloc | apply pw_below_drewN | apply below_drew1) | exact HB.out)))); have n1_ := Aside0.mk (below_step (by repeat (first | (with_reducible first | exact HB.out | apply below_alloc | apply pw_below_drewN | apply below_drew1) | exact HB.out)) hb); clear HB; have HO237 := n0_; have HB := n1_; clear n0_ n1_; clear hb ho20; obtain ⟨Ao21, co21, eo21⟩ := Kd.V_slice HO237.out; subst eo21) | ((with_reducible refine gate_callee (f := 13) rfl ?_); refine goesL_ (some 4) rfl rfl Tryd.func13 (by kernel_rfl) rfl #[.slice Ao21 y235.length co21] rfl (by (try simp only [List.map_toArray, List.map_cons, List.map_nil]); first | done | rfl | (simp only [List.length_drop, List.length_take]; rfl)) ?_; (with_reducible refine (split_Pieces.calls k _ _ y235 t238 _ ?side1 ?side2 ?side3 A1.out).mono ?_); (case side1 => exact Gl.below HG.out (by repeat (first | (with_reducible first | exact HB.out | apply below_alloc | apply pw_below_drewN | apply below_drew1) | exact HB.out))); (case side2 => repeat (first | exact (Kd.V_reads' HO237.out).2.2 | (with_reducible refine Kd.C_alloc ?_ _) | (with_reducible refine Kd.C_drewN ?_ _) | (with_reducible refine Kd.C_drew ?_))); (case side3 => exact (Kd.V_reads' HO237.out).2.1); rintro e w22 ⟨v239, rfl, ho0, hb⟩; refine ⟨_, rfl, ?_⟩; have n0_ := Aside0.mk (Kd.V_elder' (by (with_reducible repeat (first | apply Kd.V_alloc | apply Kd.V_drewN | apply Kd.V_drew)); exact HO237.out) (Kd.N_base ho0) hb); have n1_ := Aside0.mk (Kd.N_lower (Kd.N_mono (ok' := fun k_ => True) ho0 (fun k_ hk_ => trivial)) (below_size (by repeat (first | (with_reducible first | exact HB.out | apply below_alloc | apply pw_below_drewN | apply below_drew1) | exact HB.out)))); have n2_ := Aside0.mk (below_step (by repeat (first | (with_reducible first | exact HB.out | apply below_alloc | apply pw_below_drewN | apply below_drew1) | exact HB.out)) hb); clear HO237; clear HB; have HO237 := n0_; have HO240 := n1_; have HB := n2_; clear n0_ n1_ n2_; (try clear hb); (try clear hb2); (try clear hk); (try clear hi); (try clear ho0); obtain ⟨Ao23, co23, eo23⟩ := Kd.N_slice HO240.out; subst eo23; have p241 : 0 ≤ (0 : Int) := (by omega); have q241 : 0 < (t238.length : Int) := of_decide_eq_true (by first | (with_reducible assumption) | assumption); obtain ⟨ad241, A241_3, c241_3, e241, hx241_0, hx241_1, hx241_2, hx241_3, hl241_3, hi241_3⟩ := at_T25 (Kd.N_reads' HO240.out).2.2 0 p241 q241; cases e241; obtain ⟨ce241, hce241, hMe241, hcc241⟩ := Kd.N_get HO240.out z25 0 p241 (by first | exact q241 | exact of_decide_eq_true (by first | (with_reducible assumption) | assumption) | (have e_ := (Kd.N_reads' HO240.out).1; omega)); obtain ⟨ua241_3, uc241_3, rfl, ul241_3, ge241_3⟩ := k25_openF hMe241; have hv241_3 := hcc241 3 _ rfl; rw [add_field _ _ 3 (by omega)] at hv241_3; replace hv241_3 := Option.some.inj (hv241_3.symm.trans hx241_3); injection hv241_3 with hva_ hvn_ hvc_; rw [hva_] at ge241_3; rw [hvc_] at ul241_3; have HL241_3 := Aside0.mk (show Kd.V k38 38 _ w.heap.size _ _ ((rd_T25 t238 0).f3) from Kd.V_mk ul241_3 ge241_3); clear hva_ hvn_ hvc_ ge241_3 ul241_3; clear hcc241 hce241; have qi241 : (0 < t238.length) = True := eq_true (by omega); (try rw [show ((0 : Int)).toNat = 0 from rfl] at hx241_0); (try rw [show 0 * 4 = 0 from rfl] at hx241_0); (try rw [Addr.add_zero'] at hx241_0); (try rw [show ((0 : Int)).toNat = 0 from rfl] at hx241_1); (try rw [show 0 * 4 = 0 from rfl] at hx241_1); (try rw [Addr.add_zero'] at hx241_1); (try rw [show ((0 : Int)).toNat = 0 from rfl] at hx241_2); (try rw [show 0 * 4 = 0 from rfl] at hx241_2); (try rw [Addr.add_zero'] at hx241_2); (try rw [show ((0 : Int)).toNat = 0 from rfl] at hx241_3); (try rw [show 0 * 4 = 0 from rfl] at hx241_3); (try rw [Addr.add_zero'] at hx241_3); have HR241_3 := Aside0.mk hi241_3; have HC241_3 := Aside0.mk hl241_3; clear hi241_3 hl241_3; replace p241 := eq_true p241; replace q241 := eq_true q241; have p242 : 0 ≤ (1 : Int) := (by omega); have q242 : 1 < (t238.length : Int) := of_decide_eq_true (by first | (with_reducible assumption) | assumption); obtain ⟨ad242, A242_3, c242_3, e242, hx242_0, hx242_1, hx242_2, hx242_3, hl242_3, hi242_3⟩ := at_T25 (Kd.N_reads' HO240.out).2.2 1 p242 q242; obtain rfl : ad241 = ad242 := (by injection e242); obtain ⟨ce242, hce242, hMe242, hcc242⟩ := Kd.N_get HO240.out z25 1 p242 (by first | exact q242 | exact of_decide_eq_true (by first | (with_reducible assumption) | assumption) | (have e_ := (Kd.N_reads' HO240.out).1; omega)); obtain ⟨ua242_3, uc242_3, rfl, ul242_3, ge242_3⟩ := k25_openF hMe242; have hv242_3 := hcc242 3 _ rfl; rw [add_field _ _ 3 (by omega)] at hv242_3; replace hv242_3 := Option.some.inj (hv242_3.symm.trans hx242_3); injection hv242_3 with hva_ hvn_ hvc_; rw [hva_] at ge242_3; rw [hvc_] at ul242_3; have HL242_3 := Aside0.mk (show Kd.V k38 38 _ w.heap.size _ _ ((rd_T25 t238 1).f3) from Kd.V_mk ul242_3 ge242_3); clear hva_ hvn_ hvc_ ge242_3 ul242_3; clear hcc242 hce242; (try simp only [show (1 : Int).toNat = 1 from rfl, Nat.reduceMul, Nat.reduceEqDiff, Go.Addr.add, ↓reduceIte] at hx242_0); (try simp only [show (1 : Int).toNat = 1 from rfl, Nat.reduceMul, Nat.reduceEqDiff, Go.Addr.add, ↓reduceIte] at hx242_1); (try simp only [show (1 : Int).toNat = 1 from rfl, Nat.reduceMul, Nat.reduceEqDiff, Go.Addr.add, ↓reduceIte] at hx242_2); (try simp only [show (1 : Int).toNat = 1 from rfl, Nat.reduceMul, Nat.reduceEqDiff, Go.Addr.add, ↓reduceIte] at hx242_3); have qi242 : (1 < t238.length) = True := eq_true (by omega); (try rw [show ((1 : Int)).toNat = 1 from rfl] at hx242_0); (try rw [show 1 * 4 = 4 from rfl] at hx242_0); (try rw [show ((1 : Int)).toNat = 1 from rfl] at hx242_1); (try rw [show 1 * 4 = 4 from rfl] at hx242_1); (try rw [show ((1 : Int)).toNat = 1 from rfl] at hx242_2); (try rw [show 1 * 4 = 4 from rfl] at hx242_2); (try rw [show ((1 : Int)).toNat = 1 from rfl] at hx242_3); (try rw [show 1 * 4 = 4 from rfl] at hx242_3); have HR242_3 := Aside0.mk hi242_3; have HC242_3 := Aside0.mk hl242_3; clear hi242_3 hl242_3; replace p242 := eq_true p242; replace q242 := eq_true q242; have p243 : 0 ≤ (1 : Int) := (by omega); have q243 : 1 < (t238.length : Int) := of_decide_eq_true (by first | (with_reducible assumption) | assumption); obtain ⟨ad243, A243_3, c243_3, e243, hx243_0, hx243_1, hx243_2, hx243_3, hl243_3, hi243_3⟩ := at_T25 (Kd.N_reads' HO240.out).2.2 1 p243 q243; obtain rfl : ad241 = ad243 := (by injection e243); obtain ⟨ce243, hce243, hMe243, hcc243⟩ := Kd.N_get HO240.out z25 1 p243 (by first | exact q243 | exact of_decide_eq_true (by first | (with_reducible assumption) | assumption) | (have e_ := (Kd.N_reads' HO240.out).1; omega)); obtain ⟨ua243_3, uc243_3, rfl, ul243_3, ge243_3⟩ := k25_openF hMe243; have hv243_3 := hcc243 3 _ rfl; rw [add_field _ _ 3 (by omega)] at hv243_3; replace hv243_3 := Option.some.inj (hv243_3.symm.trans hx243_3); injection hv243_3 with hva_ hvn_ hvc_; rw [hva_] at ge243_3; rw [hvc_] at ul243_3; have HL243_3 := Aside0.mk (show Kd.V k38 38 _ w.heap.size _ _ ((rd_T25 t238 1).f3) from Kd.V_mk ul243_3 ge243_3); clear hva_ hvn_ hvc_ ge243_3 ul243_3; clear hcc243 hce243; (try simp only [show (1 : Int).toNat = 1 from rfl, Nat.reduceMul, Nat.reduceEqDiff, Go.Addr.add, ↓reduceIte] at hx243_0); (try simp only [show (1 : Int).toNat = 1 from rfl, Nat.reduceMul, Nat.reduceEqDiff, Go.Addr.add, ↓reduceIte] at hx243_1); (try simp only [show (1 : Int).toNat = 1 from rfl, Nat.reduceMul, Nat.reduceEqDiff, Go.Addr.add, ↓reduceIte] at hx243_2); (try simp only [show (1 : Int).toNat = 1 from rfl, Nat.reduceMul, Nat.reduceEqDiff, Go.Addr.add, ↓reduceIte] at hx243_3); have qi243 : (1 < t238.length) = True := eq_true (by omega); (try rw [show ((1 : Int)).toNat = 1 from rfl] at hx243_0); (try rw [show 1 * 4 = 4 from rfl] at hx243_0); (try rw [show ((1 : Int)).toNat = 1 from rfl] at hx243_1); (try rw [show 1 * 4 = 4 from rfl] at hx243_1); (try rw [show ((1 : Int)).toNat = 1 from rfl] at hx243_2); (try rw [show 1 * 4 = 4 from rfl] at hx243_2); (try rw [show ((1 : Int)).toNat = 1 from rfl] at hx243_3); (try rw [show 1 * 4 = 4 from rfl] at hx243_3); have HR243_3 := Aside0.mk hi243_3; have HC243_3 := Aside0.mk hl243_3; clear hi243_3 hl243_3; replace p243 := eq_true p243; replace q243 := eq_true q243; have ea_ := Option.some.inj (hx242_3.symm.trans hx243_3); injection ea_ with ea_ en_ ec_; subst ea_; subst ec_; clear en_; have p244 : 0 ≤ (1 : Int) := (by omega); have q244 : 1 < (t238.length : Int) := of_decide_eq_true (by first | (with_reducible assumption) | assumption); obtain ⟨ad244, A244_3, c244_3, e244, hx244_0, hx244_1, hx244_2, hx244_3, hl244_3, hi244_3⟩ := at_T25 (Kd.N_reads' HO240.out).2.2 1 p244 q244; obtain rfl : ad241 = ad244 := (by injection e244); obtain ⟨ce244, hce244, hMe244, hcc244⟩ := Kd.N_get HO240.out z25 1 p244 (by first | exact q244 | exact of_decide_eq_true (by first | (with_reducible assumption) | assumption) | (have e_ := (Kd.N_reads' HO240.out).1; omega)); obtain ⟨ua244_3, uc244_3, rfl, ul244_3, ge244_3⟩ := k25_openF hMe244; have hv244_3 := hcc244 3 _ rfl; rw [add_field _ _ 3 (by omega)] at hv244_3; replace hv244_3 := Option.some.inj (hv244_3.symm.trans hx244_3); injection hv244_3 with hva_ hvn_ hvc_; rw [hva_] at ge244_3; rw [hvc_] at ul244_3; have HL244_3 := Aside0.mk (show Kd.V k38 38 _ w.heap.size _ _ ((rd_T25 t238 1).f3) from Kd.V_mk ul244_3 ge244_3); clear hva_ hvn_ hvc_ ge244_3 ul244_3; clear hcc244 hce244; (try simp only [show (1 : Int).toNat = 1 from rfl, Nat.reduceMul, Nat.reduceEqDiff, Go.Addr.add, ↓reduceIte] at hx244_0); (try simp only [show (1 : Int).toNat = 1 from rfl, Nat.reduceMul, Nat.reduceEqDiff, Go.Addr.add, ↓reduceIte] at hx244_1); (try simp only [show (1 : Int).toNat = 1 from rfl, Nat.reduceMul, Nat.reduceEqDiff, Go.Addr.add, ↓reduceIte] at hx244_2); (try simp only [show (1 : Int).toNat = 1 from rfl, Nat.reduceMul, Nat.reduceEqDiff, Go.Addr.add, ↓reduceIte] at hx244_3); have qi244 : (1 < t238.length) = True := eq_true (by omega); (try rw [show ((1 : Int)).toNat = 1 from rfl] at hx244_0); (try rw [show 1 * 4 = 4 from rfl] at hx244_0); (try rw [show ((1 : Int)).toNat = 1 from rfl] at hx244_1); (try rw [show 1 * 4 = 4 from rfl] at hx244_1); (try rw [show ((1 : Int)).toNat = 1 from rfl] at hx244_2); (try rw [show 1 * 4 = 4 from rfl] at hx244_2); (try rw [show ((1 : Int)).toNat = 1 from rfl] at hx244_3); (try rw [show 1 * 4 = 4 from rfl] at hx244_3); have HR244_3 := Aside0.mk hi244_3; have HC244_3 := Aside0.mk hl244_3; clear hi244_3 hl244_3; replace p244 := eq_true p244; replace q244 := eq_true q244; have ea_ := Option.some.inj (hx242_3.symm.trans hx244_3); injection ea_ with ea_ en_ ec_; subst ea_; subst ec_; clear en_) | ((with_reducible refine gate_callee (f := 16) rfl ?_); (try (refine gate_guard (by rfl) ?_; dsimp only)); refine goesL_ (some 33) rfl rfl Tryd.func16 (by kernel_rfl) rfl #[.agg #[.int .i64 ((rd_T25 t238 1).f0), .int .i64 ((rd_T25 t238 1).f1), .int .i64 ((rd_T25 t238 1).f2), .slice A242_3 ((rd_T25 t238 1).f3).length c242_3]] rfl (by (try simp only [List.map_toArray, List.map_cons, List.map_nil]); first | done | rfl | (simp only [List.length_drop, List.length_take]; rfl)) ?_; (with_reducible refine (split_Nest.calls k ((rd_T25 t238 1).f0) ((rd_T25 t238 1).f1) ((rd_T25 t238 1).f2) _ _ ((rd_T25 t238 1).f3) t245 _ ?side1 ?side2 A8.out).mono ?_); (case side1 => repeat (first | exact (by repeat (first | (with_reducible exact HR244_3.out) | (with_reducible refine Kd.C_alloc ?_ _) | (with_reducible refine Kd.C_drewN ?_ _) | (with_reducible refine Kd.C_drew ?_) | exact HR244_3.out)) | (with_reducible refine Kd.C_alloc ?_ _) | (with_reducible refine Kd.C_drewN ?_ _) | (with_reducible refine Kd.C_drew ?_))); (case side2 => exact HC244_3.out); rintro e w24 ⟨rfl, hb⟩; refine ⟨_, rfl, ?_⟩; have n0_ := Aside0.mk (Kd.V_below (by (with_reducible repeat (first | apply Kd.V_alloc | apply Kd.V_drewN | apply Kd.V_drew)); exact HO237.out) hb); have n1_ := Aside0.mk (Kd.N_below (by (with_reducible repeat (first | apply Kd.N_alloc | apply Kd.N_drewN | apply Kd.N_drew)); exact HO240.out) hb); have n2_ := Aside0.mk (Kd.V_below (by (with_reducible repeat (first | apply Kd.V_alloc | apply Kd.V_drewN | apply Kd.V_drew)); exact HL241_3.out) hb); have n3_ := Aside0.mk (Kd.V_below (by (with_reducible repeat (first | apply Kd.V_alloc | apply Kd.V_drewN | apply Kd.V_drew)); exact HL242_3.out) hb); have n4_ := Aside0.mk (Kd.V_below (by (with_reducible repeat (first | apply Kd.V_alloc | apply Kd.V_drewN | apply Kd.V_drew)); exact HL243_3.out) hb); have n5_ := Aside0.mk (Kd.V_below (by (with_reducible repeat (first | apply Kd.V_alloc | apply Kd.V_drewN | apply Kd.V_drew)); exact HL244_3.out) hb); have n6_ := Aside0.mk (Kd.C_below (by repeat (first | (with_reducible exact HR241_3.out) | (with_reducible refine Kd.C_alloc ?_ _) | (with_reducible refine Kd.C_drewN ?_ _) | (with_reducible refine Kd.C_drew ?_) | exact HR241_3.out)) hb); have n7_ := Aside0.mk (Kd.C_below (by repeat (first | (with_reducible exact HR242_3.out) | (with_reducible refine Kd.C_alloc ?_ _) | (with_reducible refine Kd.C_drewN ?_ _) | (with_reducible refine Kd.C_drew ?_) | exact HR242_3.out)) hb); have n8_ := Aside0.mk (Kd.C_below (by repeat (first | (with_reducible exact HR243_3.out) | (with_reducible refine Kd.C_alloc ?_ _) | (with_reducible refine Kd.C_drewN ?_ _) | (with_reducible refine Kd.C_drew ?_) | exact HR243_3.out)) hb); have n9_ := Aside0.mk (Kd.C_below (by repeat (first | (with_reducible exact HR244_3.out) | (with_reducible refine Kd.C_alloc ?_ _) | (with_reducible refine Kd.C_drewN ?_ _) | (with_reducible refine Kd.C_drew ?_) | exact HR244_3.out)) hb); have n10_ := Aside0.mk (below_step (by repeat (first | (with_reducible first | exact HB.out | apply below_alloc | apply pw_below_drewN | apply below_drew1) | exact HB.out)) hb); clear HO237; clear HO240; clear HL241_3; clear HL242_3; clear HL243_3; clear HL244_3; clear HR241_3; clear HR242_3; clear HR243_3; clear HR244_3; clear HB; have HO237 := n0_; have HO240 := n1_; have HL241_3 := n2_; have HL242_3 := n3_; have HL243_3 := n4_; have HL244_3 := n5_; have HR241_3 := n6_; have HR242_3 := n7_; have HR243_3 := n8_; have HR244_3 := n9_; have HB := n10_; clear n0_ n1_ n2_ n3_ n4_ n5_ n6_ n7_ n8_ n9_ n10_; (try clear hb); (try clear hb2); (try clear hk); (try clear hi)))
        go_ret
        exact ⟨by first | rfl | (simp [errW_none, errW_some] <;> rfl) | (simp [*, errW_none, errW_some] <;> rfl), by repeat (first | (with_reducible first | exact HB.out | apply below_alloc | apply pw_below_drewN | apply below_drew1) | exact HB.out)⟩
      ·rw [if_neg c7] at H
       have c7b0 : (((rd_T25 t238 1).f2) == 2) = false := beq_eq_false_iff_ne.mpr c7
       have c7b1 : (((rd_T25 t238 1).f2) != 2) = true := bne_iff_ne.mpr c7
       obtain rfl := Option.some.inj H
       go_enter Tryd.func8, Tryd.ntmps8
       go_wp2_with (first | ((with_reducible refine gate_dst (N := 2) rfl ?_); (try (refine gate_guard (by rfl) ?_; dsimp only)); refine V_litsG _ 5 ?hg (N := 2) ?hd (xs := ([97, 46, 32, 40, 98] : List Int)) ?hr ?hw2 ?hr2 (Below.refl _ _) (Nat.le_refl _) (by simp) ?_; (case hd => rfl); (case hg => rfl); (case hr => intro W_; first | (go_simp; done) | (go_simp; rfl)); (case hw2 => rfl); (case hr2 => intro W_; go_simp; rw [run_convert_lit _ 22 5 _ _ _ Tryd.underlying22 Tryd.underlying5]; rfl); intro v236 w25 ho26 hb hg_ hnew_; clear hg_ hnew_; (first | rw [← Ny235.out] at ho26 | (simp only [Int.reduceToNat] at ho26; rw [← Ny235.out] at ho26)); have n0_ := Aside0.mk (Kd.V_lower (Kd.V_mono (ok' := fun k_ => True) ho26 (fun k_ hk_ => trivial)) (below_size (by repeat (first | (with_reducible first | exact HB.out | apply below_alloc | apply pw_below_drewN | apply below_drew1) | exact HB.out)))); have n1_ := Aside0.mk (below_step (by repeat (first | (with_reducible first | exact HB.out | apply below_alloc | apply pw_below_drewN | apply below_drew1) | exact HB.out)) hb); clear HB; have HO237 := n0_; have HB := n1_; clear n0_ n1_; clear hb ho26; obtain ⟨Ao27, co27, eo27⟩ := Kd.V_slice HO237.out; subst eo27) | ((with_reducible refine gate_callee (f := 13) rfl ?_); refine goesL_ (some 4) rfl rfl Tryd.func13 (by kernel_rfl) rfl #[.slice Ao27 y235.length co27] rfl (by (try simp only [List.map_toArray, List.map_cons, List.map_nil]); first | done | rfl | (simp only [List.length_drop, List.length_take]; rfl)) ?_; (with_reducible refine (split_Pieces.calls k _ _ y235 t238 _ ?side1 ?side2 ?side3 A1.out).mono ?_); (case side1 => exact Gl.below HG.out (by repeat (first | (with_reducible first | exact HB.out | apply below_alloc | apply pw_below_drewN | apply below_drew1) | exact HB.out))); (case side2 => repeat (first | exact (Kd.V_reads' HO237.out).2.2 | (with_reducible refine Kd.C_alloc ?_ _) | (with_reducible refine Kd.C_drewN ?_ _) | (with_reducible refine Kd.C_drew ?_))); (case side3 => exact (Kd.V_reads' HO237.out).2.1); rintro e w28 ⟨v239, rfl, ho0, hb⟩; refine ⟨_, rfl, ?_⟩; have n0_ := Aside0.mk (Kd.V_elder' (by (with_reducible repeat (first | apply Kd.V_alloc | apply Kd.V_drewN | apply Kd.V_drew)); exact HO237.out) (Kd.N_base ho0) hb); have n1_ := Aside0.mk (Kd.N_lower (Kd.N_mono (ok' := fun k_ => True) ho0 (fun k_ hk_ => trivial)) (below_size (by repeat (first | (with_reducible first | exact HB.out | apply below_alloc | apply pw_below_drewN | apply below_drew1) | exact HB.out)))); have n2_ := Aside0.mk (below_step (by repeat (first | (with_reducible first | exact HB.out | apply below_alloc | apply pw_below_drewN | apply below_drew1) | exact HB.out)) hb); clear HO237; clear HB; have HO237 := n0_; have HO240 := n1_; have HB := n2_; clear n0_ n1_ n2_; (try clear hb); (try clear hb2); (try clear hk); (try clear hi); (try clear ho0); obtain ⟨Ao29, co29, eo29⟩ := Kd.N_slice HO240.out; subst eo29; have p241 : 0 ≤ (0 : Int) := (by omega); have q241 : 0 < (t238.length : Int) := of_decide_eq_true (by first | (with_reducible assumption) | assumption); obtain ⟨ad241, A241_3, c241_3, e241, hx241_0, hx241_1, hx241_2, hx241_3, hl241_3, hi241_3⟩ := at_T25 (Kd.N_reads' HO240.out).2.2 0 p241 q241; cases e241; obtain ⟨ce241, hce241, hMe241, hcc241⟩ := Kd.N_get HO240.out z25 0 p241 (by first | exact q241 | exact of_decide_eq_true (by first | (with_reducible assumption) | assumption) | (have e_ := (Kd.N_reads' HO240.out).1; omega)); obtain ⟨ua241_3, uc241_3, rfl, ul241_3, ge241_3⟩ := k25_openF hMe241; have hv241_3 := hcc241 3 _ rfl; rw [add_field _ _ 3 (by omega)] at hv241_3; replace hv241_3 := Option.some.inj (hv241_3.symm.trans hx241_3); injection hv241_3 with hva_ hvn_ hvc_; rw [hva_] at ge241_3; rw [hvc_] at ul241_3; have HL241_3 := Aside0.mk (show Kd.V k38 38 _ w.heap.size _ _ ((rd_T25 t238 0).f3) from Kd.V_mk ul241_3 ge241_3); clear hva_ hvn_ hvc_ ge241_3 ul241_3; clear hcc241 hce241; have qi241 : (0 < t238.length) = True := eq_true (by omega); (try rw [show ((0 : Int)).toNat = 0 from rfl] at hx241_0); (try rw [show 0 * 4 = 0 from rfl] at hx241_0); (try rw [Addr.add_zero'] at hx241_0); (try rw [show ((0 : Int)).toNat = 0 from rfl] at hx241_1); (try rw [show 0 * 4 = 0 from rfl] at hx241_1); (try rw [Addr.add_zero'] at hx241_1); (try rw [show ((0 : Int)).toNat = 0 from rfl] at hx241_2); (try rw [show 0 * 4 = 0 from rfl] at hx241_2); (try rw [Addr.add_zero'] at hx241_2); (try rw [show ((0 : Int)).toNat = 0 from rfl] at hx241_3); (try rw [show 0 * 4 = 0 from rfl] at hx241_3); (try rw [Addr.add_zero'] at hx241_3); have HR241_3 := Aside0.mk hi241_3; have HC241_3 := Aside0.mk hl241_3; clear hi241_3 hl241_3; replace p241 := eq_true p241; replace q241 := eq_true q241; have p242 : 0 ≤ (1 : Int) := (by omega); have q242 : 1 < (t238.length : Int) := of_decide_eq_true (by first | (with_reducible assumption) | assumption); obtain ⟨ad242, A242_3, c242_3, e242, hx242_0, hx242_1, hx242_2, hx242_3, hl242_3, hi242_3⟩ := at_T25 (Kd.N_reads' HO240.out).2.2 1 p242 q242; obtain rfl : ad241 = ad242 := (by injection e242); obtain ⟨ce242, hce242, hMe242, hcc242⟩ := Kd.N_get HO240.out z25 1 p242 (by first | exact q242 | exact of_decide_eq_true (by first | (with_reducible assumption) | assumption) | (have e_ := (Kd.N_reads' HO240.out).1; omega)); obtain ⟨ua242_3, uc242_3, rfl, ul242_3, ge242_3⟩ := k25_openF hMe242; have hv242_3 := hcc242 3 _ rfl; rw [add_field _ _ 3 (by omega)] at hv242_3; replace hv242_3 := Option.some.inj (hv242_3.symm.trans hx242_3); injection hv242_3 with hva_ hvn_ hvc_; rw [hva_] at ge242_3; rw [hvc_] at ul242_3; have HL242_3 := Aside0.mk (show Kd.V k38 38 _ w.heap.size _ _ ((rd_T25 t238 1).f3) from Kd.V_mk ul242_3 ge242_3); clear hva_ hvn_ hvc_ ge242_3 ul242_3; clear hcc242 hce242; (try simp only [show (1 : Int).toNat = 1 from rfl, Nat.reduceMul, Nat.reduceEqDiff, Go.Addr.add, ↓reduceIte] at hx242_0); (try simp only [show (1 : Int).toNat = 1 from rfl, Nat.reduceMul, Nat.reduceEqDiff, Go.Addr.add, ↓reduceIte] at hx242_1); (try simp only [show (1 : Int).toNat = 1 from rfl, Nat.reduceMul, Nat.reduceEqDiff, Go.Addr.add, ↓reduceIte] at hx242_2); (try simp only [show (1 : Int).toNat = 1 from rfl, Nat.reduceMul, Nat.reduceEqDiff, Go.Addr.add, ↓reduceIte] at hx242_3); have qi242 : (1 < t238.length) = True := eq_true (by omega); (try rw [show ((1 : Int)).toNat = 1 from rfl] at hx242_0); (try rw [show 1 * 4 = 4 from rfl] at hx242_0); (try rw [show ((1 : Int)).toNat = 1 from rfl] at hx242_1); (try rw [show 1 * 4 = 4 from rfl] at hx242_1); (try rw [show ((1 : Int)).toNat = 1 from rfl] at hx242_2); (try rw [show 1 * 4 = 4 from rfl] at hx242_2); (try rw [show ((1 : Int)).toNat = 1 from rfl] at hx242_3); (try rw [show 1 * 4 = 4 from rfl] at hx242_3); have HR242_3 := Aside0.mk hi242_3; have HC242_3 := Aside0.mk hl242_3; clear hi242_3 hl242_3; replace p242 := eq_true p242; replace q242 := eq_true q242; have p243 : 0 ≤ (1 : Int) := (by omega); have q243 : 1 < (t238.length : Int) := of_decide_eq_true (by first | (with_reducible assumption) | assumption); obtain ⟨ad243, A243_3, c243_3, e243, hx243_0, hx243_1, hx243_2, hx243_3, hl243_3, hi243_3⟩ := at_T25 (Kd.N_reads' HO240.out).2.2 1 p243 q243; obtain rfl : ad241 = ad243 := (by injection e243); obtain ⟨ce243, hce243, hMe243, hcc243⟩ := Kd.N_get HO240.out z25 1 p243 (by first | exact q243 | exact of_decide_eq_true (by first | (with_reducible assumption) | assumption) | (have e_ := (Kd.N_reads' HO240.out).1; omega)); obtain ⟨ua243_3, uc243_3, rfl, ul243_3, ge243_3⟩ := k25_openF hMe243; have hv243_3 := hcc243 3 _ rfl; rw [add_field _ _ 3 (by omega)] at hv243_3; replace hv243_3 := Option.some.inj (hv243_3.symm.trans hx243_3); injection hv243_3 with hva_ hvn_ hvc_; rw [hva_] at ge243_3; rw [hvc_] at ul243_3; have HL243_3 := Aside0.mk (show Kd.V k38 38 _ w.heap.size _ _ ((rd_T25 t238 1).f3) from Kd.V_mk ul243_3 ge243_3); clear hva_ hvn_ hvc_ ge243_3 ul243_3; clear hcc243 hce243; (try simp only [show (1 : Int).toNat = 1 from rfl, Nat.reduceMul, Nat.reduceEqDiff, Go.Addr.add, ↓reduceIte] at hx243_0); (try simp only [show (1 : Int).toNat = 1 from rfl, Nat.reduceMul, Nat.reduceEqDiff, Go.Addr.add, ↓reduceIte] at hx243_1); (try simp only [show (1 : Int).toNat = 1 from rfl, Nat.reduceMul, Nat.reduceEqDiff, Go.Addr.add, ↓reduceIte] at hx243_2); (try simp only [show (1 : Int).toNat = 1 from rfl, Nat.reduceMul, Nat.reduceEqDiff, Go.Addr.add, ↓reduceIte] at hx243_3); have qi243 : (1 < t238.length) = True := eq_true (by omega); (try rw [show ((1 : Int)).toNat = 1 from rfl] at hx243_0); (try rw [show 1 * 4 = 4 from rfl] at hx243_0); (try rw [show ((1 : Int)).toNat = 1 from rfl] at hx243_1); (try rw [show 1 * 4 = 4 from rfl] at hx243_1); (try rw [show ((1 : Int)).toNat = 1 from rfl] at hx243_2); (try rw [show 1 * 4 = 4 from rfl] at hx243_2); (try rw [show ((1 : Int)).toNat = 1 from rfl] at hx243_3); (try rw [show 1 * 4 = 4 from rfl] at hx243_3); have HR243_3 := Aside0.mk hi243_3; have HC243_3 := Aside0.mk hl243_3; clear hi243_3 hl243_3; replace p243 := eq_true p243; replace q243 := eq_true q243; have ea_ := Option.some.inj (hx242_3.symm.trans hx243_3); injection ea_ with ea_ en_ ec_; subst ea_; subst ec_; clear en_))
       go_ret
       exact ⟨by first | rfl | (simp [errW_none, errW_some] <;> rfl) | (simp [*, errW_none, errW_some] <;> rfl), by repeat (first | (with_reducible first | exact HB.out | apply below_alloc | apply pw_below_drewN | apply below_drew1) | exact HB.out)⟩
     ·rw [if_neg c6] at H
      have c6b0 : (((rd_T25 t238 1).f0) == 3) = false := beq_eq_false_iff_ne.mpr c6
      have c6b1 : (((rd_T25 t238 1).f0) != 3) = true := bne_iff_ne.mpr c6
      obtain rfl := Option.some.inj H
      go_enter Tryd.func8, Tryd.ntmps8
      go_wp2_with (first | ((with_reducible refine gate_dst (N := 2) rfl ?_); (try (refine gate_guard (by rfl) ?_; dsimp only)); refine V_litsG _ 5 ?hg (N := 2) ?hd (xs := ([97, 46, 32, 40, 98] : List Int)) ?hr ?hw2 ?hr2 (Below.refl _ _) (Nat.le_refl _) (by simp) ?_; (case hd => rfl); (case hg => rfl); (case hr => intro W_; first | (go_simp; done) | (go_simp; rfl)); (case hw2 => rfl); (case hr2 => intro W_; go_simp; rw [run_convert_lit _ 22 5 _ _ _ Tryd.underlying22 Tryd.underlying5]; rfl); intro v236 w30 ho31 hb hg_ hnew_; clear hg_ hnew_; (first | rw [← Ny235.out] at ho31 | (simp only [Int.reduceToNat] at ho31; rw [← Ny235.out] at ho31)); have n0_ := Aside0.mk (Kd.V_lower (Kd.V_mono (ok' := fun k_ => True) ho31 (fun k_ hk_ => trivial)) (below_size (by repeat (first | (with_reducible first | exact HB.out | apply below_alloc | apply pw_below_drewN | apply below_drew1) | exact HB.out)))); have n1_ := Aside0.mk (below_step (by repeat (first | (with_reducible first | exact HB.out | apply below_alloc | apply pw_below_drewN | apply below_drew1) | exact HB.out)) hb); clear HB; have HO237 := n0_; have HB := n1_; clear n0_ n1_; clear hb ho31; obtain ⟨Ao32, co32, eo32⟩ := Kd.V_slice HO237.out; subst eo32) | ((with_reducible refine gate_callee (f := 13) rfl ?_); refine goesL_ (some 4) rfl rfl Tryd.func13 (by kernel_rfl) rfl #[.slice Ao32 y235.length co32] rfl (by (try simp only [List.map_toArray, List.map_cons, List.map_nil]); first | done | rfl | (simp only [List.length_drop, List.length_take]; rfl)) ?_; (with_reducible refine (split_Pieces.calls k _ _ y235 t238 _ ?side1 ?side2 ?side3 A1.out).mono ?_); (case side1 => exact Gl.below HG.out (by repeat (first | (with_reducible first | exact HB.out | apply below_alloc | apply pw_below_drewN | apply below_drew1) | exact HB.out))); (case side2 => repeat (first | exact (Kd.V_reads' HO237.out).2.2 | (with_reducible refine Kd.C_alloc ?_ _) | (with_reducible refine Kd.C_drewN ?_ _) | (with_reducible refine Kd.C_drew ?_))); (case side3 => exact (Kd.V_reads' HO237.out).2.1); rintro e w33 ⟨v239, rfl, ho0, hb⟩; refine ⟨_, rfl, ?_⟩; have n0_ := Aside0.mk (Kd.V_elder' (by (with_reducible repeat (first | apply Kd.V_alloc | apply Kd.V_drewN | apply Kd.V_drew)); exact HO237.out) (Kd.N_base ho0) hb); have n1_ := Aside0.mk (Kd.N_lower (Kd.N_mono (ok' := fun k_ => True) ho0 (fun k_ hk_ => trivial)) (below_size (by repeat (first | (with_reducible first | exact HB.out | apply below_alloc | apply pw_below_drewN | apply below_drew1) | exact HB.out)))); have n2_ := Aside0.mk (below_step (by repeat (first | (with_reducible first | exact HB.out | apply below_alloc | apply pw_below_drewN | apply below_drew1) | exact HB.out)) hb); clear HO237; clear HB; have HO237 := n0_; have HO240 := n1_; have HB := n2_; clear n0_ n1_ n2_; (try clear hb); (try clear hb2); (try clear hk); (try clear hi); (try clear ho0); obtain ⟨Ao34, co34, eo34⟩ := Kd.N_slice HO240.out; subst eo34; have p241 : 0 ≤ (0 : Int) := (by omega); have q241 : 0 < (t238.length : Int) := of_decide_eq_true (by first | (with_reducible assumption) | assumption); obtain ⟨ad241, A241_3, c241_3, e241, hx241_0, hx241_1, hx241_2, hx241_3, hl241_3, hi241_3⟩ := at_T25 (Kd.N_reads' HO240.out).2.2 0 p241 q241; cases e241; obtain ⟨ce241, hce241, hMe241, hcc241⟩ := Kd.N_get HO240.out z25 0 p241 (by first | exact q241 | exact of_decide_eq_true (by first | (with_reducible assumption) | assumption) | (have e_ := (Kd.N_reads' HO240.out).1; omega)); obtain ⟨ua241_3, uc241_3, rfl, ul241_3, ge241_3⟩ := k25_openF hMe241; have hv241_3 := hcc241 3 _ rfl; rw [add_field _ _ 3 (by omega)] at hv241_3; replace hv241_3 := Option.some.inj (hv241_3.symm.trans hx241_3); injection hv241_3 with hva_ hvn_ hvc_; rw [hva_] at ge241_3; rw [hvc_] at ul241_3; have HL241_3 := Aside0.mk (show Kd.V k38 38 _ w.heap.size _ _ ((rd_T25 t238 0).f3) from Kd.V_mk ul241_3 ge241_3); clear hva_ hvn_ hvc_ ge241_3 ul241_3; clear hcc241 hce241; have qi241 : (0 < t238.length) = True := eq_true (by omega); (try rw [show ((0 : Int)).toNat = 0 from rfl] at hx241_0); (try rw [show 0 * 4 = 0 from rfl] at hx241_0); (try rw [Addr.add_zero'] at hx241_0); (try rw [show ((0 : Int)).toNat = 0 from rfl] at hx241_1); (try rw [show 0 * 4 = 0 from rfl] at hx241_1); (try rw [Addr.add_zero'] at hx241_1); (try rw [show ((0 : Int)).toNat = 0 from rfl] at hx241_2); (try rw [show 0 * 4 = 0 from rfl] at hx241_2); (try rw [Addr.add_zero'] at hx241_2); (try rw [show ((0 : Int)).toNat = 0 from rfl] at hx241_3); (try rw [show 0 * 4 = 0 from rfl] at hx241_3); (try rw [Addr.add_zero'] at hx241_3); have HR241_3 := Aside0.mk hi241_3; have HC241_3 := Aside0.mk hl241_3; clear hi241_3 hl241_3; replace p241 := eq_true p241; replace q241 := eq_true q241; have p242 : 0 ≤ (1 : Int) := (by omega); have q242 : 1 < (t238.length : Int) := of_decide_eq_true (by first | (with_reducible assumption) | assumption); obtain ⟨ad242, A242_3, c242_3, e242, hx242_0, hx242_1, hx242_2, hx242_3, hl242_3, hi242_3⟩ := at_T25 (Kd.N_reads' HO240.out).2.2 1 p242 q242; obtain rfl : ad241 = ad242 := (by injection e242); obtain ⟨ce242, hce242, hMe242, hcc242⟩ := Kd.N_get HO240.out z25 1 p242 (by first | exact q242 | exact of_decide_eq_true (by first | (with_reducible assumption) | assumption) | (have e_ := (Kd.N_reads' HO240.out).1; omega)); obtain ⟨ua242_3, uc242_3, rfl, ul242_3, ge242_3⟩ := k25_openF hMe242; have hv242_3 := hcc242 3 _ rfl; rw [add_field _ _ 3 (by omega)] at hv242_3; replace hv242_3 := Option.some.inj (hv242_3.symm.trans hx242_3); injection hv242_3 with hva_ hvn_ hvc_; rw [hva_] at ge242_3; rw [hvc_] at ul242_3; have HL242_3 := Aside0.mk (show Kd.V k38 38 _ w.heap.size _ _ ((rd_T25 t238 1).f3) from Kd.V_mk ul242_3 ge242_3); clear hva_ hvn_ hvc_ ge242_3 ul242_3; clear hcc242 hce242; (try simp only [show (1 : Int).toNat = 1 from rfl, Nat.reduceMul, Nat.reduceEqDiff, Go.Addr.add, ↓reduceIte] at hx242_0); (try simp only [show (1 : Int).toNat = 1 from rfl, Nat.reduceMul, Nat.reduceEqDiff, Go.Addr.add, ↓reduceIte] at hx242_1); (try simp only [show (1 : Int).toNat = 1 from rfl, Nat.reduceMul, Nat.reduceEqDiff, Go.Addr.add, ↓reduceIte] at hx242_2); (try simp only [show (1 : Int).toNat = 1 from rfl, Nat.reduceMul, Nat.reduceEqDiff, Go.Addr.add, ↓reduceIte] at hx242_3); have qi242 : (1 < t238.length) = True := eq_true (by omega); (try rw [show ((1 : Int)).toNat = 1 from rfl] at hx242_0); (try rw [show 1 * 4 = 4 from rfl] at hx242_0); (try rw [show ((1 : Int)).toNat = 1 from rfl] at hx242_1); (try rw [show 1 * 4 = 4 from rfl] at hx242_1); (try rw [show ((1 : Int)).toNat = 1 from rfl] at hx242_2); (try rw [show 1 * 4 = 4 from rfl] at hx242_2); (try rw [show ((1 : Int)).toNat = 1 from rfl] at hx242_3); (try rw [show 1 * 4 = 4 from rfl] at hx242_3); have HR242_3 := Aside0.mk hi242_3; have HC242_3 := Aside0.mk hl242_3; clear hi242_3 hl242_3; replace p242 := eq_true p242; replace q242 := eq_true q242))
      go_ret
      exact ⟨by first | rfl | (simp [errW_none, errW_some] <;> rfl) | (simp [*, errW_none, errW_some] <;> rfl), by repeat (first | (with_reducible first | exact HB.out | apply below_alloc | apply pw_below_drewN | apply below_drew1) | exact HB.out)⟩
    ·rw [if_neg c5] at H
     exact absurd H (by simp)
   ·rw [if_neg c4] at H
    have c4b0 : (((rd_T25 t238 0).f1) == 2) = false := beq_eq_false_iff_ne.mpr c4
    have c4b1 : (((rd_T25 t238 0).f1) != 2) = true := bne_iff_ne.mpr c4
    obtain rfl := Option.some.inj H
    go_enter Tryd.func8, Tryd.ntmps8
    go_wp2_with (first | ((with_reducible refine gate_dst (N := 2) rfl ?_); (try (refine gate_guard (by rfl) ?_; dsimp only)); refine V_litsG _ 5 ?hg (N := 2) ?hd (xs := ([97, 46, 32, 40, 98] : List Int)) ?hr ?hw2 ?hr2 (Below.refl _ _) (Nat.le_refl _) (by simp) ?_; (case hd => rfl); (case hg => rfl); (case hr => intro W_; first | (go_simp; done) | (go_simp; rfl)); (case hw2 => rfl); (case hr2 => intro W_; go_simp; rw [run_convert_lit _ 22 5 _ _ _ Tryd.underlying22 Tryd.underlying5]; rfl); intro v236 w35 ho36 hb hg_ hnew_; clear hg_ hnew_; (first | rw [← Ny235.out] at ho36 | (simp only [Int.reduceToNat] at ho36; rw [← Ny235.out] at ho36)); have n0_ := Aside0.mk (Kd.V_lower (Kd.V_mono (ok' := fun k_ => True) ho36 (fun k_ hk_ => trivial)) (below_size (by repeat (first | (with_reducible first | exact HB.out | apply below_alloc | apply pw_below_drewN | apply below_drew1) | exact HB.out)))); have n1_ := Aside0.mk (below_step (by repeat (first | (with_reducible first | exact HB.out | apply below_alloc | apply pw_below_drewN | apply below_drew1) | exact HB.out)) hb); clear HB; have HO237 := n0_; have HB := n1_; clear n0_ n1_; clear hb ho36; obtain ⟨Ao37, co37, eo37⟩ := Kd.V_slice HO237.out; subst eo37) | ((with_reducible refine gate_callee (f := 13) rfl ?_); refine goesL_ (some 4) rfl rfl Tryd.func13 (by kernel_rfl) rfl #[.slice Ao37 y235.length co37] rfl (by (try simp only [List.map_toArray, List.map_cons, List.map_nil]); first | done | rfl | (simp only [List.length_drop, List.length_take]; rfl)) ?_; (with_reducible refine (split_Pieces.calls k _ _ y235 t238 _ ?side1 ?side2 ?side3 A1.out).mono ?_); (case side1 => exact Gl.below HG.out (by repeat (first | (with_reducible first | exact HB.out | apply below_alloc | apply pw_below_drewN | apply below_drew1) | exact HB.out))); (case side2 => repeat (first | exact (Kd.V_reads' HO237.out).2.2 | (with_reducible refine Kd.C_alloc ?_ _) | (with_reducible refine Kd.C_drewN ?_ _) | (with_reducible refine Kd.C_drew ?_))); (case side3 => exact (Kd.V_reads' HO237.out).2.1); rintro e w38 ⟨v239, rfl, ho0, hb⟩; refine ⟨_, rfl, ?_⟩; have n0_ := Aside0.mk (Kd.V_elder' (by (with_reducible repeat (first | apply Kd.V_alloc | apply Kd.V_drewN | apply Kd.V_drew)); exact HO237.out) (Kd.N_base ho0) hb); have n1_ := Aside0.mk (Kd.N_lower (Kd.N_mono (ok' := fun k_ => True) ho0 (fun k_ hk_ => trivial)) (below_size (by repeat (first | (with_reducible first | exact HB.out | apply below_alloc | apply pw_below_drewN | apply below_drew1) | exact HB.out)))); have n2_ := Aside0.mk (below_step (by repeat (first | (with_reducible first | exact HB.out | apply below_alloc | apply pw_below_drewN | apply below_drew1) | exact HB.out)) hb); clear HO237; clear HB; have HO237 := n0_; have HO240 := n1_; have HB := n2_; clear n0_ n1_ n2_; (try clear hb); (try clear hb2); (try clear hk); (try clear hi); (try clear ho0); obtain ⟨Ao39, co39, eo39⟩ := Kd.N_slice HO240.out; subst eo39; have p241 : 0 ≤ (0 : Int) := (by omega); have q241 : 0 < (t238.length : Int) := of_decide_eq_true (by first | (with_reducible assumption) | assumption); obtain ⟨ad241, A241_3, c241_3, e241, hx241_0, hx241_1, hx241_2, hx241_3, hl241_3, hi241_3⟩ := at_T25 (Kd.N_reads' HO240.out).2.2 0 p241 q241; cases e241; obtain ⟨ce241, hce241, hMe241, hcc241⟩ := Kd.N_get HO240.out z25 0 p241 (by first | exact q241 | exact of_decide_eq_true (by first | (with_reducible assumption) | assumption) | (have e_ := (Kd.N_reads' HO240.out).1; omega)); obtain ⟨ua241_3, uc241_3, rfl, ul241_3, ge241_3⟩ := k25_openF hMe241; have hv241_3 := hcc241 3 _ rfl; rw [add_field _ _ 3 (by omega)] at hv241_3; replace hv241_3 := Option.some.inj (hv241_3.symm.trans hx241_3); injection hv241_3 with hva_ hvn_ hvc_; rw [hva_] at ge241_3; rw [hvc_] at ul241_3; have HL241_3 := Aside0.mk (show Kd.V k38 38 _ w.heap.size _ _ ((rd_T25 t238 0).f3) from Kd.V_mk ul241_3 ge241_3); clear hva_ hvn_ hvc_ ge241_3 ul241_3; clear hcc241 hce241; have qi241 : (0 < t238.length) = True := eq_true (by omega); (try rw [show ((0 : Int)).toNat = 0 from rfl] at hx241_0); (try rw [show 0 * 4 = 0 from rfl] at hx241_0); (try rw [Addr.add_zero'] at hx241_0); (try rw [show ((0 : Int)).toNat = 0 from rfl] at hx241_1); (try rw [show 0 * 4 = 0 from rfl] at hx241_1); (try rw [Addr.add_zero'] at hx241_1); (try rw [show ((0 : Int)).toNat = 0 from rfl] at hx241_2); (try rw [show 0 * 4 = 0 from rfl] at hx241_2); (try rw [Addr.add_zero'] at hx241_2); (try rw [show ((0 : Int)).toNat = 0 from rfl] at hx241_3); (try rw [show 0 * 4 = 0 from rfl] at hx241_3); (try rw [Addr.add_zero'] at hx241_3); have HR241_3 := Aside0.mk hi241_3; have HC241_3 := Aside0.mk hl241_3; clear hi241_3 hl241_3; replace p241 := eq_true p241; replace q241 := eq_true q241))
    go_ret
    exact ⟨by first | rfl | (simp [errW_none, errW_some] <;> rfl) | (simp [*, errW_none, errW_some] <;> rfl), by repeat (first | (with_reducible first | exact HB.out | apply below_alloc | apply pw_below_drewN | apply below_drew1) | exact HB.out)⟩
  ·rw [if_neg c3] at H
   exact absurd H (by simp)
 ·rw [if_neg c2] at H
  have c2b0 : ((t238.length : Int) == 2) = false := beq_eq_false_iff_ne.mpr c2
  have c2b1 : ((t238.length : Int) != 2) = true := bne_iff_ne.mpr c2
  obtain rfl := Option.some.inj H
  go_enter Tryd.func8, Tryd.ntmps8
  go_wp2_with (first | ((with_reducible refine gate_dst (N := 2) rfl ?_); (try (refine gate_guard (by rfl) ?_; dsimp only)); refine V_litsG _ 5 ?hg (N := 2) ?hd (xs := ([97, 46, 32, 40, 98] : List Int)) ?hr ?hw2 ?hr2 (Below.refl _ _) (Nat.le_refl _) (by simp) ?_; (case hd => rfl); (case hg => rfl); (case hr => intro W_; first | (go_simp; done) | (go_simp; rfl)); (case hw2 => rfl); (case hr2 => intro W_; go_simp; rw [run_convert_lit _ 22 5 _ _ _ Tryd.underlying22 Tryd.underlying5]; rfl); intro v236 w40 ho41 hb hg_ hnew_; clear hg_ hnew_; (first | rw [← Ny235.out] at ho41 | (simp only [Int.reduceToNat] at ho41; rw [← Ny235.out] at ho41)); have n0_ := Aside0.mk (Kd.V_lower (Kd.V_mono (ok' := fun k_ => True) ho41 (fun k_ hk_ => trivial)) (below_size (by repeat (first | (with_reducible first | exact HB.out | apply below_alloc | apply pw_below_drewN | apply below_drew1) | exact HB.out)))); have n1_ := Aside0.mk (below_step (by repeat (first | (with_reducible first | exact HB.out | apply below_alloc | apply pw_below_drewN | apply below_drew1) | exact HB.out)) hb); clear HB; have HO237 := n0_; have HB := n1_; clear n0_ n1_; clear hb ho41; obtain ⟨Ao42, co42, eo42⟩ := Kd.V_slice HO237.out; subst eo42) | ((with_reducible refine gate_callee (f := 13) rfl ?_); refine goesL_ (some 4) rfl rfl Tryd.func13 (by kernel_rfl) rfl #[.slice Ao42 y235.length co42] rfl (by (try simp only [List.map_toArray, List.map_cons, List.map_nil]); first | done | rfl | (simp only [List.length_drop, List.length_take]; rfl)) ?_; (with_reducible refine (split_Pieces.calls k _ _ y235 t238 _ ?side1 ?side2 ?side3 A1.out).mono ?_); (case side1 => exact Gl.below HG.out (by repeat (first | (with_reducible first | exact HB.out | apply below_alloc | apply pw_below_drewN | apply below_drew1) | exact HB.out))); (case side2 => repeat (first | exact (Kd.V_reads' HO237.out).2.2 | (with_reducible refine Kd.C_alloc ?_ _) | (with_reducible refine Kd.C_drewN ?_ _) | (with_reducible refine Kd.C_drew ?_))); (case side3 => exact (Kd.V_reads' HO237.out).2.1); rintro e w43 ⟨v239, rfl, ho0, hb⟩; refine ⟨_, rfl, ?_⟩; have n0_ := Aside0.mk (Kd.V_elder' (by (with_reducible repeat (first | apply Kd.V_alloc | apply Kd.V_drewN | apply Kd.V_drew)); exact HO237.out) (Kd.N_base ho0) hb); have n1_ := Aside0.mk (Kd.N_lower (Kd.N_mono (ok' := fun k_ => True) ho0 (fun k_ hk_ => trivial)) (below_size (by repeat (first | (with_reducible first | exact HB.out | apply below_alloc | apply pw_below_drewN | apply below_drew1) | exact HB.out)))); have n2_ := Aside0.mk (below_step (by repeat (first | (with_reducible first | exact HB.out | apply below_alloc | apply pw_below_drewN | apply below_drew1) | exact HB.out)) hb); clear HO237; clear HB; have HO237 := n0_; have HO240 := n1_; have HB := n2_; clear n0_ n1_ n2_; (try clear hb); (try clear hb2); (try clear hk); (try clear hi); (try clear ho0); obtain ⟨Ao44, co44, eo44⟩ := Kd.N_slice HO240.out; subst eo44))
  go_ret
  exact ⟨by first | rfl | (simp [errW_none, errW_some] <;> rfl) | (simp [*, errW_none, errW_some] <;> rfl), by repeat (first | (with_reducible first | exact HB.out | apply below_alloc | apply pw_below_drewN | apply below_drew1) | exact HB.out)⟩
end Go.Proofs.YtpkklbdclghcfaaDoor.P
