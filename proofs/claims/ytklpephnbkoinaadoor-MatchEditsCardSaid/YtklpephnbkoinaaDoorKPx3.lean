/- Part of the proof: what the theorem needs of this text. -/
import Derived.Test.YtklpephnbkoinaaDoorKHG
import Derived.Test.YtklpephnbkoinaaDoorKPx0
namespace Go.Proofs.YtklpephnbkoinaaDoor.P
open Go.RowKit Go.Proofs.YtklpephnbkoinaaDoorW.PrintWords Go.Proofs.YtklpephnbkoinaaDoorW.PrintLast Go.Proofs.YtklpephnbkoinaaDoorW.PrintMore
attribute [local go_sem] max2_int min2_int max_two min_two max_three min_three max_four min_four   -- for this text's walks alone
set_option linter.unusedVariables false
set_option linter.unusedSimpArgs false
def split_Pieces_1.f (a0_0 : Int) (a0_1 : Int) (a0_2 : Int) (a0_3 : ByteArray) (a0_4 : Int) : Option (Bool) := some (a0_0 == 7)
set_option maxHeartbeats 8000000 in
set_option maxRecDepth 100000 in
theorem split_Pieces_1.calls (a0_0 : Int) (a0_1 : Int) (a0_2 : Int) (a0_3 : ByteArray) (a0_4 : Int) (r : Bool) (w : World) (h : split_Pieces_1.f a0_0 a0_1 a0_2 a0_3 a0_4 = some r) :
  Calls Tryd.prog 18 #[.agg #[.int .i64 a0_0, .int .i64 a0_1, .int .i64 a0_2, .string a0_3, .int .i64 a0_4]] w fun e w' => e = .returned (.bool r) ∧ Below w.heap.size w w' := by
 have hu39 := Tryd.underlying39
 have HB := Aside0.mk (Below.refl w.heap.size w)
 have H : (some (a0_0 == 7)) = some r := h
 clear h
 obtain rfl := Option.some.inj H
 go_enter Tryd.func18, Tryd.ntmps18
 go_wp2_with (first | ((with_reducible refine gate_dst (N := 1) rfl ?_); refine box_event ?hg (N := 1) ?hd (cs := #[.int .i64 a0_0, .int .i64 a0_1, .int .i64 a0_2, .string a0_3, .int .i64 a0_4]) (t := 39) ?hr ?_; (case hd => rfl); (case hg => rfl); (case hr => first | (go_simp; done) | (go_simp; rfl)); intro gb128 hg w2 hbox hb; have BK128 := Aside0.mk (hbox); have GW128 := Aside0.mk (gE (g := gb128) hg HB.out); have GE128 := Aside0.mk (gE (g := gb128) hg HB.out); replace HB := Aside0.mk (below_step (bAt HB.out) hb); clear hb hbox hg; obtain ⟨hcz3_0, hcz3_1, hcz3_2, hcz3_3, hcz3_4, hfz3_0, hfz3_1, hfz3_2, hfz3_3, hfz3_4⟩ := blk5 BK128.out))
 go_ret
 exact ⟨eR, bAt HB.out⟩
def api_Token_20.l0 : Nat → List (S39) → Int → Int → Option (Int)
 | 0, _, _, _ => none
 | k + 1, x0, x7, x8 => if x8 < x7 then (if 0 ≤ x8 then (if x8 < (x0.length : Int) then ((split_Pieces_1.f ((rd_T39 x0 x8).f0) ((rd_T39 x0 x8).f1) ((rd_T39 x0 x8).f2) ((rd_T39 x0 x8).f3) ((rd_T39 x0 x8).f4)).bind fun t130 => (if t130 = true then (some x8) else (api_Token_20.l0 k x0 x7 (wrap64 (x8 + 1))))) else (none)) else (none)) else (some (-1))
def api_Token_20.f (k : Nat) (l0 : List (S39)) : Option (Int) := api_Token_20.l0 k l0 (l0.length : Int) 0
theorem api_Token_20.mono_l : ∀ k, (∀ y0 y1 y2, LeO (api_Token_20.l0 k y0 y1 y2) (api_Token_20.l0 (k + 1) y0 y1 y2))
 | 0 => fun _ _ _ r h => by simp [api_Token_20.l0] at h
 | k + 1 => by
  have ih0 := api_Token_20.mono_l k
  ·intro y0 y1 y2
   unfold api_Token_20.l0
   repeat' with_reducible first | exact ih0 _ _ _ | exact LeO.refl _ | exact LeO.none _ | refine LeO.ite ?_ ?_ | refine LeO.bind ?_ (fun _ => ?_)
theorem api_Token_20.mono : ∀ a0 k, LeO (api_Token_20.f k a0) (api_Token_20.f (k + 1) a0) := by
 intro a0 k
 have ih0 := api_Token_20.mono_l k
 unfold api_Token_20.f
 repeat' with_reducible first | exact ih0 _ _ _ | exact LeO.refl _ | exact LeO.none _ | refine LeO.ite ?_ ?_ | refine LeO.bind ?_ (fun _ => ?_)
set_option maxHeartbeats 8000000 in
set_option maxRecDepth 100000 in
theorem api_Token_20.calls (k : Nat) (A0 : Option Addr) (c0 : Nat) (l0 : List (S39)) (r : Int) (w : World) (hr0 : Kd.C k39 w A0 l0.length l0) (hc0 : l0.length ≤ c0) (h : api_Token_20.f k l0 = some r) :
  Calls Tryd.prog 20 #[.slice A0 l0.length c0, .func (.func 18) #[] #[]] w fun e w' => e = .returned (.int .i64 r) ∧ Below w.heap.size w w' := by
 have hu39 := Tryd.underlying39
 have HR0 := Aside0.mk hr0
 have HC0 := Aside0.mk hc0
 clear hr0 hc0
 have HB := Aside0.mk (Below.refl w.heap.size w)
 have H : (api_Token_20.l0 k l0 (l0.length : Int) 0) = some r := h
 clear h
 have H' := Aside0.mk H
 clear H
 go_enter Tryd.func20, Tryd.ntmps20
 go_wp2
 go_loopg [8] k (fun kq v8 w' => ∃ (x8_1 : Int), v8 = .int .i64 x8_1 ∧ Aside0 (api_Token_20.l0 kq l0 (l0.length : Int) x8_1 = some r) ∧ Aside0 (kq ≤ k) ∧ Aside0 (Below w.heap.size w w'))
 case atStart => exact ⟨(0), sR, H', ⟨Nat.le_refl _⟩, ⟨bAt HB.out⟩⟩
 case round =>
  clear H'
  obtain ⟨x8_1, rfl, HA, HK1, HB⟩ := hrel
  cases gk with
  | zero => exact absurd HA.out (by simp [api_Token_20.l0])
  | succ k1 =>
   have H := HA.out
   clear HA
   simp only [api_Token_20.l0] at H
   by_cases c2 : x8_1 < (l0.length : Int)
   ·rw [if_pos c2] at H
    have c2b0 := decide_eq_true c2
    clear c2
    by_cases c3 : 0 ≤ x8_1
    ·rw [if_pos c3] at H
     have c3b0 := decide_eq_true c3
     clear c3
     by_cases c4 : x8_1 < (l0.length : Int)
     ·rw [if_pos c4] at H
      have c4b0 := decide_eq_true c4
      clear c4
      obtain ⟨t130, A5, H⟩ := bE H
      by_cases c6 : t130 = true
      ·subst c6
       replace H := tP H
       obtain rfl := Option.some.inj H
       have p129 : 0 ≤ (x8_1 : Int) := dt
       have q129 : x8_1 < (l0.length : Int) := dt
       obtain ⟨ad129, e129, hx129_0, hx129_1, hx129_2, hx129_3, hx129_4⟩ := at_T39 HR0.out x8_1 p129 q129
       cases e129
       replace hx129_0 := pw_cell_below HB.out hx129_0
       replace hx129_1 := pw_cell_below HB.out hx129_1
       replace hx129_2 := pw_cell_below HB.out hx129_2
       replace hx129_3 := pw_cell_below HB.out hx129_3
       replace hx129_4 := pw_cell_below HB.out hx129_4
       replace p129 := eq_true p129
       replace q129 := eq_true q129
       go_wp2_with (first | ((with_reducible refine gate_dst (N := 16) rfl ?_); refine goesF_ (some 16) rfl rfl 18 Tryd.func18 (by kernel_rfl) rfl #[.agg #[.int .i64 ((rd_T39 l0 x8_1).f0), .int .i64 ((rd_T39 l0 x8_1).f1), .int .i64 ((rd_T39 l0 x8_1).f2), .string ((rd_T39 l0 x8_1).f3), .int .i64 ((rd_T39 l0 x8_1).f4)]] rfl gA ?_; (with_reducible refine (split_Pieces_1.calls ((rd_T39 l0 x8_1).f0) ((rd_T39 l0 x8_1).f1) ((rd_T39 l0 x8_1).f2) ((rd_T39 l0 x8_1).f3) ((rd_T39 l0 x8_1).f4) true _ A5.out).mono ?_); rintro e w7 ⟨rfl, hb⟩; refine ⟨_, rfl, ?_⟩; replace HB := Aside0.mk (below_step (bAt HB.out) hb); (try clear hb); (try clear hb2); (try clear hk); (try clear hi)))
       go_ret
       exact ⟨eR, bAt HB.out⟩
      ·replace c6 := Bool.eq_false_iff.mpr c6
       subst c6
       replace H := fP H
       have H' := Aside0.mk H
       clear H
       have p129 : 0 ≤ (x8_1 : Int) := dt
       have q129 : x8_1 < (l0.length : Int) := dt
       obtain ⟨ad129, e129, hx129_0, hx129_1, hx129_2, hx129_3, hx129_4⟩ := at_T39 HR0.out x8_1 p129 q129
       cases e129
       replace hx129_0 := pw_cell_below HB.out hx129_0
       replace hx129_1 := pw_cell_below HB.out hx129_1
       replace hx129_2 := pw_cell_below HB.out hx129_2
       replace hx129_3 := pw_cell_below HB.out hx129_3
       replace hx129_4 := pw_cell_below HB.out hx129_4
       replace p129 := eq_true p129
       replace q129 := eq_true q129
       go_wp2_with (first | ((with_reducible refine gate_dst (N := 16) rfl ?_); refine goesF_ (some 16) rfl rfl 18 Tryd.func18 (by kernel_rfl) rfl #[.agg #[.int .i64 ((rd_T39 l0 x8_1).f0), .int .i64 ((rd_T39 l0 x8_1).f1), .int .i64 ((rd_T39 l0 x8_1).f2), .string ((rd_T39 l0 x8_1).f3), .int .i64 ((rd_T39 l0 x8_1).f4)]] rfl gA ?_; (with_reducible refine (split_Pieces_1.calls ((rd_T39 l0 x8_1).f0) ((rd_T39 l0 x8_1).f1) ((rd_T39 l0 x8_1).f2) ((rd_T39 l0 x8_1).f3) ((rd_T39 l0 x8_1).f4) false _ A5.out).mono ?_); rintro e w8 ⟨rfl, hb⟩; refine ⟨_, rfl, ?_⟩; replace HB := Aside0.mk (below_step (bAt HB.out) hb); (try clear hb); (try clear hb2); (try clear hk); (try clear hi)))
       go_roundg k1
       case measure => have := HK1.out; omega
       case rel => exact ⟨(wrap64 (x8_1 + 1)), sR, H', ⟨by have := HK1.out; omega⟩, ⟨bAt HB.out⟩⟩
     ·exact nB H c4
    ·exact nB H c3
   ·rw [if_neg c2] at H
    have c2b0 := decide_eq_false c2
    clear c2
    obtain rfl := Option.some.inj H
    go_wp2
    go_ret
    exact ⟨eR, bAt HB.out⟩
def api_Token_16.l0 : Nat → List (S39) → List (List (S39)) → Option ((List (List (S39))))
 | 0, _, _ => none
 | k + 1, x0, x5 => if (x0.length : Int) > 0 then ((api_Token_20.f k x0).bind fun t131 => (if (wrap64 (t131 + 1)) = 0 then (if 0 ≤ (x0.length : Int) then (if (x0.length : Int) ≤ (x0.length : Int) then (if x5.length < 5864062014805 then (api_Token_16.l0 k (x0.drop ((x0.length : Int) : Int).toNat) (x5 ++ [(x0.take ((x0.length : Int) : Int).toNat)])) else (none)) else (none)) else (none)) else (if 0 ≤ (wrap64 (t131 + 1)) then (if (wrap64 (t131 + 1)) ≤ (x0.length : Int) then (if x5.length < 5864062014805 then (api_Token_16.l0 k (x0.drop ((wrap64 (t131 + 1)) : Int).toNat) (x5 ++ [(x0.take ((wrap64 (t131 + 1)) : Int).toNat)])) else (none)) else (none)) else (none)))) else (some x5)
def api_Token_16.f (k : Nat) (l0 : List (S39)) : Option ((List (List (S39)))) := api_Token_16.l0 k l0 ([] : List (List (S39)))
theorem api_Token_16.mono_l : ∀ k, (∀ y0 y1, LeO (api_Token_16.l0 k y0 y1) (api_Token_16.l0 (k + 1) y0 y1))
 | 0 => fun _ _ r h => by simp [api_Token_16.l0] at h
 | k + 1 => by
  have ih0 := api_Token_16.mono_l k
  ·intro y0 y1
   unfold api_Token_16.l0
   repeat' with_reducible first | exact ih0 _ _ | exact api_Token_20.mono _ _ | exact LeO.refl _ | exact LeO.none _ | refine LeO.ite ?_ ?_ | refine LeO.bind ?_ (fun _ => ?_)
theorem api_Token_16.mono : ∀ a0 k, LeO (api_Token_16.f k a0) (api_Token_16.f (k + 1) a0) := by
 intro a0 k
 have ih0 := api_Token_16.mono_l k
 unfold api_Token_16.f
 repeat' with_reducible first | exact ih0 _ _ | exact api_Token_20.mono _ _ | exact LeO.refl _ | exact LeO.none _ | refine LeO.ite ?_ ?_ | refine LeO.bind ?_ (fun _ => ?_)
set_option maxHeartbeats 8000000 in
set_option maxRecDepth 100000 in
theorem api_Token_16.calls (k : Nat) (P0_ : Nat → Prop) (A0 : Option Addr) (c0 : Nat) (l0 : List (S39)) (r : List (List (S39))) (w : World) (hs0 : Kd.V k39 39 w w.heap.size (fun k_ => P0_ k_) (.slice A0 l0.length c0) l0) (h : api_Token_16.f k l0 = some r) :
  Calls Tryd.prog 16 #[.slice A0 l0.length c0, .func (.func 18) #[] #[]] w fun e w' => ∃ v0_ : Value, e = .returned (v0_) ∧ Kd.N (Kd.slice 39 k39) 34 w' w.heap.size (fun k_ => (P0_ k_ ∨ w.heap.size ≤ k_)) v0_ r ∧ Below w.heap.size w w' := by
 have HO0 := Aside0.mk (show Kd.V k39 39 w w.heap.size (fun k_ => (P0_ k_ ∨ w.heap.size ≤ k_)) (.slice A0 l0.length c0) l0 from Kd.V_mono hs0 (fun k_ hk => .inl hk))
 have HB := Aside0.mk (Below.refl w.heap.size w)
 have H : (api_Token_16.l0 k l0 ([] : List (List (S39)))) = some r := h
 clear h
 have H' := Aside0.mk H
 clear H
 go_enter Tryd.func16, Tryd.ntmps16
 go_wp2
 go_loopg [0, 5] k (fun kq v0 v5 w' => ∃ (x0_1 : List (S39)) (x5_1 : List (List (S39))), Aside0 (api_Token_16.l0 kq x0_1 x5_1 = some r) ∧ Aside0 (kq ≤ k) ∧ Aside0 (Kd.V k39 39 w' w.heap.size (fun k_ => (P0_ k_ ∨ w.heap.size ≤ k_) ∧ some k_ ≠ (v5 : Value).ownBlock) v0 x0_1) ∧ Aside0 (Kd.N (Kd.slice 39 k39) 34 w' w.heap.size (fun k_ => (P0_ k_ ∨ w.heap.size ≤ k_)) v5 x5_1) ∧ Aside0 (Below w.heap.size w w'))
 case atStart => exact ⟨(l0), (([] : List (List (S39)))), H', ⟨Nat.le_refl _⟩, ⟨VAt (Kd.V_mono HO0.out (fun _ hk => ⟨hk, (by simp [Value.ownBlock])⟩))⟩, ⟨by first | exact Kd.S_nil _ _ _ _ _ | exact Kd.N_nil _ _ _ _ _ | exact Kd.V_nil _ _ _ _ _ | exact Kd.Q_nil _ _ _ _ _ | exact Kd.R_nil _ _ _ _ _⟩, ⟨bAt HB.out⟩⟩
 case round =>
  clear H'
  try clear c1
  obtain ⟨x0_1, x5_1, HA, HK1, HO_0, HO_5, HB⟩ := hrel
  cases gk with
  | zero => exact absurd HA.out (by simp [api_Token_16.l0])
  | succ k1 =>
   have H := HA.out
   clear HA
   simp only [api_Token_16.l0] at H
   by_cases c2 : (x0_1.length : Int) > 0
   ·rw [if_pos c2] at H
    have c2b0 : decide (0 < (x0_1.length : Int)) = true := decide_eq_true c2
    have c2b1 : decide (0 < x0_1.length) = true := decide_eq_true (by omega)
    clear c2
    obtain ⟨t131, A3, H⟩ := bE H
    by_cases c4 : (wrap64 (t131 + 1)) = 0
    ·rw [if_pos c4] at H
     obtain ⟨c4b0, c4b1⟩ := eqB c4
     clear c4
     by_cases c5 : 0 ≤ (x0_1.length : Int)
     ·rw [if_pos c5] at H
      have c5b0 := eq_true c5
      have c5b1 := decide_eq_true c5
      clear c5
      by_cases c6 : (x0_1.length : Int) ≤ (x0_1.length : Int)
      ·rw [if_pos c6] at H
       have c6b0 := eq_true c6
       have c6b1 := decide_eq_true c6
       clear c6
       obtain ⟨y132, hy132⟩ : ∃ y_ : List (S39), y_ = (x0_1.take ((x0_1.length : Int) : Int).toNat) := ⟨_, rfl⟩
       replace H : (if x5_1.length < 5864062014805 then (api_Token_16.l0 k1 (x0_1.drop ((x0_1.length : Int) : Int).toNat) (x5_1 ++ [y132])) else (none)) = some r := by first | (rw [hy132]; with_reducible exact H) | (have H2_ := (Option.bind_some _ _).symm.trans H; rw [hy132]; with_reducible exact H2_) | (have H2_ := (Option.bind_some _ _).symm.trans H; with_reducible exact H2_) | with_reducible exact H | (rw [hy132]; exact H) | exact H
       have Ny132 := Aside0.mk hy132
       clear hy132
       by_cases c7 : x5_1.length < 5864062014805
       ·rw [if_pos c7] at H
        have LMc7 := Aside0.mk c7
        clear c7
        obtain ⟨y137, hy137⟩ : ∃ y_ : List (List (S39)), y_ = (x5_1 ++ [y132]) := ⟨_, rfl⟩
        replace H : (api_Token_16.l0 k1 (x0_1.drop ((x0_1.length : Int) : Int).toNat) y137) = some r := by first | (rw [hy137]; with_reducible exact H) | (have H2_ := (Option.bind_some _ _).symm.trans H; rw [hy137]; with_reducible exact H2_) | (have H2_ := (Option.bind_some _ _).symm.trans H; with_reducible exact H2_) | with_reducible exact H | (rw [hy137]; exact H) | exact H
        have Ny137 := Aside0.mk hy137
        clear hy137
        have c8b0 := eq_true (dt : 0 ≤ (x0_1.length : Int))
        have c9b0 := eq_true (dt : (x0_1.length : Int) ≤ (x0_1.length : Int))
        obtain ⟨y140, hy140⟩ : ∃ y_ : List (S39), y_ = (x0_1.drop ((x0_1.length : Int) : Int).toNat) := ⟨_, rfl⟩
        replace H : (api_Token_16.l0 k1 y140 y137) = some r := by first | (rw [hy140]; with_reducible exact H) | (have H2_ := (Option.bind_some _ _).symm.trans H; rw [hy140]; with_reducible exact H2_) | (have H2_ := (Option.bind_some _ _).symm.trans H; with_reducible exact H2_) | with_reducible exact H | (rw [hy140]; exact H) | exact H
        have Ny140 := Aside0.mk hy140
        clear hy140
        have H' := Aside0.mk H
        clear H
        obtain ⟨Ao10, co10, eo10⟩ := Kd.V_slice HO_0.out
        subst eo10
        go_wp2_with (first | ((with_reducible refine gate_callee (f := 20) rfl ?_); refine gL (some 12) Tryd.func20 #[.slice Ao10 x0_1.length co10, .func (.func 18) #[] #[]] rfl gA ?_; (with_reducible refine (api_Token_20.calls k1 _ _ x0_1 t131 _ ?side1 ?side2 A3.out).mono ?_); (case side1 => exact CAt ((Kd.V_reads' HO_0.out).2.2)); (case side2 => exact (Kd.V_reads' HO_0.out).2.1); rintro e w11 ⟨rfl, hb⟩; refine ⟨_, rfl, ?_⟩; replace HO_0 := Aside0.mk (Kd.V_below (VAt HO_0.out) hb); replace HO_5 := Aside0.mk (Kd.N_below (NAt HO_5.out) hb); replace HB := Aside0.mk (below_step (bAt HB.out) hb); (try clear hb); (try clear hb2); (try clear hk); (try clear hi); have q12 : ((x0_1.length : Int) : Int) ≤ ((x0_1.length : Int) : Int) := dt; obtain ⟨i012, hi012, _, hsz12, _⟩ := info_parts info39; have hroom12 : x0_1.length ≤ co10 := (Kd.V_reads' HO_0.out).2.1; have hC12 : Kd.F k39 _ _ Ao10 x0_1.length x0_1 := (Kd.V_at (base := w.heap.size) HO_0.out).2.2; have hcut12 := cut_to_cap (P := Tryd.prog) 34 39 .i64 .i64 Tryd.underlying34 hi012 Ao10 x0_1.length co10 (x0_1.length : Int) dt q12 hroom12; have hr12 := Kd.F_take (m := ((x0_1.length : Int) : Int).toNat) hC12 (by omega); have hy12 : y132.length = ((x0_1.length : Int) : Int).toNat := (by rw [Ny132.out, List.length_take]; omega); rw [← Ny132.out] at hr12; rw [← hy12] at hcut12; have HO136 := Aside0.mk (show Kd.V k39 39 _ w.heap.size _ (.slice Ao10 y132.length y132.length) y132 from Kd.V_mk (by omega) hr12); have HC136 := Aside0.mk (show y132.length ≤ y132.length from by omega); clear hr12 hC12 hroom12 hi012 hsz12; have KY12 := Aside0.mk hy12; clear hy12; replace q12 := eq_true q12) | ((with_reducible refine gate_builtin (b := .append) (xs := #[.tmp 18, .tmp 23]) rfl ?_); at_builtin; refine Kd.N_append (Kd.slice 39 k39) (w0 := w) w.heap.size rfl (.tmp 18) (.tmp 23) 46 34 (.slice none 0 0) 24 rfl Tryd.underlying46 info34 rfl (by decide) (by omega) u5 x5_1 y132 [.slice Ao10 y132.length y132.length] (fun k_ => (P0_ k_ ∨ w.heap.size ≤ k_)) (fun k_ => ((fun k_ => (P0_ k_ ∨ w.heap.size ≤ k_))) k_ ∧ some k_ ≠ (u5 : Value).ownBlock) rfl rfl ?aP (fun _ hk => hk) ?aF ?aO ?aB ?aS ?aL ?_; (case aP => exact (Kd.FK_slice_mk (Kd.V_reads' (Kd.V_mono (ok' := (fun k_ => ((fun k_ => (P0_ k_ ∨ w.heap.size ≤ k_))) k_ ∧ some k_ ≠ (u5 : Value).ownBlock)) (HO136.out) (fun k_ hk => ⟨hk.1, hk.2⟩))).2.1 (Kd.V_F (Kd.V_mono (ok' := (fun k_ => ((fun k_ => (P0_ k_ ∨ w.heap.size ≤ k_))) k_ ∧ some k_ ≠ (u5 : Value).ownBlock)) (HO136.out) (fun k_ hk => ⟨hk.1, hk.2⟩))))); (case aB => exact (bAt HB.out)); (case aF => exact (fun k_ hk => (.inr (Nat.le_trans (below_size (bAt HB.out)) hk)))); (case aO => exact (NAt HO_5.out)); (case aS => exact (below_size (bAt HB.out))); (case aL => have := LMc7.out; omega); intro v138 w13 ho hb hg hat; rw [← Ny137.out] at ho; replace HO_0 := Aside0.mk (Kd.V_afterv (ok := (fun k_ => (P0_ k_ ∨ w.heap.size ≤ k_))) (VAt HO_0.out) hg hat); replace HO136 := Aside0.mk (Kd.V_afterv (ok := (fun k_ => (P0_ k_ ∨ w.heap.size ≤ k_))) (VAt HO136.out) hg hat); replace HB := Aside0.mk (hb); have HO139 := Aside0.mk (ho); clear HO_5; clear ho hb hg hat; have q14 : ((x0_1.length : Int) : Int) ≤ ((x0_1.length : Int) : Int) := dt; obtain ⟨i014, hi014, _, hsz14, _⟩ := info_parts info39; have hroom14 : x0_1.length ≤ co10 := (Kd.V_reads' HO_0.out).2.1; have hC14 : Kd.F k39 _ _ Ao10 x0_1.length x0_1 := (Kd.V_at (base := w.heap.size) HO_0.out).2.2; have q014 : (0 : Int) ≤ ((x0_1.length : Int) : Int) := dt; have hcut14 := cut_from (P := Tryd.prog) 34 39 .i64 Tryd.underlying34 hi014 5 hsz14 Ao10 x0_1.length co10 (x0_1.length : Int) q014 q14; have hr14 := Kd.F_cut (m := ((x0_1.length : Int) : Int).toNat) (c := co10) hC14 (by omega) hroom14; obtain ⟨A14, hA14⟩ : ∃ A1, A1 = (if co10 = ((x0_1.length : Int) : Int).toNat then Ao10 else (Ao10 : Option Addr).map (·.add (((x0_1.length : Int) : Int).toNat * 5))) := ⟨_, rfl⟩; obtain ⟨c14, hc14⟩ : ∃ c1, c1 = co10 - ((x0_1.length : Int) : Int).toNat := ⟨_, rfl⟩; have hy14 : y140.length = x0_1.length - ((x0_1.length : Int) : Int).toNat := (by rw [Ny140.out, List.length_drop] <;> omega); rw [show (x0_1).drop ((x0_1.length : Int) : Int).toNat = y140 from Ny140.out.symm] at hr14; replace hr14 : Kd.F k39 _ _ A14 y140.length y140 := (by rw [hA14]; exact hr14); rw [← hy14, ← hA14, ← hc14] at hcut14; have HO144 := Aside0.mk (show Kd.V k39 39 _ w.heap.size _ (.slice A14 y140.length c14) y140 from Kd.V_mk (by rw [hy14, hc14]; exact Nat.sub_le_sub_right hroom14 _) hr14); have HC144 := Aside0.mk (show y140.length ≤ c14 from by rw [hy14, hc14]; exact Nat.sub_le_sub_right hroom14 _); clear hr14 hC14 hroom14 hi014 hsz14 hc14; have KY14 := Aside0.mk hy14; have KA14 := Aside0.mk hA14; clear hy14 hA14; replace q14 := eq_true q14))
        go_roundg k1
        case measure => have := HK1.out; omega
        case rel => exact ⟨(y140), (y137), H', ⟨by have := HK1.out; omega⟩, ⟨VAt HO144.out⟩, ⟨NAt HO139.out⟩, ⟨bAt HB.out⟩⟩
       ·exact nB H c7
      ·exact nB H c6
     ·exact nB H c5
    ·rw [if_neg c4] at H
     obtain ⟨c4b0, c4b1⟩ := neB c4
     obtain ⟨ji15, hji15⟩ : ∃ j_ : Int, (wrap64 (t131 + 1)) = j_ := ⟨_, rfl⟩
     replace H : (if 0 ≤ (ji15) then (if (ji15) ≤ (x0_1.length : Int) then (if x5_1.length < 5864062014805 then (api_Token_16.l0 k1 (x0_1.drop ((ji15) : Int).toNat) (x5_1 ++ [(x0_1.take ((ji15) : Int).toNat)])) else (none)) else (none)) else (none)) = some r := by first | (rw [hji15] at H; exact H) | (simp only [hji15] at H ⊢; exact H)
     (try rw [hji15] at c4b0)
     (try rw [hji15] at c4b1)
     (try rw [hji15] at A3)
     have hji15w : (IntKind.i64.wrap (t131 + 1)) = ji15 := (i64_w _).trans hji15
     by_cases c16 : 0 ≤ (ji15)
     ·rw [if_pos c16] at H
      have c16b0 := eq_true c16
      have c16b1 := decide_eq_true c16
      clear c16
      by_cases c17 : (ji15) ≤ (x0_1.length : Int)
      ·rw [if_pos c17] at H
       have c17b0 := eq_true c17
       have c17b1 := decide_eq_true c17
       clear c17
       obtain ⟨y145, hy145⟩ : ∃ y_ : List (S39), y_ = (x0_1.take ((ji15) : Int).toNat) := ⟨_, rfl⟩
       replace H : (if x5_1.length < 5864062014805 then (api_Token_16.l0 k1 (x0_1.drop ((ji15) : Int).toNat) (x5_1 ++ [y145])) else (none)) = some r := by first | (rw [hy145]; with_reducible exact H) | (have H2_ := (Option.bind_some _ _).symm.trans H; rw [hy145]; with_reducible exact H2_) | (have H2_ := (Option.bind_some _ _).symm.trans H; with_reducible exact H2_) | with_reducible exact H | (rw [hy145]; exact H) | exact H
       have Ny145 := Aside0.mk hy145
       clear hy145
       by_cases c18 : x5_1.length < 5864062014805
       ·rw [if_pos c18] at H
        have LMc18 := Aside0.mk c18
        clear c18
        obtain ⟨y150, hy150⟩ : ∃ y_ : List (List (S39)), y_ = (x5_1 ++ [y145]) := ⟨_, rfl⟩
        replace H : (api_Token_16.l0 k1 (x0_1.drop ((ji15) : Int).toNat) y150) = some r := by first | (rw [hy150]; with_reducible exact H) | (have H2_ := (Option.bind_some _ _).symm.trans H; rw [hy150]; with_reducible exact H2_) | (have H2_ := (Option.bind_some _ _).symm.trans H; with_reducible exact H2_) | with_reducible exact H | (rw [hy150]; exact H) | exact H
        have Ny150 := Aside0.mk hy150
        clear hy150
        have c19b0 := eq_true (dt : 0 ≤ (ji15))
        have c20b0 := eq_true (dt : (ji15) ≤ (x0_1.length : Int))
        obtain ⟨y153, hy153⟩ : ∃ y_ : List (S39), y_ = (x0_1.drop ((ji15) : Int).toNat) := ⟨_, rfl⟩
        replace H : (api_Token_16.l0 k1 y153 y150) = some r := by first | (rw [hy153]; with_reducible exact H) | (have H2_ := (Option.bind_some _ _).symm.trans H; rw [hy153]; with_reducible exact H2_) | (have H2_ := (Option.bind_some _ _).symm.trans H; with_reducible exact H2_) | with_reducible exact H | (rw [hy153]; exact H) | exact H
        have Ny153 := Aside0.mk hy153
        clear hy153
        have H' := Aside0.mk H
        clear H
        obtain ⟨Ao21, co21, eo21⟩ := Kd.V_slice HO_0.out
        subst eo21
        go_wp2_with (first | ((with_reducible refine gate_callee (f := 20) rfl ?_); refine gL (some 12) Tryd.func20 #[.slice Ao21 x0_1.length co21, .func (.func 18) #[] #[]] rfl gA ?_; (with_reducible refine (api_Token_20.calls k1 _ _ x0_1 t131 _ ?side1 ?side2 A3.out).mono ?_); (case side1 => exact CAt ((Kd.V_reads' HO_0.out).2.2)); (case side2 => exact (Kd.V_reads' HO_0.out).2.1); rintro e w22 ⟨rfl, hb⟩; refine ⟨_, rfl, ?_⟩; replace HO_0 := Aside0.mk (Kd.V_below (VAt HO_0.out) hb); replace HO_5 := Aside0.mk (Kd.N_below (NAt HO_5.out) hb); replace HB := Aside0.mk (below_step (bAt HB.out) hb); (try clear hb); (try clear hb2); (try clear hk); (try clear hi); have q23 : ((ji15) : Int) ≤ ((x0_1.length : Int) : Int) := dt; obtain ⟨i023, hi023, _, hsz23, _⟩ := info_parts info39; have hroom23 : x0_1.length ≤ co21 := (Kd.V_reads' HO_0.out).2.1; have hC23 : Kd.F k39 _ _ Ao21 x0_1.length x0_1 := (Kd.V_at (base := w.heap.size) HO_0.out).2.2; have hcut23 := cut_to_cap (P := Tryd.prog) 34 39 .i64 .i64 Tryd.underlying34 hi023 Ao21 x0_1.length co21 (ji15) dt q23 hroom23; have hr23 := Kd.F_take (m := ((ji15) : Int).toNat) hC23 (by omega); have hy23 : y145.length = ((ji15) : Int).toNat := (by rw [Ny145.out, List.length_take]; omega); rw [← Ny145.out] at hr23; rw [← hy23] at hcut23; have HO149 := Aside0.mk (show Kd.V k39 39 _ w.heap.size _ (.slice Ao21 y145.length y145.length) y145 from Kd.V_mk (by omega) hr23); have HC149 := Aside0.mk (show y145.length ≤ y145.length from by omega); clear hr23 hC23 hroom23 hi023 hsz23; have KY23 := Aside0.mk hy23; clear hy23; replace q23 := eq_true q23) | ((with_reducible refine gate_builtin (b := .append) (xs := #[.tmp 18, .tmp 23]) rfl ?_); at_builtin; refine Kd.N_append (Kd.slice 39 k39) (w0 := w) w.heap.size rfl (.tmp 18) (.tmp 23) 46 34 (.slice none 0 0) 24 rfl Tryd.underlying46 info34 rfl (by decide) (by omega) u5 x5_1 y145 [.slice Ao21 y145.length y145.length] (fun k_ => (P0_ k_ ∨ w.heap.size ≤ k_)) (fun k_ => ((fun k_ => (P0_ k_ ∨ w.heap.size ≤ k_))) k_ ∧ some k_ ≠ (u5 : Value).ownBlock) rfl rfl ?aP (fun _ hk => hk) ?aF ?aO ?aB ?aS ?aL ?_; (case aP => exact (Kd.FK_slice_mk (Kd.V_reads' (Kd.V_mono (ok' := (fun k_ => ((fun k_ => (P0_ k_ ∨ w.heap.size ≤ k_))) k_ ∧ some k_ ≠ (u5 : Value).ownBlock)) (HO149.out) (fun k_ hk => ⟨hk.1, hk.2⟩))).2.1 (Kd.V_F (Kd.V_mono (ok' := (fun k_ => ((fun k_ => (P0_ k_ ∨ w.heap.size ≤ k_))) k_ ∧ some k_ ≠ (u5 : Value).ownBlock)) (HO149.out) (fun k_ hk => ⟨hk.1, hk.2⟩))))); (case aB => exact (bAt HB.out)); (case aF => exact (fun k_ hk => (.inr (Nat.le_trans (below_size (bAt HB.out)) hk)))); (case aO => exact (NAt HO_5.out)); (case aS => exact (below_size (bAt HB.out))); (case aL => have := LMc18.out; omega); intro v151 w24 ho hb hg hat; rw [← Ny150.out] at ho; replace HO_0 := Aside0.mk (Kd.V_afterv (ok := (fun k_ => (P0_ k_ ∨ w.heap.size ≤ k_))) (VAt HO_0.out) hg hat); replace HO149 := Aside0.mk (Kd.V_afterv (ok := (fun k_ => (P0_ k_ ∨ w.heap.size ≤ k_))) (VAt HO149.out) hg hat); replace HB := Aside0.mk (hb); have HO152 := Aside0.mk (ho); clear HO_5; clear ho hb hg hat; have q25 : ((ji15) : Int) ≤ ((x0_1.length : Int) : Int) := dt; obtain ⟨i025, hi025, _, hsz25, _⟩ := info_parts info39; have hroom25 : x0_1.length ≤ co21 := (Kd.V_reads' HO_0.out).2.1; have hC25 : Kd.F k39 _ _ Ao21 x0_1.length x0_1 := (Kd.V_at (base := w.heap.size) HO_0.out).2.2; have q025 : (0 : Int) ≤ ((ji15) : Int) := dt; have hcut25 := cut_from (P := Tryd.prog) 34 39 .i64 Tryd.underlying34 hi025 5 hsz25 Ao21 x0_1.length co21 (ji15) q025 q25; have hr25 := Kd.F_cut (m := ((ji15) : Int).toNat) (c := co21) hC25 (by omega) hroom25; obtain ⟨A25, hA25⟩ : ∃ A1, A1 = (if co21 = ((ji15) : Int).toNat then Ao21 else (Ao21 : Option Addr).map (·.add (((ji15) : Int).toNat * 5))) := ⟨_, rfl⟩; obtain ⟨c25, hc25⟩ : ∃ c1, c1 = co21 - ((ji15) : Int).toNat := ⟨_, rfl⟩; have hy25 : y153.length = x0_1.length - ((ji15) : Int).toNat := (by rw [Ny153.out, List.length_drop] <;> omega); rw [show (x0_1).drop ((ji15) : Int).toNat = y153 from Ny153.out.symm] at hr25; replace hr25 : Kd.F k39 _ _ A25 y153.length y153 := (by rw [hA25]; exact hr25); rw [← hy25, ← hA25, ← hc25] at hcut25; have HO157 := Aside0.mk (show Kd.V k39 39 _ w.heap.size _ (.slice A25 y153.length c25) y153 from Kd.V_mk (by rw [hy25, hc25]; exact Nat.sub_le_sub_right hroom25 _) hr25); have HC157 := Aside0.mk (show y153.length ≤ c25 from by rw [hy25, hc25]; exact Nat.sub_le_sub_right hroom25 _); clear hr25 hC25 hroom25 hi025 hsz25 hc25; have KY25 := Aside0.mk hy25; have KA25 := Aside0.mk hA25; clear hy25 hA25; replace q25 := eq_true q25))
        go_roundg k1
        case measure => have := HK1.out; omega
        case rel => exact ⟨(y153), (y150), H', ⟨by have := HK1.out; omega⟩, ⟨VAt HO157.out⟩, ⟨NAt HO152.out⟩, ⟨bAt HB.out⟩⟩
       ·exact nB H c18
      ·exact nB H c17
     ·exact nB H c16
   ·rw [if_neg c2] at H
    have c2b0 : decide (0 < (x0_1.length : Int)) = false := decide_eq_false c2
    have c2b1 : decide (0 < x0_1.length) = false := decide_eq_false (by omega)
    clear c2
    obtain rfl := Option.some.inj H
    obtain ⟨Ao26, co26, eo26⟩ := Kd.V_slice HO_0.out
    subst eo26
    go_wp2
    go_ret
    exact ⟨_, eR, NAt HO_5.out, bAt HB.out⟩
def utf_behind.j0 : Nat → Int → Bool → Option (Int × Int × Int)
 | 0, _, _ => none
 | k + 1, x0, x7 => if x7 = true then (some (0, 0, (-1))) else (if x0 < 224 then (some (128, 191, 1)) else (if x0 = 224 then (some (160, 191, 2)) else (if x0 = 237 then (some (128, 159, 2)) else (if x0 < 240 then (some (128, 191, 2)) else (if x0 = 240 then (some (144, 191, 3)) else (if x0 = 244 then (some (128, 143, 3)) else (some (128, 191, 3))))))))
def utf_behind.f (k : Nat) (a0 : Int) : Option (Int × Int × Int) := if a0 < 128 then (some (0, 0, 0)) else (if a0 < 194 then (utf_behind.j0 k a0 true) else (utf_behind.j0 k a0 (decide (a0 > 244))))
theorem utf_behind.mono_l : ∀ k, (∀ y0 y1, LeO (utf_behind.j0 k y0 y1) (utf_behind.j0 (k + 1) y0 y1))
 | 0 => fun _ _ r h => by simp [utf_behind.j0] at h
 | k + 1 => by
  have ih0 := utf_behind.mono_l k
  ·intro y0 y1
   unfold utf_behind.j0
   repeat' with_reducible first | exact ih0 _ _ | exact LeO.refl _ | exact LeO.none _ | refine LeO.ite ?_ ?_ | refine LeO.bind ?_ (fun _ => ?_)
theorem utf_behind.mono : ∀ a0 k, LeO (utf_behind.f k a0) (utf_behind.f (k + 1) a0) := by
 intro a0 k
 have ih0 := utf_behind.mono_l k
 unfold utf_behind.f
 repeat' with_reducible first | exact ih0 _ _ | exact LeO.refl _ | exact LeO.none _ | refine LeO.ite ?_ ?_ | refine LeO.bind ?_ (fun _ => ?_)
set_option maxHeartbeats 8000000 in
set_option maxRecDepth 100000 in
theorem utf_behind.calls (k : Nat) (a0 : Int) (r1 : Int) (r2 : Int) (r3 : Int) (w : World) (h : utf_behind.f k a0 = some (r1, r2, r3)) :
  Calls Tryd.prog 44 #[.int .u8 a0] w fun e w' => e = .returned (.agg #[.int .u8 r1, .int .u8 r2, .int .i64 r3]) ∧ Below w.heap.size w w' := by
 have hu78 := Tryd.underlying78
 have HB := Aside0.mk (Below.refl w.heap.size w)
 have H : (if a0 < 128 then (some (0, 0, 0)) else (if a0 < 194 then (utf_behind.j0 k a0 true) else (utf_behind.j0 k a0 (decide (a0 > 244))))) = some (r1, r2, r3) := h
 clear h
 by_cases c2 : a0 < 128
 ·rw [if_pos c2] at H
  have c2b0 := decide_eq_true c2
  clear c2
  simp only [Option.some.injEq, Prod.mk.injEq] at H
  obtain ⟨rfl, rfl, rfl⟩ := H
  go_enter Tryd.func44, Tryd.ntmps44
  go_wp2_with (first | ((with_reducible refine gate_dst (N := 2) rfl ?_); refine box_event ?hg (N := 2) ?hd (cs := #[.int .u8 0, .int .u8 0, .int .i64 0]) (t := 78) ?hr ?_; (case hd => rfl); (case hg => rfl); (case hr => first | (go_simp; done) | (go_simp; rfl)); intro gb158 hg w3 hbox hb; have BK158 := Aside0.mk (hbox); have GW158 := Aside0.mk (gE (g := gb158) hg HB.out); have GE158 := Aside0.mk (gE (g := gb158) hg HB.out); replace HB := Aside0.mk (below_step (bAt HB.out) hb); clear hb hbox hg; obtain ⟨hcz4_0, hcz4_1, hcz4_2, hfz4_0, hfz4_1, hfz4_2⟩ := blk3 BK158.out))
  refine bodyPost_ret (results_cell_row rfl _ _ gb158 78 #[.int .u8 0, .int .u8 0, .int .i64 0] (0, 0) _ rfl (by refine bP #[.int .u8 0, .int .u8 0, .int .i64 0] 2 ?_; refine bP #[.int .u8 0, .int .u8 0, .int .i64 0] 1 ?_; refine bP #[.int .u8 0, .int .u8 0, .int .i64 0] 0 ?_; (with_reducible repeat (first | refine blk_drewN ?_ _ | refine blk_drew ?_ | refine blk_alloc ?_ _)); exact BK158.out) Tryd.underlying78 rfl (by kernel_rfl)) rfl ?_
  exact ⟨eR, bAt HB.out⟩
 ·rw [if_neg c2] at H
  have c2b0 := decide_eq_false c2
  clear c2
  have HC5 := Aside0.mk H
  clear H
  go_enter Tryd.func44, Tryd.ntmps44
  go_upto_region 3 with (first | ((with_reducible refine gate_dst (N := 2) rfl ?_); refine box_event ?hg (N := 2) ?hd (cs := #[.int .u8 0, .int .u8 0, .int .i64 0]) (t := 78) ?hr ?_; (case hd => rfl); (case hg => rfl); (case hr => first | (go_simp; done) | (go_simp; rfl)); intro gb158 hg w6 hbox hb; have BK158 := Aside0.mk (hbox); have GW158 := Aside0.mk (gE (g := gb158) hg HB.out); have GE158 := Aside0.mk (gE (g := gb158) hg HB.out); replace HB := Aside0.mk (below_step (bAt HB.out) hb); clear hb hbox hg))
  (try simp only [Act.put, List.setIfInBounds_toArray, List.set_cons_zero, List.set_cons_succ])
  go_cut [7] (fun v7 wc => ∃ (kq : Nat) (x7_4 : Bool), v7 = .bool x7_4 ∧ Aside0 (utf_behind.j0 kq a0 x7_4 = some (r1, r2, r3)) ∧ Aside0 (kq ≤ k) ∧ Aside0 (wc.heap[gb158]? = some (.cells #[.int .u8 0, .int .u8 0, .int .i64 0] 78 (0, 0))) ∧ Aside0 (Below w.heap.size w wc))
  case first =>
   have H := HC5.out
   clear HC5
   by_cases c7 : a0 < 194
   ·rw [if_pos c7] at H
    have c7b0 := decide_eq_true c7
    clear c7
    (first | rw [c7b0] | (simp only [i64_w, i32_w]; rw [c7b0]) | skip)
    have H' := Aside0.mk H
    clear H
    go_wp2
    go_meet
    case rel => exact ⟨_, (true), sR, H', ⟨by first | omega | exact Nat.le_refl _⟩, ⟨kAt BK158.out⟩, ⟨bAt HB.out⟩⟩
   ·rw [if_neg c7] at H
    have c7b0 := decide_eq_false c7
    clear c7
    (first | rw [c7b0] | (simp only [i64_w, i32_w]; rw [c7b0]) | skip)
    have H' := Aside0.mk H
    clear H
    go_wp2
    go_meet
    case rel => exact ⟨_, (decide (a0 > 244)), sR, H', ⟨by first | omega | exact Nat.le_refl _⟩, ⟨kAt BK158.out⟩, ⟨bAt HB.out⟩⟩
  case rest =>
   clear HC5
   try clear c2
   try clear c2b0
   try clear p2
   try clear c4
   try clear c7
   try clear c7b0
   try clear hcz4_0
   try clear hcz4_1
   try clear hcz4_2
   try clear hfz4_0
   try clear hfz4_1
   try clear hfz4_2
   obtain ⟨kq, x7_4, rfl, HA, HJ4, BK158, HB⟩ := hcut
   cases kq with
   | zero => exact absurd HA.out (by simp [utf_behind.j0])
   | succ kj4 =>
    have H := HA.out
    clear HA
    simp only [utf_behind.j0] at H
    by_cases c8 : x7_4 = true
    ·subst c8
     replace H := tP H
     simp only [Option.some.injEq, Prod.mk.injEq] at H
     obtain ⟨rfl, rfl, rfl⟩ := H
     obtain ⟨hcz9_0, hcz9_1, hcz9_2, hfz9_0, hfz9_1, hfz9_2⟩ := blk3 BK158.out
     go_wp2
     refine bodyPost_ret (results_cell_row rfl _ _ gb158 78 #[.int .u8 0, .int .u8 0, .int .i64 (-1)] (0, 0) _ rfl (by refine bP #[.int .u8 0, .int .u8 0, .int .i64 0] 2 ?_; refine bP #[.int .u8 0, .int .u8 0, .int .i64 0] 1 ?_; refine bP #[.int .u8 0, .int .u8 0, .int .i64 0] 0 ?_; (with_reducible repeat (first | refine blk_drewN ?_ _ | refine blk_drew ?_ | refine blk_alloc ?_ _)); exact BK158.out) Tryd.underlying78 rfl (by kernel_rfl)) rfl ?_
     exact ⟨eR, bAt HB.out⟩
    ·replace c8 := Bool.eq_false_iff.mpr c8
     subst c8
     replace H := fP H
     by_cases c10 : a0 < 224
     ·rw [if_pos c10] at H
      have c10b0 := decide_eq_true c10
      clear c10
      simp only [Option.some.injEq, Prod.mk.injEq] at H
      obtain ⟨rfl, rfl, rfl⟩ := H
      obtain ⟨hcz11_0, hcz11_1, hcz11_2, hfz11_0, hfz11_1, hfz11_2⟩ := blk3 BK158.out
      go_wp2
      refine bodyPost_ret (results_cell_row rfl _ _ gb158 78 #[.int .u8 128, .int .u8 191, .int .i64 1] (0, 0) _ rfl (by refine bP #[.int .u8 128, .int .u8 191, .int .i64 0] 2 ?_; refine bP #[.int .u8 128, .int .u8 0, .int .i64 0] 1 ?_; refine bP #[.int .u8 0, .int .u8 0, .int .i64 0] 0 ?_; (with_reducible repeat (first | refine blk_drewN ?_ _ | refine blk_drew ?_ | refine blk_alloc ?_ _)); exact BK158.out) Tryd.underlying78 rfl (by kernel_rfl)) rfl ?_
      exact ⟨eR, bAt HB.out⟩
     ·rw [if_neg c10] at H
      have c10b0 := decide_eq_false c10
      clear c10
      by_cases c12 : a0 = 224
      ·rw [if_pos c12] at H
       obtain ⟨c12b0, c12b1⟩ := eqB c12
       clear c12
       simp only [Option.some.injEq, Prod.mk.injEq] at H
       obtain ⟨rfl, rfl, rfl⟩ := H
       obtain ⟨hcz13_0, hcz13_1, hcz13_2, hfz13_0, hfz13_1, hfz13_2⟩ := blk3 BK158.out
       go_wp2
       refine bodyPost_ret (results_cell_row rfl _ _ gb158 78 #[.int .u8 160, .int .u8 191, .int .i64 2] (0, 0) _ rfl (by refine bP #[.int .u8 160, .int .u8 191, .int .i64 0] 2 ?_; refine bP #[.int .u8 160, .int .u8 0, .int .i64 0] 1 ?_; refine bP #[.int .u8 0, .int .u8 0, .int .i64 0] 0 ?_; (with_reducible repeat (first | refine blk_drewN ?_ _ | refine blk_drew ?_ | refine blk_alloc ?_ _)); exact BK158.out) Tryd.underlying78 rfl (by kernel_rfl)) rfl ?_
       exact ⟨eR, bAt HB.out⟩
      ·rw [if_neg c12] at H
       obtain ⟨c12b0, c12b1⟩ := neB c12
       by_cases c14 : a0 = 237
       ·rw [if_pos c14] at H
        obtain ⟨c14b0, c14b1⟩ := eqB c14
        clear c14
        simp only [Option.some.injEq, Prod.mk.injEq] at H
        obtain ⟨rfl, rfl, rfl⟩ := H
        obtain ⟨hcz15_0, hcz15_1, hcz15_2, hfz15_0, hfz15_1, hfz15_2⟩ := blk3 BK158.out
        go_wp2
        refine bodyPost_ret (results_cell_row rfl _ _ gb158 78 #[.int .u8 128, .int .u8 159, .int .i64 2] (0, 0) _ rfl (by refine bP #[.int .u8 128, .int .u8 159, .int .i64 0] 2 ?_; refine bP #[.int .u8 128, .int .u8 0, .int .i64 0] 1 ?_; refine bP #[.int .u8 0, .int .u8 0, .int .i64 0] 0 ?_; (with_reducible repeat (first | refine blk_drewN ?_ _ | refine blk_drew ?_ | refine blk_alloc ?_ _)); exact BK158.out) Tryd.underlying78 rfl (by kernel_rfl)) rfl ?_
        exact ⟨eR, bAt HB.out⟩
       ·rw [if_neg c14] at H
        obtain ⟨c14b0, c14b1⟩ := neB c14
        by_cases c16 : a0 < 240
        ·rw [if_pos c16] at H
         have c16b0 := decide_eq_true c16
         clear c16
         simp only [Option.some.injEq, Prod.mk.injEq] at H
         obtain ⟨rfl, rfl, rfl⟩ := H
         obtain ⟨hcz17_0, hcz17_1, hcz17_2, hfz17_0, hfz17_1, hfz17_2⟩ := blk3 BK158.out
         go_wp2
         refine bodyPost_ret (results_cell_row rfl _ _ gb158 78 #[.int .u8 128, .int .u8 191, .int .i64 2] (0, 0) _ rfl (by refine bP #[.int .u8 128, .int .u8 191, .int .i64 0] 2 ?_; refine bP #[.int .u8 128, .int .u8 0, .int .i64 0] 1 ?_; refine bP #[.int .u8 0, .int .u8 0, .int .i64 0] 0 ?_; (with_reducible repeat (first | refine blk_drewN ?_ _ | refine blk_drew ?_ | refine blk_alloc ?_ _)); exact BK158.out) Tryd.underlying78 rfl (by kernel_rfl)) rfl ?_
         exact ⟨eR, bAt HB.out⟩
        ·rw [if_neg c16] at H
         have c16b0 := decide_eq_false c16
         clear c16
         by_cases c18 : a0 = 240
         ·rw [if_pos c18] at H
          obtain ⟨c18b0, c18b1⟩ := eqB c18
          clear c18
          simp only [Option.some.injEq, Prod.mk.injEq] at H
          obtain ⟨rfl, rfl, rfl⟩ := H
          obtain ⟨hcz19_0, hcz19_1, hcz19_2, hfz19_0, hfz19_1, hfz19_2⟩ := blk3 BK158.out
          go_wp2
          refine bodyPost_ret (results_cell_row rfl _ _ gb158 78 #[.int .u8 144, .int .u8 191, .int .i64 3] (0, 0) _ rfl (by refine bP #[.int .u8 144, .int .u8 191, .int .i64 0] 2 ?_; refine bP #[.int .u8 144, .int .u8 0, .int .i64 0] 1 ?_; refine bP #[.int .u8 0, .int .u8 0, .int .i64 0] 0 ?_; (with_reducible repeat (first | refine blk_drewN ?_ _ | refine blk_drew ?_ | refine blk_alloc ?_ _)); exact BK158.out) Tryd.underlying78 rfl (by kernel_rfl)) rfl ?_
          exact ⟨eR, bAt HB.out⟩
         ·rw [if_neg c18] at H
          obtain ⟨c18b0, c18b1⟩ := neB c18
          by_cases c20 : a0 = 244
          ·rw [if_pos c20] at H
           obtain ⟨c20b0, c20b1⟩ := eqB c20
           clear c20
           simp only [Option.some.injEq, Prod.mk.injEq] at H
           obtain ⟨rfl, rfl, rfl⟩ := H
           obtain ⟨hcz21_0, hcz21_1, hcz21_2, hfz21_0, hfz21_1, hfz21_2⟩ := blk3 BK158.out
           go_wp2
           refine bodyPost_ret (results_cell_row rfl _ _ gb158 78 #[.int .u8 128, .int .u8 143, .int .i64 3] (0, 0) _ rfl (by refine bP #[.int .u8 128, .int .u8 143, .int .i64 0] 2 ?_; refine bP #[.int .u8 128, .int .u8 0, .int .i64 0] 1 ?_; refine bP #[.int .u8 0, .int .u8 0, .int .i64 0] 0 ?_; (with_reducible repeat (first | refine blk_drewN ?_ _ | refine blk_drew ?_ | refine blk_alloc ?_ _)); exact BK158.out) Tryd.underlying78 rfl (by kernel_rfl)) rfl ?_
           exact ⟨eR, bAt HB.out⟩
          ·rw [if_neg c20] at H
           obtain ⟨c20b0, c20b1⟩ := neB c20
           simp only [Option.some.injEq, Prod.mk.injEq] at H
           obtain ⟨rfl, rfl, rfl⟩ := H
           obtain ⟨hcz22_0, hcz22_1, hcz22_2, hfz22_0, hfz22_1, hfz22_2⟩ := blk3 BK158.out
           go_wp2
           refine bodyPost_ret (results_cell_row rfl _ _ gb158 78 #[.int .u8 128, .int .u8 191, .int .i64 3] (0, 0) _ rfl (by refine bP #[.int .u8 128, .int .u8 191, .int .i64 0] 2 ?_; refine bP #[.int .u8 128, .int .u8 0, .int .i64 0] 1 ?_; refine bP #[.int .u8 0, .int .u8 0, .int .i64 0] 0 ?_; (with_reducible repeat (first | refine blk_drewN ?_ _ | refine blk_drew ?_ | refine blk_alloc ?_ _)); exact BK158.out) Tryd.underlying78 rfl (by kernel_rfl)) rfl ?_
           exact ⟨eR, bAt HB.out⟩
mutual
def utf_Take.j0 : Nat → List Int → Bool → Int → Int → Int → Option (Int × Bool)
 | 0, _, _, _, _, _ => none
 | k + 1, x0, x23, x164000, x164001, x164002 => if x23 = true then (some (1, false)) else (utf_Take.l0 k x0 x164002 0 x164000 x164001 x164002)
def utf_Take.l0 : Nat → List Int → Int → Int → Int → Int → Int → Option (Int × Bool)
 | 0, _, _, _, _, _, _ => none
 | k + 1, x0, x25, x26, x164000, x164001, x164002 => if x26 < x25 then (if 0 ≤ (wrap64 (x26 + 1)) then (if (wrap64 (x26 + 1)) < (x0.length : Int) then (if (rd x0 (wrap64 (x26 + 1))) < x164000 then (some (1, false)) else (if (rd x0 (wrap64 (x26 + 1))) > x164001 then (some (1, false)) else (utf_Take.l0 k x0 x25 (wrap64 (x26 + 1)) 128 191 x164002))) else (none)) else (none)) else (some (wrap64 (x164002 + 1), true))
end
def utf_Take.f (k : Nat) (l0 : List Int) : Option (Int × Bool) := if (l0.length : Int) = 0 then (some (0, false)) else (if 0 < (l0.length : Int) then ((utf_behind.f k (rd l0 0)).bind fun bt160 => (if bt160.2.2 < 0 then (utf_Take.j0 k l0 true bt160.1 bt160.2.1 bt160.2.2) else (utf_Take.j0 k l0 (decide ((l0.length : Int) ≤ bt160.2.2)) bt160.1 bt160.2.1 bt160.2.2))) else (none))
theorem utf_Take.mono_l : ∀ k, (∀ y0 y1 y2 y3 y4, LeO (utf_Take.j0 k y0 y1 y2 y3 y4) (utf_Take.j0 (k + 1) y0 y1 y2 y3 y4)) ∧ (∀ y0 y1 y2 y3 y4 y5, LeO (utf_Take.l0 k y0 y1 y2 y3 y4 y5) (utf_Take.l0 (k + 1) y0 y1 y2 y3 y4 y5))
 | 0 => ⟨fun _ _ _ _ _ r h => by simp [utf_Take.j0] at h, fun _ _ _ _ _ _ r h => by simp [utf_Take.l0] at h⟩
 | k + 1 => by
  obtain ⟨ih0, ih1⟩ := utf_Take.mono_l k
  refine ⟨?_, ?_⟩
  ·intro y0 y1 y2 y3 y4
   unfold utf_Take.j0
   repeat' with_reducible first | exact ih0 _ _ _ _ _ | exact ih1 _ _ _ _ _ _ | exact utf_behind.mono _ _ | exact LeO.refl _ | exact LeO.none _ | refine LeO.ite ?_ ?_ | refine LeO.bind ?_ (fun _ => ?_)
  ·intro y0 y1 y2 y3 y4 y5
   unfold utf_Take.l0
   repeat' with_reducible first | exact ih0 _ _ _ _ _ | exact ih1 _ _ _ _ _ _ | exact utf_behind.mono _ _ | exact LeO.refl _ | exact LeO.none _ | refine LeO.ite ?_ ?_ | refine LeO.bind ?_ (fun _ => ?_)
theorem utf_Take.mono : ∀ a0 k, LeO (utf_Take.f k a0) (utf_Take.f (k + 1) a0) := by
 intro a0 k
 obtain ⟨ih0, ih1⟩ := utf_Take.mono_l k
 unfold utf_Take.f
 repeat' with_reducible first | exact ih0 _ _ _ _ _ | exact ih1 _ _ _ _ _ _ | exact utf_behind.mono _ _ | exact LeO.refl _ | exact LeO.none _ | refine LeO.ite ?_ ?_ | refine LeO.bind ?_ (fun _ => ?_)
set_option maxHeartbeats 8000000 in
set_option maxRecDepth 100000 in
theorem utf_Take.calls (k : Nat) (A0 : Option Addr) (c0 : Nat) (l0 : List Int) (r1 : Int) (r2 : Bool) (w : World) (hr0 : Kd.C (Kd.int .u8) w A0 l0.length l0) (hc0 : l0.length ≤ c0) (h : utf_Take.f k l0 = some (r1, r2)) :
  Calls Tryd.prog 39 #[.slice A0 l0.length c0] w fun e w' => e = .returned (.tuple #[.int .i64 r1, .bool r2]) ∧ Below w.heap.size w w' := by
 have hu78 := Tryd.underlying78
 have HR0 := Aside0.mk hr0
 have HC0 := Aside0.mk hc0
 clear hr0 hc0
 have HB := Aside0.mk (Below.refl w.heap.size w)
 have H : (if (l0.length : Int) = 0 then (some (0, false)) else (if 0 < (l0.length : Int) then ((utf_behind.f k (rd l0 0)).bind fun bt160 => (if bt160.2.2 < 0 then (utf_Take.j0 k l0 true bt160.1 bt160.2.1 bt160.2.2) else (utf_Take.j0 k l0 (decide ((l0.length : Int) ≤ bt160.2.2)) bt160.1 bt160.2.1 bt160.2.2))) else (none))) = some (r1, r2) := h
 clear h
 by_cases c2 : (l0.length : Int) = 0
 ·rw [if_pos c2] at H
  obtain ⟨c2b0, c2b1⟩ := eqB c2
  clear c2
  simp only [Option.some.injEq, Prod.mk.injEq] at H
  obtain ⟨rfl, rfl⟩ := H
  go_enter Tryd.func39, Tryd.ntmps39
  go_wp2
  go_ret2
  exact ⟨eR, bAt HB.out⟩
 ·rw [if_neg c2] at H
  obtain ⟨c2b0, c2b1⟩ := neB c2
  have c2b2 : ¬ (l0 = []) := fun h_ => c2 (by rw [h_]; rfl)
  by_cases c3 : 0 < (l0.length : Int)
  ·rw [if_pos c3] at H
   have c3b0 := decide_eq_true c3
   have c3b1 : decide (0 < l0.length) = true := decide_eq_true (by omega)
   clear c3
   obtain ⟨⟨t160, t161, t162⟩, A4, H⟩ := bE H
   replace H : (if t162 < 0 then (utf_Take.j0 k l0 true t160 t161 t162) else (utf_Take.j0 k l0 (decide ((l0.length : Int) ≤ t162)) t160 t161 t162)) = some (r1, r2) := H
   have HC5 := Aside0.mk H
   clear H
   have p159 : 0 ≤ (0 : Int) := (by omega)
   have q159 : 0 < (l0.length : Int) := dt
   obtain ⟨ad159, e159, hx159_0⟩ := Kd.at_int HR0.out 0 p159 q159
   cases e159
   have qi159 : (0 < l0.length) = True := eq_true (by omega)
   (try rw [show ((0 : Int)).toNat = 0 from rfl] at hx159_0)
   (try rw [Addr.add_zero'] at hx159_0)
   replace p159 := eq_true p159
   replace q159 := eq_true q159
   go_enter Tryd.func39, Tryd.ntmps39
   go_upto_region 4 with (first | ((with_reducible refine gate_callee (f := 44) rfl ?_); refine gL (some 13) Tryd.func44 #[.int .u8 (rd l0 0)] rfl gA ?_; (with_reducible refine (utf_behind.calls k (rd l0 0) t160 t161 t162 _ A4.out).mono ?_); rintro e w6 ⟨rfl, hb⟩; refine ⟨_, rfl, ?_⟩; replace HB := Aside0.mk (below_step (bAt HB.out) hb); (try clear hb); (try clear hb2); (try clear hk); (try clear hi)) | ((with_reducible refine gate_dst (N := 4) rfl ?_); (try (refine gate_guard (by rfl) ?_; dsimp only)); refine box_event ?hg (N := 4) ?hd (cs := #[.int .u8 0, .int .u8 0, .int .i64 0]) (t := 78) ?hr ?_; (case hd => rfl); (case hg => rfl); (case hr => first | (go_simp; done) | (go_simp; rfl)); intro gb163 hg w7 hbox hb; have BK163 := Aside0.mk (hbox); have GW163 := Aside0.mk (gE (g := gb163) hg HB.out); have GE163 := Aside0.mk (gE (g := gb163) hg HB.out); replace HB := Aside0.mk (below_step (bAt HB.out) hb); clear hb hbox hg; obtain ⟨hcz8_0, hcz8_1, hcz8_2, hfz8_0, hfz8_1, hfz8_2⟩ := blk3 BK163.out))
   (try simp only [Act.put, List.setIfInBounds_toArray, List.set_cons_zero, List.set_cons_succ])
   go_cut [23] (fun v23 wc => ∃ (kq : Nat) (x23_4 : Bool), v23 = .bool x23_4 ∧ Aside0 (utf_Take.j0 kq l0 x23_4 t160 t161 t162 = some (r1, r2)) ∧ Aside0 (kq ≤ k) ∧ Aside0 (wc.heap[gb163]? = some (.cells #[.int .u8 t160, .int .u8 t161, .int .i64 t162] 78 (0, 0))) ∧ Aside0 (Below w.heap.size w wc))
   case first =>
    have H := HC5.out
    clear HC5
    by_cases c9 : t162 < 0
    ·rw [if_pos c9] at H
     have c9b0 := decide_eq_true c9
     clear c9
     (first | rw [c9b0] | (simp only [i64_w, i32_w]; rw [c9b0]) | skip)
     have H' := Aside0.mk H
     clear H
     obtain ⟨hcz10_0, hcz10_1, hcz10_2, hfz10_0, hfz10_1, hfz10_2⟩ := blk3 BK163.out
     go_wp2
     go_meet
     case rel => exact ⟨_, (true), sR, H', ⟨by first | omega | exact Nat.le_refl _⟩, ⟨by refine bP #[.int .u8 t160, .int .u8 t161, .int .i64 0] 2 ?_; refine bP #[.int .u8 t160, .int .u8 0, .int .i64 0] 1 ?_; refine bP #[.int .u8 0, .int .u8 0, .int .i64 0] 0 ?_; (with_reducible repeat (first | refine blk_drewN ?_ _ | refine blk_drew ?_ | refine blk_alloc ?_ _)); exact BK163.out⟩, ⟨bAt HB.out⟩⟩
    ·rw [if_neg c9] at H
     have c9b0 := decide_eq_false c9
     clear c9
     (first | rw [c9b0] | (simp only [i64_w, i32_w]; rw [c9b0]) | skip)
     have H' := Aside0.mk H
     clear H
     obtain ⟨hcz11_0, hcz11_1, hcz11_2, hfz11_0, hfz11_1, hfz11_2⟩ := blk3 BK163.out
     go_wp2
     go_meet
     case rel => exact ⟨_, (decide ((l0.length : Int) ≤ t162)), sR, H', ⟨by first | omega | exact Nat.le_refl _⟩, ⟨by refine bP #[.int .u8 t160, .int .u8 t161, .int .i64 0] 2 ?_; refine bP #[.int .u8 t160, .int .u8 0, .int .i64 0] 1 ?_; refine bP #[.int .u8 0, .int .u8 0, .int .i64 0] 0 ?_; (with_reducible repeat (first | refine blk_drewN ?_ _ | refine blk_drew ?_ | refine blk_alloc ?_ _)); exact BK163.out⟩, ⟨bAt HB.out⟩⟩
   case rest =>
    clear HC5
    try clear p1
    try clear q1
    try clear hx1
    try clear qi1
    try clear c2
    try clear c2b0 c2b1
    try clear c2b2
    try clear p2
    try clear c3
    try clear c3b0 c3b1
    try clear c4
    try clear c9
    try clear c9b0
    try clear hcz10_0
    try clear hcz10_1
    try clear hcz10_2
    try clear hcz11_0
    try clear hcz11_1
    try clear hcz11_2
    try clear hcz8_0
    try clear hcz8_1
    try clear hcz8_2
    try clear hfz10_0
    try clear hfz10_1
    try clear hfz10_2
    try clear hfz11_0
    try clear hfz11_1
    try clear hfz11_2
    try clear hfz8_0
    try clear hfz8_1
    try clear hfz8_2
    try clear hx159_0
    try clear p159
    try clear q159
    obtain ⟨kq, x23_4, rfl, HA, HJ4, BK163, HB⟩ := hcut
    cases kq with
    | zero => exact absurd HA.out (by simp [utf_Take.j0])
    | succ kj4 =>
     have H := HA.out
     clear HA
     simp only [utf_Take.j0] at H
     by_cases c12 : x23_4 = true
     ·subst c12
      replace H := tP H
      simp only [Option.some.injEq, Prod.mk.injEq] at H
      obtain ⟨rfl, rfl⟩ := H
      go_wp2
      go_ret2
      exact ⟨eR, bAt HB.out⟩
     ·replace c12 := Bool.eq_false_iff.mpr c12
      subst c12
      replace H := fP H
      have H' := Aside0.mk H
      clear H
      obtain ⟨hcz13_0, hcz13_1, hcz13_2, hfz13_0, hfz13_1, hfz13_2⟩ := blk3 BK163.out
      go_wp2
      go_loopg [26] kj4 (fun kq v26 w' => ∃ (x26_2 : Int) (x164000_2 : Int) (x164001_2 : Int), v26 = .int .i64 x26_2 ∧ Aside0 (utf_Take.l0 kq l0 t162 x26_2 x164000_2 x164001_2 t162 = some (r1, r2)) ∧ Aside0 (kq ≤ kj4) ∧ Aside0 (w'.heap[gb163]? = some (.cells #[.int .u8 x164000_2, .int .u8 x164001_2, .int .i64 t162] 78 (0, 0))) ∧ Aside0 (Below w.heap.size w w'))
      case atStart => exact ⟨(0), (t160), (t161), sR, H', ⟨Nat.le_refl _⟩, ⟨kAt BK163.out⟩, ⟨bAt HB.out⟩⟩
      case round =>
       clear H'
       try clear c1
       try clear p1
       try clear q1
       try clear hx1
       try clear qi1
       try clear c2
       try clear c2b0 c2b1
       try clear c2b2
       try clear p2
       try clear c3
       try clear c3b0 c3b1
       try clear c4
       try clear c9
       try clear c9b0
       try clear c12
       try clear hcz10_0
       try clear hcz10_1
       try clear hcz10_2
       try clear hcz11_0
       try clear hcz11_1
       try clear hcz11_2
       try clear hcz13_0
       try clear hcz13_1
       try clear hcz13_2
       try clear hcz8_0
       try clear hcz8_1
       try clear hcz8_2
       try clear hfz10_0
       try clear hfz10_1
       try clear hfz10_2
       try clear hfz11_0
       try clear hfz11_1
       try clear hfz11_2
       try clear hfz13_0
       try clear hfz13_1
       try clear hfz13_2
       try clear hfz8_0
       try clear hfz8_1
       try clear hfz8_2
       try clear hx159_0
       try clear p1
       try clear p159
       try clear p2
       try clear q1
       try clear q159
       obtain ⟨x26_2, x164000_2, x164001_2, rfl, HA, HK2, BK163, HB⟩ := hrel
       cases gk with
       | zero => exact absurd HA.out (by simp [utf_Take.l0])
       | succ k2 =>
        have H := HA.out
        clear HA
        simp only [utf_Take.l0] at H
        by_cases c14 : x26_2 < t162
        ·rw [if_pos c14] at H
         have c14b0 := decide_eq_true c14
         clear c14
         obtain ⟨ji15, hji15⟩ : ∃ j_ : Int, (wrap64 (x26_2 + 1)) = j_ := ⟨_, rfl⟩
         replace H : (if 0 ≤ (ji15) then (if (ji15) < (l0.length : Int) then (if (rd l0 (ji15)) < x164000_2 then (some (1, false)) else (if (rd l0 (ji15)) > x164001_2 then (some (1, false)) else (utf_Take.l0 k2 l0 t162 ji15 128 191 t162))) else (none)) else (none)) = some (r1, r2) := by first | (rw [hji15] at H; exact H) | (simp only [hji15] at H ⊢; exact H)
         have hji15w : (IntKind.i64.wrap (x26_2 + 1)) = ji15 := (i64_w _).trans hji15
         by_cases c16 : 0 ≤ (ji15)
         ·rw [if_pos c16] at H
          have c16b0 := decide_eq_true c16
          clear c16
          by_cases c17 : (ji15) < (l0.length : Int)
          ·rw [if_pos c17] at H
           have c17b0 := decide_eq_true c17
           clear c17
           by_cases c18 : (rd l0 (ji15)) < x164000_2
           ·rw [if_pos c18] at H
            have c18b0 := decide_eq_true c18
            clear c18
            simp only [Option.some.injEq, Prod.mk.injEq] at H
            obtain ⟨rfl, rfl⟩ := H
            have p164 : 0 ≤ ((ji15) : Int) := dt
            have q164 : (ji15) < (l0.length : Int) := dt
            obtain ⟨ad164, e164, hx164_0⟩ := Kd.at_int HR0.out (ji15) p164 q164
            obtain rfl : ad159 = ad164 := (by injection e164)
            replace hx164_0 := pw_cell_below HB.out hx164_0
            replace p164 := eq_true p164
            replace q164 := eq_true q164
            obtain ⟨hcz19_0, hcz19_1, hcz19_2, hfz19_0, hfz19_1, hfz19_2⟩ := blk3 BK163.out
            go_wp2
            go_ret2
            exact ⟨by first | rfl | (simp [errW_none, errW_some] <;> rfl) | (simp only [← hji15]; first | rfl | (simp [errW_none, errW_some] <;> rfl)) | (simp [*, errW_none, errW_some] <;> rfl), bAt HB.out⟩
           ·rw [if_neg c18] at H
            have c18b0 := decide_eq_false c18
            clear c18
            by_cases c20 : (rd l0 (ji15)) > x164001_2
            ·rw [if_pos c20] at H
             have c20b0 : decide (x164001_2 < (rd l0 (ji15))) = true := decide_eq_true c20
             clear c20
             simp only [Option.some.injEq, Prod.mk.injEq] at H
             obtain ⟨rfl, rfl⟩ := H
             have p164 : 0 ≤ ((ji15) : Int) := dt
             have q164 : (ji15) < (l0.length : Int) := dt
             obtain ⟨ad164, e164, hx164_0⟩ := Kd.at_int HR0.out (ji15) p164 q164
             obtain rfl : ad159 = ad164 := (by injection e164)
             replace hx164_0 := pw_cell_below HB.out hx164_0
             replace p164 := eq_true p164
             replace q164 := eq_true q164
             obtain ⟨hcz21_0, hcz21_1, hcz21_2, hfz21_0, hfz21_1, hfz21_2⟩ := blk3 BK163.out
             go_wp2
             go_ret2
             exact ⟨by first | rfl | (simp [errW_none, errW_some] <;> rfl) | (simp only [← hji15]; first | rfl | (simp [errW_none, errW_some] <;> rfl)) | (simp [*, errW_none, errW_some] <;> rfl), bAt HB.out⟩
            ·rw [if_neg c20] at H
             have c20b0 : decide (x164001_2 < (rd l0 (ji15))) = false := decide_eq_false c20
             clear c20
             have H' := Aside0.mk H
             clear H
             have p164 : 0 ≤ ((ji15) : Int) := dt
             have q164 : (ji15) < (l0.length : Int) := dt
             obtain ⟨ad164, e164, hx164_0⟩ := Kd.at_int HR0.out (ji15) p164 q164
             obtain rfl : ad159 = ad164 := (by injection e164)
             replace hx164_0 := pw_cell_below HB.out hx164_0
             replace p164 := eq_true p164
             replace q164 := eq_true q164
             obtain ⟨hcz22_0, hcz22_1, hcz22_2, hfz22_0, hfz22_1, hfz22_2⟩ := blk3 BK163.out
             go_wp2
             go_roundg k2
             case measure => have := HJ4.out; have := HK2.out; omega
             case rel => exact ⟨(ji15), (128), (191), (by first | rfl | (simp; done) | (simp only [← hji15] <;> (first | rfl | simp)) | (simp [*]; done)), H', ⟨by have := HJ4.out; have := HK2.out; omega⟩, ⟨by refine bP #[.int .u8 128, .int .u8 x164001_2, .int .i64 t162] 1 ?_; refine bP #[.int .u8 x164000_2, .int .u8 x164001_2, .int .i64 t162] 0 ?_; (with_reducible repeat (first | refine blk_drewN ?_ _ | refine blk_drew ?_ | refine blk_alloc ?_ _)); exact BK163.out⟩, ⟨bAt HB.out⟩⟩
          ·exact nB H c17
         ·exact nB H c16
        ·rw [if_neg c14] at H
         have c14b0 := decide_eq_false c14
         clear c14
         simp only [Option.some.injEq, Prod.mk.injEq] at H
         obtain ⟨rfl, rfl⟩ := H
         obtain ⟨hcz23_0, hcz23_1, hcz23_2, hfz23_0, hfz23_1, hfz23_2⟩ := blk3 BK163.out
         go_wp2
         go_ret2
         exact ⟨eR, bAt HB.out⟩
  ·exact nB H c3
def class_Name.f (a0 : Int) : Option (Bool) := (class_Of.f a0).bind fun t165 => (if t165 = 2 then (some true) else (if t165 = 3 then (some true) else (if t165 = 4 then (some true) else (some false))))
set_option maxHeartbeats 8000000 in
set_option maxRecDepth 100000 in
theorem class_Name.calls (a0 : Int) (r : Bool) (w : World) (hG : Gl w) (h : class_Name.f a0 = some r) :
  Calls Tryd.prog 43 #[.int .u8 a0] w fun e w' => e = .returned (.bool r) ∧ Below w.heap.size w w' := by
 have HB := Aside0.mk (Below.refl w.heap.size w)
 have HG := Aside0.mk hG
 clear hG
 have H : ((class_Of.f a0).bind fun t165 => (if t165 = 2 then (some true) else (if t165 = 3 then (some true) else (if t165 = 4 then (some true) else (some false))))) = some r := h
 clear h
 obtain ⟨t165, A2, H⟩ := bE H
 by_cases c3 : t165 = 2
 ·rw [if_pos c3] at H
  obtain ⟨c3b0, c3b1⟩ := eqB c3
  clear c3
  obtain rfl := Option.some.inj H
  go_enter Tryd.func43, Tryd.ntmps43
  go_wp2_with (first | ((with_reducible refine gate_callee (f := 24) rfl ?_); refine gL (some 4) Tryd.func24 #[.int .u8 a0] rfl gA ?_; (with_reducible refine (class_Of.calls a0 t165 _ ?side1 A2.out).mono ?_); (case side1 => exact Gl.below HG.out (bAt HB.out)); rintro e w4 ⟨rfl, hb⟩; refine ⟨_, rfl, ?_⟩; replace HB := Aside0.mk (below_step (bAt HB.out) hb); (try clear hb); (try clear hb2); (try clear hk); (try clear hi)))
  go_ret
  exact ⟨eR, bAt HB.out⟩
 ·rw [if_neg c3] at H
  obtain ⟨c3b0, c3b1⟩ := neB c3
  by_cases c5 : t165 = 3
  ·rw [if_pos c5] at H
   obtain ⟨c5b0, c5b1⟩ := eqB c5
   clear c5
   obtain rfl := Option.some.inj H
   go_enter Tryd.func43, Tryd.ntmps43
   go_wp2_with (first | ((with_reducible refine gate_callee (f := 24) rfl ?_); refine gL (some 4) Tryd.func24 #[.int .u8 a0] rfl gA ?_; (with_reducible refine (class_Of.calls a0 t165 _ ?side1 A2.out).mono ?_); (case side1 => exact Gl.below HG.out (bAt HB.out)); rintro e w6 ⟨rfl, hb⟩; refine ⟨_, rfl, ?_⟩; replace HB := Aside0.mk (below_step (bAt HB.out) hb); (try clear hb); (try clear hb2); (try clear hk); (try clear hi)))
   go_ret
   exact ⟨eR, bAt HB.out⟩
  ·rw [if_neg c5] at H
   obtain ⟨c5b0, c5b1⟩ := neB c5
   by_cases c7 : t165 = 4
   ·rw [if_pos c7] at H
    obtain ⟨c7b0, c7b1⟩ := eqB c7
    clear c7
    obtain rfl := Option.some.inj H
    go_enter Tryd.func43, Tryd.ntmps43
    go_wp2_with (first | ((with_reducible refine gate_callee (f := 24) rfl ?_); refine gL (some 4) Tryd.func24 #[.int .u8 a0] rfl gA ?_; (with_reducible refine (class_Of.calls a0 t165 _ ?side1 A2.out).mono ?_); (case side1 => exact Gl.below HG.out (bAt HB.out)); rintro e w8 ⟨rfl, hb⟩; refine ⟨_, rfl, ?_⟩; replace HB := Aside0.mk (below_step (bAt HB.out) hb); (try clear hb); (try clear hb2); (try clear hk); (try clear hi)))
    go_ret
    exact ⟨eR, bAt HB.out⟩
   ·rw [if_neg c7] at H
    obtain ⟨c7b0, c7b1⟩ := neB c7
    obtain rfl := Option.some.inj H
    go_enter Tryd.func43, Tryd.ntmps43
    go_wp2_with (first | ((with_reducible refine gate_callee (f := 24) rfl ?_); refine gL (some 4) Tryd.func24 #[.int .u8 a0] rfl gA ?_; (with_reducible refine (class_Of.calls a0 t165 _ ?side1 A2.out).mono ?_); (case side1 => exact Gl.below HG.out (bAt HB.out)); rintro e w9 ⟨rfl, hb⟩; refine ⟨_, rfl, ?_⟩; replace HB := Aside0.mk (below_step (bAt HB.out) hb); (try clear hb); (try clear hb2); (try clear hk); (try clear hi)))
    go_ret
    exact ⟨eR, bAt HB.out⟩
end Go.Proofs.YtklpephnbkoinaaDoor.P
