/- Part of the proof: what the theorem needs of this text. -/
import Derived.Test.YtklpephnbkoinaaDoorKPx0
namespace Go.Proofs.YtklpephnbkoinaaDoor.P
open Go.RowKit Go.Proofs.YtklpephnbkoinaaDoorW.PrintWords Go.Proofs.YtklpephnbkoinaaDoorW.PrintLast Go.Proofs.YtklpephnbkoinaaDoorW.PrintMore
attribute [local go_sem] max2_int min2_int max_two min_two max_three min_three max_four min_four   -- for this text's walks alone
set_option linter.unusedVariables false
set_option linter.unusedSimpArgs false
def match_of.f (l0 : List Int) (a1_0 : Int) (a1_1 : Int) (a1_2 : Int) (l1_3 : List (S39)) : Option (List Int × Bool) := if a1_0 < 0 then (some (([] : List Int), false)) else (if a1_1 < a1_0 then (some (([] : List Int), false)) else (if a1_1 > (l0.length : Int) then (some (([] : List Int), false)) else (if 0 ≤ a1_0 then (if a1_0 ≤ a1_1 then (if a1_1 ≤ (l0.length : Int) then (some (((l0.take (a1_1 : Int).toNat).drop (a1_0 : Int).toNat), true)) else (none)) else (none)) else (none))))
set_option maxHeartbeats 8000000 in
set_option maxRecDepth 100000 in
theorem match_of.calls (P0_ : Nat → Prop) (A0 : Option Addr) (c0 : Nat) (l0 : List Int) (a1_0 : Int) (a1_1 : Int) (a1_2 : Int) (A1_3 : Option Addr) (c1_3 : Nat) (l1_3 : List (S39)) (r1 : List Int) (r2 : Bool) (w : World) (hs0 : Kd.V (Kd.int .u8) 5 w w.heap.size (fun k_ => P0_ k_) (.slice A0 l0.length c0) l0) (hr1_3 : Kd.C k39 w A1_3 l1_3.length l1_3) (hc1_3 : l1_3.length ≤ c1_3) (h : match_of.f l0 a1_0 a1_1 a1_2 l1_3 = some (r1, r2)) :
  Calls Tryd.prog 13 #[.slice A0 l0.length c0, .agg #[.int .i64 a1_0, .int .i64 a1_1, .int .i64 a1_2, .slice A1_3 l1_3.length c1_3]] w fun e w' => ∃ v0_ : Value, e = .returned (.tuple #[v0_, .bool r2]) ∧ Kd.V (Kd.int .u8) 5 w' w.heap.size (fun k_ => (P0_ k_ ∨ w.heap.size ≤ k_)) v0_ r1 ∧ Below w.heap.size w w' := by
 have hu36 := Tryd.underlying36
 have HO0 := Aside0.mk (show Kd.V (Kd.int .u8) 5 w w.heap.size (fun k_ => (P0_ k_ ∨ w.heap.size ≤ k_)) (.slice A0 l0.length c0) l0 from Kd.V_mono hs0 (fun k_ hk => .inl hk))
 have HR1_3 := Aside0.mk hr1_3
 have HC1_3 := Aside0.mk hc1_3
 clear hr1_3 hc1_3
 have HB := Aside0.mk (Below.refl w.heap.size w)
 have H : (if a1_0 < 0 then (some (([] : List Int), false)) else (if a1_1 < a1_0 then (some (([] : List Int), false)) else (if a1_1 > (l0.length : Int) then (some (([] : List Int), false)) else (if 0 ≤ a1_0 then (if a1_0 ≤ a1_1 then (if a1_1 ≤ (l0.length : Int) then (some (((l0.take (a1_1 : Int).toNat).drop (a1_0 : Int).toNat), true)) else (none)) else (none)) else (none))))) = some (r1, r2) := h
 clear h
 by_cases c3 : a1_0 < 0
 ·rw [if_pos c3] at H
  have c3b0 := decide_eq_true c3
  clear c3
  simp only [Option.some.injEq, Prod.mk.injEq] at H
  obtain ⟨rfl, rfl⟩ := H
  go_enter Tryd.func13, Tryd.ntmps13
  go_wp2_with (first | ((with_reducible refine gate_dst (N := 3) rfl ?_); (try (refine gate_guard (by rfl) ?_; dsimp only)); refine box_event ?hg (N := 3) ?hd (cs := #[.int .i64 a1_0, .int .i64 a1_1, .int .i64 a1_2, .slice A1_3 l1_3.length c1_3]) (t := 36) ?hr ?_; (case hd => rfl); (case hg => rfl); (case hr => first | (go_simp; done) | (go_simp; rfl)); intro gb101 hg w4 hbox hb; replace HO0 := Aside0.mk (Kd.V_below (Kd.V_elderB (VAt HO0.out) gb101 (Nat.le_of_eq hg.symm)) hb); have BK101 := Aside0.mk (hbox); have GW101 := Aside0.mk (gE (g := gb101) hg HB.out); have GE101 := Aside0.mk (gE (g := gb101) hg HB.out); replace HB := Aside0.mk (below_step (bAt HB.out) hb); clear hb hbox hg; obtain ⟨hcz5_0, hcz5_1, hcz5_2, hcz5_3, hfz5_0, hfz5_1, hfz5_2, hfz5_3⟩ := blk4 BK101.out))
  go_ret2
  exact ⟨_, eR, (by first | exact Kd.V_nil _ _ _ _ _ | exact Kd.R_V (Kd.R_nil _ _ _ 0 _)), bAt HB.out⟩
 ·rw [if_neg c3] at H
  have c3b0 := decide_eq_false c3
  clear c3
  by_cases c6 : a1_1 < a1_0
  ·rw [if_pos c6] at H
   have c6b0 := decide_eq_true c6
   clear c6
   simp only [Option.some.injEq, Prod.mk.injEq] at H
   obtain ⟨rfl, rfl⟩ := H
   go_enter Tryd.func13, Tryd.ntmps13
   go_wp2_with (first | ((with_reducible refine gate_dst (N := 3) rfl ?_); (try (refine gate_guard (by rfl) ?_; dsimp only)); refine box_event ?hg (N := 3) ?hd (cs := #[.int .i64 a1_0, .int .i64 a1_1, .int .i64 a1_2, .slice A1_3 l1_3.length c1_3]) (t := 36) ?hr ?_; (case hd => rfl); (case hg => rfl); (case hr => first | (go_simp; done) | (go_simp; rfl)); intro gb101 hg w7 hbox hb; replace HO0 := Aside0.mk (Kd.V_below (Kd.V_elderB (VAt HO0.out) gb101 (Nat.le_of_eq hg.symm)) hb); have BK101 := Aside0.mk (hbox); have GW101 := Aside0.mk (gE (g := gb101) hg HB.out); have GE101 := Aside0.mk (gE (g := gb101) hg HB.out); replace HB := Aside0.mk (below_step (bAt HB.out) hb); clear hb hbox hg; obtain ⟨hcz8_0, hcz8_1, hcz8_2, hcz8_3, hfz8_0, hfz8_1, hfz8_2, hfz8_3⟩ := blk4 BK101.out))
   go_ret2
   exact ⟨_, eR, (by first | exact Kd.V_nil _ _ _ _ _ | exact Kd.R_V (Kd.R_nil _ _ _ 0 _)), bAt HB.out⟩
  ·rw [if_neg c6] at H
   have c6b0 := decide_eq_false c6
   clear c6
   by_cases c9 : a1_1 > (l0.length : Int)
   ·rw [if_pos c9] at H
    have c9b0 : decide ((l0.length : Int) < a1_1) = true := decide_eq_true c9
    clear c9
    simp only [Option.some.injEq, Prod.mk.injEq] at H
    obtain ⟨rfl, rfl⟩ := H
    go_enter Tryd.func13, Tryd.ntmps13
    go_wp2_with (first | ((with_reducible refine gate_dst (N := 3) rfl ?_); (try (refine gate_guard (by rfl) ?_; dsimp only)); refine box_event ?hg (N := 3) ?hd (cs := #[.int .i64 a1_0, .int .i64 a1_1, .int .i64 a1_2, .slice A1_3 l1_3.length c1_3]) (t := 36) ?hr ?_; (case hd => rfl); (case hg => rfl); (case hr => first | (go_simp; done) | (go_simp; rfl)); intro gb101 hg w10 hbox hb; replace HO0 := Aside0.mk (Kd.V_below (Kd.V_elderB (VAt HO0.out) gb101 (Nat.le_of_eq hg.symm)) hb); have BK101 := Aside0.mk (hbox); have GW101 := Aside0.mk (gE (g := gb101) hg HB.out); have GE101 := Aside0.mk (gE (g := gb101) hg HB.out); replace HB := Aside0.mk (below_step (bAt HB.out) hb); clear hb hbox hg; obtain ⟨hcz11_0, hcz11_1, hcz11_2, hcz11_3, hfz11_0, hfz11_1, hfz11_2, hfz11_3⟩ := blk4 BK101.out))
    go_ret2
    exact ⟨_, eR, (by first | exact Kd.V_nil _ _ _ _ _ | exact Kd.R_V (Kd.R_nil _ _ _ 0 _)), bAt HB.out⟩
   ·rw [if_neg c9] at H
    have c9b0 : decide ((l0.length : Int) < a1_1) = false := decide_eq_false c9
    clear c9
    by_cases c12 : 0 ≤ a1_0
    ·rw [if_pos c12] at H
     have c12b0 := eq_true c12
     have c12b1 := decide_eq_true c12
     clear c12
     by_cases c13 : a1_0 ≤ a1_1
     ·rw [if_pos c13] at H
      have c13b0 := eq_true c13
      have c13b1 := decide_eq_true c13
      clear c13
      by_cases c14 : a1_1 ≤ (l0.length : Int)
      ·rw [if_pos c14] at H
       have c14b0 := eq_true c14
       have c14b1 := decide_eq_true c14
       clear c14
       obtain ⟨y102, hy102⟩ : ∃ y_ : List Int, y_ = ((l0.take (a1_1 : Int).toNat).drop (a1_0 : Int).toNat) := ⟨_, rfl⟩
       replace H : (some (y102, true)) = some (r1, r2) := by first | (rw [hy102]; with_reducible exact H) | (have H2_ := (Option.bind_some _ _).symm.trans H; rw [hy102]; with_reducible exact H2_) | (have H2_ := (Option.bind_some _ _).symm.trans H; with_reducible exact H2_) | with_reducible exact H | (rw [hy102]; exact H) | exact H
       have Ny102 := Aside0.mk hy102
       clear hy102
       simp only [Option.some.injEq, Prod.mk.injEq] at H
       obtain ⟨rfl, rfl⟩ := H
       go_enter Tryd.func13, Tryd.ntmps13
       go_wp2_with (first | ((with_reducible refine gate_dst (N := 3) rfl ?_); (try (refine gate_guard (by rfl) ?_; dsimp only)); refine box_event ?hg (N := 3) ?hd (cs := #[.int .i64 a1_0, .int .i64 a1_1, .int .i64 a1_2, .slice A1_3 l1_3.length c1_3]) (t := 36) ?hr ?_; (case hd => rfl); (case hg => rfl); (case hr => first | (go_simp; done) | (go_simp; rfl)); intro gb101 hg w15 hbox hb; replace HO0 := Aside0.mk (Kd.V_below (Kd.V_elderB (VAt HO0.out) gb101 (Nat.le_of_eq hg.symm)) hb); have BK101 := Aside0.mk (hbox); have GW101 := Aside0.mk (gE (g := gb101) hg HB.out); have GE101 := Aside0.mk (gE (g := gb101) hg HB.out); replace HB := Aside0.mk (below_step (bAt HB.out) hb); clear hb hbox hg; obtain ⟨hcz16_0, hcz16_1, hcz16_2, hcz16_3, hfz16_0, hfz16_1, hfz16_2, hfz16_3⟩ := blk4 BK101.out; have q17 : (a1_1 : Int) ≤ ((l0.length : Int) : Int) := dt; obtain ⟨i017, hi017, _, hsz17, _⟩ := info_parts info5; have hroom17 : l0.length ≤ c0 := (Kd.V_reads' HO0.out).2.1; have hC17 : Kd.F (Kd.int .u8) _ _ A0 l0.length l0 := (Kd.V_at (base := w.heap.size) HO0.out).2.2; have ql17 : (a1_0 : Int) ≤ (a1_1 : Int) := dt; have q017 : (0 : Int) ≤ (a1_0 : Int) := dt; have hcut17 := cut_mid (P := Tryd.prog) 22 5 .i64 .i64 Tryd.underlying22 hi017 1 hsz17 A0 l0.length c0 a1_0 a1_1 q017 ql17 q17 hroom17; have hr17 := Kd.F_mid (lo := (a1_0 : Int).toNat) (hi := (a1_1 : Int).toNat) (c := c0) hC17 (by omega) (by omega) hroom17; obtain ⟨A17, hA17⟩ : ∃ A1, A1 = (if c0 = (a1_0 : Int).toNat then A0 else (A0 : Option Addr).map (·.add ((a1_0 : Int).toNat * 1))) := ⟨_, rfl⟩; obtain ⟨c17, hc17⟩ : ∃ c1, c1 = c0 - (a1_0 : Int).toNat := ⟨_, rfl⟩; have hy17 : y102.length = (a1_1 : Int).toNat - (a1_0 : Int).toNat := (by rw [Ny102.out, List.length_drop, List.length_take] <;> omega); rw [show ((l0).take (a1_1 : Int).toNat).drop (a1_0 : Int).toNat = y102 from Ny102.out.symm] at hr17; replace hr17 : Kd.F (Kd.int .u8) _ _ A17 y102.length y102 := (by rw [hA17]; exact hr17); rw [← hy17, ← hA17, ← hc17] at hcut17; have HO106 := Aside0.mk (show Kd.V (Kd.int .u8) 5 _ w.heap.size _ (.slice A17 y102.length c17) y102 from Kd.V_mk (by rw [hy17, hc17]; exact Nat.sub_le_sub_right (Nat.le_trans (by omega) hroom17) _) hr17); have HC106 := Aside0.mk (show y102.length ≤ c17 from by rw [hy17, hc17]; exact Nat.sub_le_sub_right (Nat.le_trans (by omega) hroom17) _); clear hr17 hC17 hroom17 hi017 hsz17 hc17; have KY17 := Aside0.mk hy17; have KA17 := Aside0.mk hA17; clear hy17 hA17; replace q17 := eq_true q17))
       go_ret2
       exact ⟨_, eR, VAt (Kd.V_mono HO106.out (fun _ hk => hk.1)), bAt HB.out⟩
      ·exact nB H c14
     ·exact nB H c13
    ·exact nB H c12
def bytes_Equal.f (l0 : List Int) (l1 : List Int) : Option (Bool) := some ((strOfNums l0).toList == (strOfNums l1).toList)
set_option maxHeartbeats 8000000 in
set_option maxRecDepth 100000 in
theorem bytes_Equal.calls (A0 : Option Addr) (c0 : Nat) (l0 : List Int) (A1 : Option Addr) (c1 : Nat) (l1 : List Int) (r : Bool) (w : World) (hr0 : Kd.C (Kd.int .u8) w A0 l0.length l0) (hc0 : l0.length ≤ c0) (hr1 : Kd.C (Kd.int .u8) w A1 l1.length l1) (hc1 : l1.length ≤ c1) (h : bytes_Equal.f l0 l1 = some r) :
  Calls Tryd.prog 14 #[.slice A0 l0.length c0, .slice A1 l1.length c1] w fun e w' => e = .returned (.bool r) ∧ Drawn0 w w' := by
 have HR0 := Aside0.mk hr0
 have HC0 := Aside0.mk hc0
 clear hr0 hc0
 have HR1 := Aside0.mk hr1
 have HC1 := Aside0.mk hc1
 clear hr1 hc1
 have H : (some ((strOfNums l0).toList == (strOfNums l1).toList)) = some r := h
 clear h
 obtain rfl := Option.some.inj H
 have hcv3 := Kd.C_string (P := Tryd.prog) (A := A0) (c := c0) Tryd.underlying22 Tryd.underlying5 Tryd.underlying9 HR0.out
 have hcv3z := hcv3
 (try rw [List.length_drop, List.length_take, Nat.min_eq_left (Int.toNat_le.mpr dt)] at hcv3z)
 have hcv3y := hcv3
 (try rw [List.length_take, Nat.min_eq_left (Int.toNat_le.mpr dt)] at hcv3y)
 have hcv3x := hcv3
 (try rw [List.length_take, mM] at hcv3x)
 have hcv3m := hcv3
 (try simp only [Int.reduceToNat, List.length_take] at hcv3m)
 have hcv3q := fun (q_ : Nat) => Kd.C_string (P := Tryd.prog) (A := A0) (c := c0) Tryd.underlying22 Tryd.underlying5 Tryd.underlying9 (Kd.C_drewN HR0.out q_)
 have hcv3qy := hcv3q
 (try simp only [List.length_take, Nat.min_eq_left (Int.toNat_le.mpr dt)] at hcv3qy)
 have hcv3qw := hcv3q
 (try simp only [Int.reduceToNat] at hcv3qw)
 have hcv3qv := hcv3qy
 (try simp only [Int.reduceToNat] at hcv3qv)
 have hcv3qu := hcv3q
 (try simp only [Int.reduceToNat, List.length_take] at hcv3qu)
 have hcv4 := Kd.C_string (P := Tryd.prog) (A := A1) (c := c1) Tryd.underlying22 Tryd.underlying5 Tryd.underlying9 HR1.out
 have hcv4z := hcv4
 (try rw [List.length_drop, List.length_take, Nat.min_eq_left (Int.toNat_le.mpr dt)] at hcv4z)
 have hcv4y := hcv4
 (try rw [List.length_take, Nat.min_eq_left (Int.toNat_le.mpr dt)] at hcv4y)
 have hcv4x := hcv4
 (try rw [List.length_take, mM] at hcv4x)
 have hcv4m := hcv4
 (try simp only [Int.reduceToNat, List.length_take] at hcv4m)
 have hcv4q := fun (q_ : Nat) => Kd.C_string (P := Tryd.prog) (A := A1) (c := c1) Tryd.underlying22 Tryd.underlying5 Tryd.underlying9 (Kd.C_drewN HR1.out q_)
 have hcv4qy := hcv4q
 (try simp only [List.length_take, Nat.min_eq_left (Int.toNat_le.mpr dt)] at hcv4qy)
 have hcv4qw := hcv4q
 (try simp only [Int.reduceToNat] at hcv4qw)
 have hcv4qv := hcv4qy
 (try simp only [Int.reduceToNat] at hcv4qv)
 have hcv4qu := hcv4q
 (try simp only [Int.reduceToNat, List.length_take] at hcv4qu)
 go_enter Tryd.func14, Tryd.ntmps14
 go_wp2
 go_ret
 exact ⟨by first | rfl | (simp; done) | (simp [*]; done), by repeat (first | exact Drawn0.refl _ | apply Drawn0.step)⟩
def match_Keep_1.f (a0_0 : Int) (a0_1 : Int) (a0_2 : Int) (l0_3 : List (S39)) (a1_0 : Int) (a1_1 : Int) (a1_2 : Int) (l1_3 : List (S39)) (l2 : List Int) (l3 : List Int) : Option (Bool) := (match_of.f l2 a0_0 a0_1 a0_2 l0_3).bind fun bt109 => ((match_of.f l3 a1_0 a1_1 a1_2 l1_3).bind fun bt113 => (if bt109.2 = true then (if bt113.2 = true then ((bytes_Equal.f bt109.1 bt113.1).bind fun t117 => (some t117)) else (some false)) else (some false)))
set_option maxHeartbeats 8000000 in
set_option maxRecDepth 100000 in
theorem match_Keep_1.calls (gx2_ : Nat) (gx3_ : Nat) (a0_0 : Int) (a0_1 : Int) (a0_2 : Int) (A0_3 : Option Addr) (c0_3 : Nat) (l0_3 : List (S39)) (a1_0 : Int) (a1_1 : Int) (a1_2 : Int) (A1_3 : Option Addr) (c1_3 : Nat) (l1_3 : List (S39)) (A2 : Option Addr) (c2 : Nat) (l2 : List Int) (A3 : Option Addr) (c3 : Nat) (l3 : List Int) (r : Bool) (w : World) (hr0_3 : Kd.C k39 w A0_3 l0_3.length l0_3) (hc0_3 : l0_3.length ≤ c0_3) (hr1_3 : Kd.C k39 w A1_3 l1_3.length l1_3) (hc1_3 : l1_3.length ≤ c1_3) (hr2 : Kd.C (Kd.int .u8) w A2 l2.length l2) (hc2 : l2.length ≤ c2) (hr3 : Kd.C (Kd.int .u8) w A3 l3.length l3) (hc3 : l3.length ≤ c3) (hx2_ : w.cell? ⟨gx2_, 0, none⟩ = some (.slice A2 l2.length c2)) (hx3_ : w.cell? ⟨gx3_, 0, none⟩ = some (.slice A3 l3.length c3)) (h : match_Keep_1.f a0_0 a0_1 a0_2 l0_3 a1_0 a1_1 a1_2 l1_3 l2 l3 = some r) :
  Calls Tryd.prog 12 #[.agg #[.int .i64 a0_0, .int .i64 a0_1, .int .i64 a0_2, .slice A0_3 l0_3.length c0_3], .agg #[.int .i64 a1_0, .int .i64 a1_1, .int .i64 a1_2, .slice A1_3 l1_3.length c1_3], .pointer (some ⟨gx2_, 0, none⟩), .pointer (some ⟨gx3_, 0, none⟩)] w fun e w' => e = .returned (.bool r) ∧ Below w.heap.size w w' := by
 have hu36 := Tryd.underlying36
 have HR0_3 := Aside0.mk hr0_3
 have HC0_3 := Aside0.mk hc0_3
 clear hr0_3 hc0_3
 have HR1_3 := Aside0.mk hr1_3
 have HC1_3 := Aside0.mk hc1_3
 clear hr1_3 hc1_3
 have HR2 := Aside0.mk hr2
 have HC2 := Aside0.mk hc2
 clear hr2 hc2
 have HR3 := Aside0.mk hr3
 have HC3 := Aside0.mk hc3
 clear hr3 hc3
 have HB := Aside0.mk (Below.refl w.heap.size w)
 have H : ((match_of.f l2 a0_0 a0_1 a0_2 l0_3).bind fun bt109 => ((match_of.f l3 a1_0 a1_1 a1_2 l1_3).bind fun bt113 => (if bt109.2 = true then (if bt113.2 = true then ((bytes_Equal.f bt109.1 bt113.1).bind fun t117 => (some t117)) else (some false)) else (some false)))) = some r := h
 clear h
 obtain ⟨⟨t109, t112⟩, A5, H⟩ := bE H
 replace H : ((match_of.f l3 a1_0 a1_1 a1_2 l1_3).bind fun bt113 => (if t112 = true then (if bt113.2 = true then ((bytes_Equal.f t109 bt113.1).bind fun t117 => (some t117)) else (some false)) else (some false))) = some r := H
 obtain ⟨⟨t113, t116⟩, A6, H⟩ := bE H
 replace H : (if t112 = true then (if t116 = true then ((bytes_Equal.f t109 t113).bind fun t117 => (some t117)) else (some false)) else (some false)) = some r := H
 by_cases c7 : t112 = true
 ·subst c7
  replace H := tP H
  by_cases c8 : t116 = true
  ·subst c8
   replace H := tP H
   obtain ⟨t117, A9, H⟩ := bE H
   obtain rfl := Option.some.inj H
   go_enter Tryd.func12, Tryd.ntmps12
   go_wp2_with (first | ((with_reducible refine gate_dst (N := 4) rfl ?_); refine box_event ?hg (N := 4) ?hd (cs := #[.int .i64 a0_0, .int .i64 a0_1, .int .i64 a0_2, .slice A0_3 l0_3.length c0_3]) (t := 36) ?hr ?_; (case hd => rfl); (case hg => rfl); (case hr => first | (go_simp; done) | (go_simp; rfl)); intro gb107 hg w10 hbox hb; have BK107 := Aside0.mk (hbox); have GW107 := Aside0.mk (gE (g := gb107) hg HB.out); have GE107 := Aside0.mk (gE (g := gb107) hg HB.out); replace HB := Aside0.mk (below_step (bAt HB.out) hb); have hxw2_ := pw_cell_below HB.out hx2_; have hxw3_ := pw_cell_below HB.out hx3_; clear hb hbox hg) | ((with_reducible refine gate_dst (N := 5) rfl ?_); refine box_event ?hg (N := 5) ?hd (cs := #[.int .i64 a1_0, .int .i64 a1_1, .int .i64 a1_2, .slice A1_3 l1_3.length c1_3]) (t := 36) ?hr ?_; (case hd => rfl); (case hg => rfl); (case hr => first | (go_simp; done) | (go_simp; rfl)); intro gb108 hg w11 hbox hb; have BK108 := Aside0.mk (hbox); have GW108 := Aside0.mk (gE (g := gb108) hg HB.out); have GE108 := Aside0.mk (gE (g := gb108) hg HB.out); replace HB := Aside0.mk (below_step (bAt HB.out) hb); have hxw2_ := pw_cell_below HB.out hx2_; have hxw3_ := pw_cell_below HB.out hx3_; have NB107_108 := Aside0.mk ((by rw [hg]; exact Nat.ne_of_lt (blk_lt (g := gb107) (o := .cells #[.int .i64 a0_0, .int .i64 a0_1, .int .i64 a0_2, .slice A0_3 l0_3.length c0_3] 36 (0, 0)) (kAt BK107.out)) : gb107 ≠ gb108)); have NB108_107 := Aside0.mk ((by rw [hg]; exact Nat.ne_of_gt (blk_lt (g := gb107) (o := .cells #[.int .i64 a0_0, .int .i64 a0_1, .int .i64 a0_2, .slice A0_3 l0_3.length c0_3] 36 (0, 0)) (kAt BK107.out)) : gb108 ≠ gb107)); replace BK107 := Aside0.mk (blk_below (g := gb107) (o := .cells #[.int .i64 a0_0, .int .i64 a0_1, .int .i64 a0_2, .slice A0_3 l0_3.length c0_3] 36 (0, 0)) (kAt BK107.out) hb); clear hb hbox hg; have hnb12 := NB107_108.out; have hnc12 := NB108_107.out; obtain ⟨hcz13_0, hcz13_1, hcz13_2, hcz13_3, hfz13_0, hfz13_1, hfz13_2, hfz13_3⟩ := blk4 BK107.out) | ((with_reducible refine gate_callee (f := 13) rfl ?_); refine gL (some 14) Tryd.func13 #[.slice A2 l2.length c2, .agg #[.int .i64 a0_0, .int .i64 a0_1, .int .i64 a0_2, .slice A0_3 l0_3.length c0_3]] rfl gA ?_; (with_reducible refine (match_of.calls (fun k_ => k_ < w.heap.size) _ _ l2 a0_0 a0_1 a0_2 _ _ l0_3 t109 true _ ?side1 ?side2 ?side3 A5.out).mono ?_); (case side1 => exact Kd.V_mk HC2.out (Kd.F_below (Kd.C_F (Kd.heap_int .u8) HR2.out) (bAt HB.out))); (case side2 => exact CAt (Kd.C_below HR0_3.out HB.out)); (case side3 => exact HC0_3.out); rintro e w14 ⟨v110, rfl, ho0, hb⟩; refine ⟨_, rfl, ?_⟩; have HO111 := Aside0.mk (Kd.V_lower (Kd.V_mono (ok' := fun k_ => k_ ≠ gb107 ∧ k_ ≠ gb108) ho0 (fun k_ hk_ => ⟨Or.elim hk_ (fun hs_ => fun e_ => Nat.not_le.2 hs_ (by rw [e_]; exact GW107.out)) (fun hn_ => (Kd.freshB (g := gb107) (o := .cells #[.int .i64 a0_0, .int .i64 a0_1, .int .i64 a0_2, .slice A0_3 l0_3.length c0_3] 36 (0, 0)) (kAt BK107.out) k_ hn_)), Or.elim hk_ (fun hs_ => fun e_ => Nat.not_le.2 hs_ (by rw [e_]; exact GW108.out)) (fun hn_ => (Kd.freshB (g := gb108) (o := .cells #[.int .i64 a1_0, .int .i64 a1_1, .int .i64 a1_2, .slice A1_3 l1_3.length c1_3] 36 (0, 0)) (kAt BK108.out) k_ hn_))⟩)) (below_size (bAt HB.out))); replace BK107 := Aside0.mk (blk_below (g := gb107) (o := .cells #[.int .i64 a0_0, .int .i64 a0_1, .int .i64 a0_2, .slice A0_3 l0_3.length c0_3] 36 (0, 0)) (kAt BK107.out) hb); replace BK108 := Aside0.mk (blk_below (g := gb108) (o := .cells #[.int .i64 a1_0, .int .i64 a1_1, .int .i64 a1_2, .slice A1_3 l1_3.length c1_3] 36 (0, 0)) (kAt BK108.out) hb); replace HB := Aside0.mk (below_step (bAt HB.out) hb); have hxw2_ := pw_cell_below HB.out hx2_; have hxw3_ := pw_cell_below HB.out hx3_; (try clear hb); (try clear hb2); (try clear hk); (try clear hi); (try clear ho0); obtain ⟨hcz15_0, hcz15_1, hcz15_2, hcz15_3, hfz15_0, hfz15_1, hfz15_2, hfz15_3⟩ := blk4 BK108.out) | ((with_reducible refine gate_callee (f := 13) rfl ?_); refine gL (some 20) Tryd.func13 #[.slice A3 l3.length c3, .agg #[.int .i64 a1_0, .int .i64 a1_1, .int .i64 a1_2, .slice A1_3 l1_3.length c1_3]] rfl gA ?_; (with_reducible refine (match_of.calls (fun k_ => k_ < w.heap.size) _ _ l3 a1_0 a1_1 a1_2 _ _ l1_3 t113 true _ ?side1 ?side2 ?side3 A6.out).mono ?_); (case side1 => exact Kd.V_mk HC3.out (Kd.F_below (Kd.C_F (Kd.heap_int .u8) HR3.out) (bAt HB.out))); (case side2 => exact CAt (Kd.C_below HR1_3.out HB.out)); (case side3 => exact HC1_3.out); rintro e w16 ⟨v114, rfl, ho0, hb⟩; refine ⟨_, rfl, ?_⟩; replace HO111 := Aside0.mk (Kd.V_below (VAt HO111.out) hb); have HO115 := Aside0.mk (Kd.V_lower (Kd.V_mono (ok' := fun k_ => k_ ≠ gb107 ∧ k_ ≠ gb108) ho0 (fun k_ hk_ => ⟨Or.elim hk_ (fun hs_ => fun e_ => Nat.not_le.2 hs_ (by rw [e_]; exact GW107.out)) (fun hn_ => (Kd.freshB (g := gb107) (o := .cells #[.int .i64 a0_0, .int .i64 a0_1, .int .i64 a0_2, .slice A0_3 l0_3.length c0_3] 36 (0, 0)) (kAt BK107.out) k_ hn_)), Or.elim hk_ (fun hs_ => fun e_ => Nat.not_le.2 hs_ (by rw [e_]; exact GW108.out)) (fun hn_ => (Kd.freshB (g := gb108) (o := .cells #[.int .i64 a1_0, .int .i64 a1_1, .int .i64 a1_2, .slice A1_3 l1_3.length c1_3] 36 (0, 0)) (kAt BK108.out) k_ hn_))⟩)) (below_size (bAt HB.out))); replace BK107 := Aside0.mk (blk_below (g := gb107) (o := .cells #[.int .i64 a0_0, .int .i64 a0_1, .int .i64 a0_2, .slice A0_3 l0_3.length c0_3] 36 (0, 0)) (kAt BK107.out) hb); replace BK108 := Aside0.mk (blk_below (g := gb108) (o := .cells #[.int .i64 a1_0, .int .i64 a1_1, .int .i64 a1_2, .slice A1_3 l1_3.length c1_3] 36 (0, 0)) (kAt BK108.out) hb); replace HB := Aside0.mk (below_step (bAt HB.out) hb); have hxw2_ := pw_cell_below HB.out hx2_; have hxw3_ := pw_cell_below HB.out hx3_; (try clear hb); (try clear hb2); (try clear hk); (try clear hi); (try clear ho0); obtain ⟨Ao17, co17, eo17⟩ := Kd.V_slice HO111.out; subst eo17; obtain ⟨Ao18, co18, eo18⟩ := Kd.V_slice HO115.out; subst eo18) | ((with_reducible refine gate_callee (f := 14) rfl ?_); (try (refine gate_guard (by rfl) ?_; dsimp only)); refine gL (some 30) Tryd.func14 #[.slice Ao17 t109.length co17, .slice Ao18 t113.length co18] rfl gA ?_; (with_reducible refine (bytes_Equal.calls _ _ t109 _ _ t113 t117 _ ?side1 ?side2 ?side3 ?side4 A9.out).mono ?_); (case side1 => exact CAt ((Kd.V_reads' HO111.out).2.2)); (case side2 => exact (Kd.V_reads' HO111.out).2.1); (case side3 => exact CAt ((Kd.V_reads' HO115.out).2.2)); (case side4 => exact (Kd.V_reads' HO115.out).2.1); rintro e w' ⟨rfl, ⟨nd, rfl⟩⟩; refine ⟨_, rfl, ?_⟩))
   go_ret
   exact ⟨eR, bAt HB.out⟩
  ·replace c8 := Bool.eq_false_iff.mpr c8
   subst c8
   replace H := fP H
   obtain rfl := Option.some.inj H
   go_enter Tryd.func12, Tryd.ntmps12
   go_wp2_with (first | ((with_reducible refine gate_dst (N := 4) rfl ?_); refine box_event ?hg (N := 4) ?hd (cs := #[.int .i64 a0_0, .int .i64 a0_1, .int .i64 a0_2, .slice A0_3 l0_3.length c0_3]) (t := 36) ?hr ?_; (case hd => rfl); (case hg => rfl); (case hr => first | (go_simp; done) | (go_simp; rfl)); intro gb107 hg w19 hbox hb; have BK107 := Aside0.mk (hbox); have GW107 := Aside0.mk (gE (g := gb107) hg HB.out); have GE107 := Aside0.mk (gE (g := gb107) hg HB.out); replace HB := Aside0.mk (below_step (bAt HB.out) hb); have hxw2_ := pw_cell_below HB.out hx2_; have hxw3_ := pw_cell_below HB.out hx3_; clear hb hbox hg) | ((with_reducible refine gate_dst (N := 5) rfl ?_); refine box_event ?hg (N := 5) ?hd (cs := #[.int .i64 a1_0, .int .i64 a1_1, .int .i64 a1_2, .slice A1_3 l1_3.length c1_3]) (t := 36) ?hr ?_; (case hd => rfl); (case hg => rfl); (case hr => first | (go_simp; done) | (go_simp; rfl)); intro gb108 hg w20 hbox hb; have BK108 := Aside0.mk (hbox); have GW108 := Aside0.mk (gE (g := gb108) hg HB.out); have GE108 := Aside0.mk (gE (g := gb108) hg HB.out); replace HB := Aside0.mk (below_step (bAt HB.out) hb); have hxw2_ := pw_cell_below HB.out hx2_; have hxw3_ := pw_cell_below HB.out hx3_; have NB107_108 := Aside0.mk ((by rw [hg]; exact Nat.ne_of_lt (blk_lt (g := gb107) (o := .cells #[.int .i64 a0_0, .int .i64 a0_1, .int .i64 a0_2, .slice A0_3 l0_3.length c0_3] 36 (0, 0)) (kAt BK107.out)) : gb107 ≠ gb108)); have NB108_107 := Aside0.mk ((by rw [hg]; exact Nat.ne_of_gt (blk_lt (g := gb107) (o := .cells #[.int .i64 a0_0, .int .i64 a0_1, .int .i64 a0_2, .slice A0_3 l0_3.length c0_3] 36 (0, 0)) (kAt BK107.out)) : gb108 ≠ gb107)); replace BK107 := Aside0.mk (blk_below (g := gb107) (o := .cells #[.int .i64 a0_0, .int .i64 a0_1, .int .i64 a0_2, .slice A0_3 l0_3.length c0_3] 36 (0, 0)) (kAt BK107.out) hb); clear hb hbox hg; have hnb21 := NB107_108.out; have hnc21 := NB108_107.out; obtain ⟨hcz22_0, hcz22_1, hcz22_2, hcz22_3, hfz22_0, hfz22_1, hfz22_2, hfz22_3⟩ := blk4 BK107.out) | ((with_reducible refine gate_callee (f := 13) rfl ?_); refine gL (some 14) Tryd.func13 #[.slice A2 l2.length c2, .agg #[.int .i64 a0_0, .int .i64 a0_1, .int .i64 a0_2, .slice A0_3 l0_3.length c0_3]] rfl gA ?_; (with_reducible refine (match_of.calls (fun k_ => k_ < w.heap.size) _ _ l2 a0_0 a0_1 a0_2 _ _ l0_3 t109 true _ ?side1 ?side2 ?side3 A5.out).mono ?_); (case side1 => exact Kd.V_mk HC2.out (Kd.F_below (Kd.C_F (Kd.heap_int .u8) HR2.out) (bAt HB.out))); (case side2 => exact CAt (Kd.C_below HR0_3.out HB.out)); (case side3 => exact HC0_3.out); rintro e w23 ⟨v110, rfl, ho0, hb⟩; refine ⟨_, rfl, ?_⟩; have HO111 := Aside0.mk (Kd.V_lower (Kd.V_mono (ok' := fun k_ => k_ ≠ gb107 ∧ k_ ≠ gb108) ho0 (fun k_ hk_ => ⟨Or.elim hk_ (fun hs_ => fun e_ => Nat.not_le.2 hs_ (by rw [e_]; exact GW107.out)) (fun hn_ => (Kd.freshB (g := gb107) (o := .cells #[.int .i64 a0_0, .int .i64 a0_1, .int .i64 a0_2, .slice A0_3 l0_3.length c0_3] 36 (0, 0)) (kAt BK107.out) k_ hn_)), Or.elim hk_ (fun hs_ => fun e_ => Nat.not_le.2 hs_ (by rw [e_]; exact GW108.out)) (fun hn_ => (Kd.freshB (g := gb108) (o := .cells #[.int .i64 a1_0, .int .i64 a1_1, .int .i64 a1_2, .slice A1_3 l1_3.length c1_3] 36 (0, 0)) (kAt BK108.out) k_ hn_))⟩)) (below_size (bAt HB.out))); replace BK107 := Aside0.mk (blk_below (g := gb107) (o := .cells #[.int .i64 a0_0, .int .i64 a0_1, .int .i64 a0_2, .slice A0_3 l0_3.length c0_3] 36 (0, 0)) (kAt BK107.out) hb); replace BK108 := Aside0.mk (blk_below (g := gb108) (o := .cells #[.int .i64 a1_0, .int .i64 a1_1, .int .i64 a1_2, .slice A1_3 l1_3.length c1_3] 36 (0, 0)) (kAt BK108.out) hb); replace HB := Aside0.mk (below_step (bAt HB.out) hb); have hxw2_ := pw_cell_below HB.out hx2_; have hxw3_ := pw_cell_below HB.out hx3_; (try clear hb); (try clear hb2); (try clear hk); (try clear hi); (try clear ho0); obtain ⟨hcz24_0, hcz24_1, hcz24_2, hcz24_3, hfz24_0, hfz24_1, hfz24_2, hfz24_3⟩ := blk4 BK108.out) | ((with_reducible refine gate_callee (f := 13) rfl ?_); refine gL (some 20) Tryd.func13 #[.slice A3 l3.length c3, .agg #[.int .i64 a1_0, .int .i64 a1_1, .int .i64 a1_2, .slice A1_3 l1_3.length c1_3]] rfl gA ?_; (with_reducible refine (match_of.calls (fun k_ => k_ < w.heap.size) _ _ l3 a1_0 a1_1 a1_2 _ _ l1_3 t113 false _ ?side1 ?side2 ?side3 A6.out).mono ?_); (case side1 => exact Kd.V_mk HC3.out (Kd.F_below (Kd.C_F (Kd.heap_int .u8) HR3.out) (bAt HB.out))); (case side2 => exact CAt (Kd.C_below HR1_3.out HB.out)); (case side3 => exact HC1_3.out); rintro e w25 ⟨v114, rfl, ho0, hb⟩; refine ⟨_, rfl, ?_⟩; replace HO111 := Aside0.mk (Kd.V_below (VAt HO111.out) hb); have HO115 := Aside0.mk (Kd.V_lower (Kd.V_mono (ok' := fun k_ => k_ ≠ gb107 ∧ k_ ≠ gb108) ho0 (fun k_ hk_ => ⟨Or.elim hk_ (fun hs_ => fun e_ => Nat.not_le.2 hs_ (by rw [e_]; exact GW107.out)) (fun hn_ => (Kd.freshB (g := gb107) (o := .cells #[.int .i64 a0_0, .int .i64 a0_1, .int .i64 a0_2, .slice A0_3 l0_3.length c0_3] 36 (0, 0)) (kAt BK107.out) k_ hn_)), Or.elim hk_ (fun hs_ => fun e_ => Nat.not_le.2 hs_ (by rw [e_]; exact GW108.out)) (fun hn_ => (Kd.freshB (g := gb108) (o := .cells #[.int .i64 a1_0, .int .i64 a1_1, .int .i64 a1_2, .slice A1_3 l1_3.length c1_3] 36 (0, 0)) (kAt BK108.out) k_ hn_))⟩)) (below_size (bAt HB.out))); replace BK107 := Aside0.mk (blk_below (g := gb107) (o := .cells #[.int .i64 a0_0, .int .i64 a0_1, .int .i64 a0_2, .slice A0_3 l0_3.length c0_3] 36 (0, 0)) (kAt BK107.out) hb); replace BK108 := Aside0.mk (blk_below (g := gb108) (o := .cells #[.int .i64 a1_0, .int .i64 a1_1, .int .i64 a1_2, .slice A1_3 l1_3.length c1_3] 36 (0, 0)) (kAt BK108.out) hb); replace HB := Aside0.mk (below_step (bAt HB.out) hb); have hxw2_ := pw_cell_below HB.out hx2_; have hxw3_ := pw_cell_below HB.out hx3_; (try clear hb); (try clear hb2); (try clear hk); (try clear hi); (try clear ho0)))
   go_ret
   exact ⟨eR, bAt HB.out⟩
 ·replace c7 := Bool.eq_false_iff.mpr c7
  subst c7
  replace H := fP H
  obtain rfl := Option.some.inj H
  go_enter Tryd.func12, Tryd.ntmps12
  go_wp2_with (first | ((with_reducible refine gate_dst (N := 4) rfl ?_); refine box_event ?hg (N := 4) ?hd (cs := #[.int .i64 a0_0, .int .i64 a0_1, .int .i64 a0_2, .slice A0_3 l0_3.length c0_3]) (t := 36) ?hr ?_; (case hd => rfl); (case hg => rfl); (case hr => first | (go_simp; done) | (go_simp; rfl)); intro gb107 hg w26 hbox hb; have BK107 := Aside0.mk (hbox); have GW107 := Aside0.mk (gE (g := gb107) hg HB.out); have GE107 := Aside0.mk (gE (g := gb107) hg HB.out); replace HB := Aside0.mk (below_step (bAt HB.out) hb); have hxw2_ := pw_cell_below HB.out hx2_; have hxw3_ := pw_cell_below HB.out hx3_; clear hb hbox hg) | ((with_reducible refine gate_dst (N := 5) rfl ?_); refine box_event ?hg (N := 5) ?hd (cs := #[.int .i64 a1_0, .int .i64 a1_1, .int .i64 a1_2, .slice A1_3 l1_3.length c1_3]) (t := 36) ?hr ?_; (case hd => rfl); (case hg => rfl); (case hr => first | (go_simp; done) | (go_simp; rfl)); intro gb108 hg w27 hbox hb; have BK108 := Aside0.mk (hbox); have GW108 := Aside0.mk (gE (g := gb108) hg HB.out); have GE108 := Aside0.mk (gE (g := gb108) hg HB.out); replace HB := Aside0.mk (below_step (bAt HB.out) hb); have hxw2_ := pw_cell_below HB.out hx2_; have hxw3_ := pw_cell_below HB.out hx3_; have NB107_108 := Aside0.mk ((by rw [hg]; exact Nat.ne_of_lt (blk_lt (g := gb107) (o := .cells #[.int .i64 a0_0, .int .i64 a0_1, .int .i64 a0_2, .slice A0_3 l0_3.length c0_3] 36 (0, 0)) (kAt BK107.out)) : gb107 ≠ gb108)); have NB108_107 := Aside0.mk ((by rw [hg]; exact Nat.ne_of_gt (blk_lt (g := gb107) (o := .cells #[.int .i64 a0_0, .int .i64 a0_1, .int .i64 a0_2, .slice A0_3 l0_3.length c0_3] 36 (0, 0)) (kAt BK107.out)) : gb108 ≠ gb107)); replace BK107 := Aside0.mk (blk_below (g := gb107) (o := .cells #[.int .i64 a0_0, .int .i64 a0_1, .int .i64 a0_2, .slice A0_3 l0_3.length c0_3] 36 (0, 0)) (kAt BK107.out) hb); clear hb hbox hg; have hnb28 := NB107_108.out; have hnc28 := NB108_107.out; obtain ⟨hcz29_0, hcz29_1, hcz29_2, hcz29_3, hfz29_0, hfz29_1, hfz29_2, hfz29_3⟩ := blk4 BK107.out) | ((with_reducible refine gate_callee (f := 13) rfl ?_); refine gL (some 14) Tryd.func13 #[.slice A2 l2.length c2, .agg #[.int .i64 a0_0, .int .i64 a0_1, .int .i64 a0_2, .slice A0_3 l0_3.length c0_3]] rfl gA ?_; (with_reducible refine (match_of.calls (fun k_ => k_ < w.heap.size) _ _ l2 a0_0 a0_1 a0_2 _ _ l0_3 t109 false _ ?side1 ?side2 ?side3 A5.out).mono ?_); (case side1 => exact Kd.V_mk HC2.out (Kd.F_below (Kd.C_F (Kd.heap_int .u8) HR2.out) (bAt HB.out))); (case side2 => exact CAt (Kd.C_below HR0_3.out HB.out)); (case side3 => exact HC0_3.out); rintro e w30 ⟨v110, rfl, ho0, hb⟩; refine ⟨_, rfl, ?_⟩; have HO111 := Aside0.mk (Kd.V_lower (Kd.V_mono (ok' := fun k_ => k_ ≠ gb107 ∧ k_ ≠ gb108) ho0 (fun k_ hk_ => ⟨Or.elim hk_ (fun hs_ => fun e_ => Nat.not_le.2 hs_ (by rw [e_]; exact GW107.out)) (fun hn_ => (Kd.freshB (g := gb107) (o := .cells #[.int .i64 a0_0, .int .i64 a0_1, .int .i64 a0_2, .slice A0_3 l0_3.length c0_3] 36 (0, 0)) (kAt BK107.out) k_ hn_)), Or.elim hk_ (fun hs_ => fun e_ => Nat.not_le.2 hs_ (by rw [e_]; exact GW108.out)) (fun hn_ => (Kd.freshB (g := gb108) (o := .cells #[.int .i64 a1_0, .int .i64 a1_1, .int .i64 a1_2, .slice A1_3 l1_3.length c1_3] 36 (0, 0)) (kAt BK108.out) k_ hn_))⟩)) (below_size (bAt HB.out))); replace BK107 := Aside0.mk (blk_below (g := gb107) (o := .cells #[.int .i64 a0_0, .int .i64 a0_1, .int .i64 a0_2, .slice A0_3 l0_3.length c0_3] 36 (0, 0)) (kAt BK107.out) hb); replace BK108 := Aside0.mk (blk_below (g := gb108) (o := .cells #[.int .i64 a1_0, .int .i64 a1_1, .int .i64 a1_2, .slice A1_3 l1_3.length c1_3] 36 (0, 0)) (kAt BK108.out) hb); replace HB := Aside0.mk (below_step (bAt HB.out) hb); have hxw2_ := pw_cell_below HB.out hx2_; have hxw3_ := pw_cell_below HB.out hx3_; (try clear hb); (try clear hb2); (try clear hk); (try clear hi); (try clear ho0); obtain ⟨hcz31_0, hcz31_1, hcz31_2, hcz31_3, hfz31_0, hfz31_1, hfz31_2, hfz31_3⟩ := blk4 BK108.out) | ((with_reducible refine gate_callee (f := 13) rfl ?_); refine gL (some 20) Tryd.func13 #[.slice A3 l3.length c3, .agg #[.int .i64 a1_0, .int .i64 a1_1, .int .i64 a1_2, .slice A1_3 l1_3.length c1_3]] rfl gA ?_; (with_reducible refine (match_of.calls (fun k_ => k_ < w.heap.size) _ _ l3 a1_0 a1_1 a1_2 _ _ l1_3 t113 t116 _ ?side1 ?side2 ?side3 A6.out).mono ?_); (case side1 => exact Kd.V_mk HC3.out (Kd.F_below (Kd.C_F (Kd.heap_int .u8) HR3.out) (bAt HB.out))); (case side2 => exact CAt (Kd.C_below HR1_3.out HB.out)); (case side3 => exact HC1_3.out); rintro e w32 ⟨v114, rfl, ho0, hb⟩; refine ⟨_, rfl, ?_⟩; replace HO111 := Aside0.mk (Kd.V_below (VAt HO111.out) hb); have HO115 := Aside0.mk (Kd.V_lower (Kd.V_mono (ok' := fun k_ => k_ ≠ gb107 ∧ k_ ≠ gb108) ho0 (fun k_ hk_ => ⟨Or.elim hk_ (fun hs_ => fun e_ => Nat.not_le.2 hs_ (by rw [e_]; exact GW107.out)) (fun hn_ => (Kd.freshB (g := gb107) (o := .cells #[.int .i64 a0_0, .int .i64 a0_1, .int .i64 a0_2, .slice A0_3 l0_3.length c0_3] 36 (0, 0)) (kAt BK107.out) k_ hn_)), Or.elim hk_ (fun hs_ => fun e_ => Nat.not_le.2 hs_ (by rw [e_]; exact GW108.out)) (fun hn_ => (Kd.freshB (g := gb108) (o := .cells #[.int .i64 a1_0, .int .i64 a1_1, .int .i64 a1_2, .slice A1_3 l1_3.length c1_3] 36 (0, 0)) (kAt BK108.out) k_ hn_))⟩)) (below_size (bAt HB.out))); replace BK107 := Aside0.mk (blk_below (g := gb107) (o := .cells #[.int .i64 a0_0, .int .i64 a0_1, .int .i64 a0_2, .slice A0_3 l0_3.length c0_3] 36 (0, 0)) (kAt BK107.out) hb); replace BK108 := Aside0.mk (blk_below (g := gb108) (o := .cells #[.int .i64 a1_0, .int .i64 a1_1, .int .i64 a1_2, .slice A1_3 l1_3.length c1_3] 36 (0, 0)) (kAt BK108.out) hb); replace HB := Aside0.mk (below_step (bAt HB.out) hb); have hxw2_ := pw_cell_below HB.out hx2_; have hxw3_ := pw_cell_below HB.out hx3_; (try clear hb); (try clear hb2); (try clear hk); (try clear hi); (try clear ho0)))
  go_ret
  exact ⟨eR, bAt HB.out⟩
end Go.Proofs.YtklpephnbkoinaaDoor.P
