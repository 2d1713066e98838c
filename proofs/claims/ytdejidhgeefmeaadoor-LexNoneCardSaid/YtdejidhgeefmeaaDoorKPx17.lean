/- Part of the proof: what the theorem needs of this text. -/
import Derived.Test.YtdejidhgeefmeaaDoorKHG
import Derived.Test.YtdejidhgeefmeaaDoorKPx0
import Derived.Test.YtdejidhgeefmeaaDoorKPx11
import Derived.Test.YtdejidhgeefmeaaDoorKPx15
import Derived.Test.YtdejidhgeefmeaaDoorKPx8
namespace Go.Proofs.YtdejidhgeefmeaaDoor.P
open Go.RowKit Go.Proofs.YtdejidhgeefmeaaDoorW.PrintWords Go.Proofs.YtdejidhgeefmeaaDoorW.PrintLast Go.Proofs.YtdejidhgeefmeaaDoorW.PrintMore
attribute [local go_sem] max2_int min2_int max_two min_two max_three min_three max_four min_four   -- for this text's walks alone
set_option linter.unusedVariables false
set_option linter.unusedSimpArgs false
mutual
def tmesislaw07_LexNone.l0 : Nat → List Int → Bool → List Int → Int → Option (Bool)
 | 0, _, _, _, _ => none
 | k + 1, x0, x5, x6, x7 => if x7 < (x6.length : Int) then (if 0 ≤ x7 then (tmesislaw07_LexNone.l0 k x0 x5 (x6.set (x7 : Int).toNat 32) (wrap64 (x7 + 1))) else (none)) else ((tmesislaw07_few.f x0).bind fun t372 => ((lex_All.f k t372).bind fun t375 => ((some (([] : List Int) : List Int)).bind fun y378 => (if y378.length + x6.length < 140737488355328 then ((some (y378 ++ x6 : List Int)).bind fun y381 => ((tmesislaw07_few.f x0).bind fun t384 => (if y381.length + t384.length < 140737488355328 then ((lex_All.f k (y381 ++ t384)).bind fun t390 => (tmesislaw07_LexNone.l1 k x5 x6 t375 t390 0)) else (none)))) else (none)))))
def tmesislaw07_LexNone.l1 : Nat → Bool → List Int → List (S34) → List (S34) → Int → Option (Bool)
 | 0, _, _, _, _, _ => none
 | k + 1, x5, x6, x8, x9, x10 => if x10 < (x9.length : Int) then (if 0 ≤ x10 then ((some (x9.set (x10 : Int).toNat (⟨(rd_T34 x9 x10).f0, wrap64 (((rd_T34 x9 x10).f1) - (x6.length : Int)), (rd_T34 x9 x10).f2, (rd_T34 x9 x10).f3, (rd_T34 x9 x10).f4⟩ : S34) : List (S34))).bind fun y394 => (tmesislaw07_LexNone.l1 k x5 x6 x8 (y394.set (x10 : Int).toNat (⟨(rd_T34 y394 x10).f0, (rd_T34 y394 x10).f1, wrap64 (((rd_T34 y394 x10).f2) - (x6.length : Int)), (rd_T34 y394 x10).f3, (rd_T34 y394 x10).f4⟩ : S34)) (wrap64 (x10 + 1)))) else (none)) else (if x5 = true then ((lex_All.f k x6).bind fun t397 => (if (t397.length : Int) = 0 then ((tmesisref07_Same.f k x8 x9).bind fun t400 => (some t400)) else (some false))) else (some false))
end
def tmesislaw07_LexNone.f (k : Nat) (l0 : List Int) (a1 : Int) : Option (Bool) := (tmesislaw07_shown.f k).bind fun t367 => (if 0 ≤ (Int.tmod (wrap64 (a1)) 64) then (if (Int.tmod (wrap64 (a1)) 64 : Int).toNat ≤ 281474976710656 then (tmesislaw07_LexNone.l0 k l0 t367 (List.replicate (Int.tmod (wrap64 (a1)) 64 : Int).toNat 0) 0) else (none)) else (none))
theorem tmesislaw07_LexNone.mono_l : ∀ k, (∀ y0 y1 y2 y3, LeO (tmesislaw07_LexNone.l0 k y0 y1 y2 y3) (tmesislaw07_LexNone.l0 (k + 1) y0 y1 y2 y3)) ∧ (∀ y0 y1 y2 y3 y4, LeO (tmesislaw07_LexNone.l1 k y0 y1 y2 y3 y4) (tmesislaw07_LexNone.l1 (k + 1) y0 y1 y2 y3 y4))
 | 0 => ⟨fun _ _ _ _ r h => by simp [tmesislaw07_LexNone.l0] at h, fun _ _ _ _ _ r h => by simp [tmesislaw07_LexNone.l1] at h⟩
 | k + 1 => by
  obtain ⟨ih0, ih1⟩ := tmesislaw07_LexNone.mono_l k
  refine ⟨?_, ?_⟩
  ·intro y0 y1 y2 y3
   unfold tmesislaw07_LexNone.l0
   repeat' first
   | (with_reducible exact ih0 _ _ _ _)
   | (with_reducible exact ih1 _ _ _ _ _)
   | (with_reducible exact lex_All.mono _ _)
   | (with_reducible exact tmesislaw07_shown.mono _)
   | (with_reducible exact tmesisref07_Same.mono _ _ _)
   | (with_reducible exact LeO.refl _)
   | (with_reducible exact LeO.none _)
   | (with_reducible refine LeO.ite ?_ ?_)
   | (with_reducible refine LeO.bind ?_ (fun _ => ?_))
   | exact ih0 _ _ _ _
   | exact ih1 _ _ _ _ _
   | exact lex_All.mono _ _
   | exact tmesislaw07_shown.mono _
   | exact tmesisref07_Same.mono _ _ _
   | exact LeO.none _
   | refine LeO.ite ?_ ?_
   | refine LeO.bind ?_ (fun _ => ?_)
  ·intro y0 y1 y2 y3 y4
   unfold tmesislaw07_LexNone.l1
   repeat' first
   | (with_reducible exact ih0 _ _ _ _)
   | (with_reducible exact ih1 _ _ _ _ _)
   | (with_reducible exact lex_All.mono _ _)
   | (with_reducible exact tmesislaw07_shown.mono _)
   | (with_reducible exact tmesisref07_Same.mono _ _ _)
   | (with_reducible exact LeO.refl _)
   | (with_reducible exact LeO.none _)
   | (with_reducible refine LeO.ite ?_ ?_)
   | (with_reducible refine LeO.bind ?_ (fun _ => ?_))
   | exact ih0 _ _ _ _
   | exact ih1 _ _ _ _ _
   | exact lex_All.mono _ _
   | exact tmesislaw07_shown.mono _
   | exact tmesisref07_Same.mono _ _ _
   | exact LeO.none _
   | refine LeO.ite ?_ ?_
   | refine LeO.bind ?_ (fun _ => ?_)
theorem tmesislaw07_LexNone.mono : ∀ a0 a1 k, LeO (tmesislaw07_LexNone.f k a0 a1) (tmesislaw07_LexNone.f (k + 1) a0 a1) := by
 intro a0 a1 k
 obtain ⟨ih0, ih1⟩ := tmesislaw07_LexNone.mono_l k
 unfold tmesislaw07_LexNone.f
 repeat' first
   | (with_reducible exact ih0 _ _ _ _)
   | (with_reducible exact ih1 _ _ _ _ _)
   | (with_reducible exact lex_All.mono _ _)
   | (with_reducible exact tmesislaw07_shown.mono _)
   | (with_reducible exact tmesisref07_Same.mono _ _ _)
   | (with_reducible exact LeO.refl _)
   | (with_reducible exact LeO.none _)
   | (with_reducible refine LeO.ite ?_ ?_)
   | (with_reducible refine LeO.bind ?_ (fun _ => ?_))
   | exact ih0 _ _ _ _
   | exact ih1 _ _ _ _ _
   | exact lex_All.mono _ _
   | exact tmesislaw07_shown.mono _
   | exact tmesisref07_Same.mono _ _ _
   | exact LeO.none _
   | refine LeO.ite ?_ ?_
   | refine LeO.bind ?_ (fun _ => ?_)
set_option maxHeartbeats 8000000 in
set_option maxRecDepth 100000 in
theorem tmesislaw07_LexNone.calls (k : Nat) (A0 : Option Addr) (c0 : Nat) (l0 : List Int) (a1 : Int) (r : Bool) (w : World) (hG : Gl w) (hr0 : Kd.C (Kd.int .u8) w A0 l0.length l0) (hc0 : l0.length ≤ c0) (h : tmesislaw07_LexNone.f k l0 a1 = some r) :
  Calls Tryd.prog 7 #[.slice A0 l0.length c0, .int .u8 a1] w fun e w' => e = .returned (.bool r) ∧ Below w.heap.size w w' := by
 have HR0 := Aside0.mk hr0
 have HC0 := Aside0.mk hc0
 clear hr0 hc0
 have HB := Aside0.mk (Below.refl w.heap.size w)
 have HG := Aside0.mk hG
 clear hG
 have H : ((tmesislaw07_shown.f k).bind fun t367 => (if 0 ≤ (Int.tmod (wrap64 (a1)) 64) then (if (Int.tmod (wrap64 (a1)) 64 : Int).toNat ≤ 281474976710656 then (tmesislaw07_LexNone.l0 k l0 t367 (List.replicate (Int.tmod (wrap64 (a1)) 64 : Int).toNat 0) 0) else (none)) else (none))) = some r := h
 clear h
 replace H := Option.bind_eq_some_iff.mp H
 obtain ⟨t367, A30, H⟩ := H
 replace H : (if 0 ≤ (Int.tmod (wrap64 (a1)) 64) then (if (Int.tmod (wrap64 (a1)) 64 : Int).toNat ≤ 281474976710656 then (tmesislaw07_LexNone.l0 k l0 t367 (List.replicate (Int.tmod (wrap64 (a1)) 64 : Int).toNat 0) 0) else (none)) else (none)) = some r := H
 have A3 := Aside0.mk A30
 clear A30
 obtain ⟨ji4, hji4⟩ : ∃ j_ : Int, (Int.tmod (wrap64 (a1)) 64) = j_ := ⟨_, rfl⟩
 replace H : (if 0 ≤ (ji4) then (if (ji4 : Int).toNat ≤ 281474976710656 then (tmesislaw07_LexNone.l0 k l0 t367 (List.replicate (ji4 : Int).toNat 0) 0) else (none)) else (none)) = some r := by first | (rw [hji4] at H; exact H) | (simp only [hji4] at H ⊢; exact H)
 (try rw [hji4] at A3)
 by_cases c5 : 0 ≤ (ji4)
 ·rw [if_pos c5] at H
  have c5b0 := eq_true c5
  have c5b1 : decide (0 ≤ (ji4)) = true := decide_eq_true c5
  clear c5
  by_cases c6 : (ji4 : Int).toNat ≤ 281474976710656
  ·rw [if_pos c6] at H
   have c6b0 := eq_true c6
   have c6b1 : decide ((ji4 : Int).toNat ≤ 281474976710656) = true := decide_eq_true c6
   clear c6
   obtain ⟨y368, hy368⟩ : ∃ y_ : List Int, y_ = (List.replicate (ji4 : Int).toNat 0) := ⟨_, rfl⟩
   replace H : (tmesislaw07_LexNone.l0 k l0 t367 y368 0) = some r := by first | (rw [hy368]; with_reducible exact H) | (have H2_ := (Option.bind_some _ _).symm.trans H; rw [hy368]; with_reducible exact H2_) | (have H2_ := (Option.bind_some _ _).symm.trans H; with_reducible exact H2_) | with_reducible exact H | (rw [hy368]; exact H) | exact H
   have Ny368 := Aside0.mk hy368
   clear hy368
   have H' := Aside0.mk H
   clear H
   go_enter Tryd.func7, Tryd.ntmps7
   go_wp2_with (first | ((with_reducible refine gate_callee (f := 9) rfl ?_); refine goesL_ (some 11) rfl rfl Tryd.func9 (by kernel_rfl) rfl #[] rfl (by (try simp only [List.map_toArray, List.map_cons, List.map_nil]); first | done | rfl | (simp only [List.length_drop, List.length_take]; rfl)) ?_; (with_reducible refine (tmesislaw07_shown.calls k  t367 _ ?side1 A3.out).mono ?_); (case side1 => exact Gl.below HG.out (by repeat (first | (with_reducible first | exact HB.out | apply below_alloc | apply pw_below_drewN | apply below_drew1) | exact HB.out))); rintro e w7 ⟨rfl, hb⟩; refine ⟨_, rfl, ?_⟩; have n0_ := Aside0.mk (below_step (by repeat (first | (with_reducible first | exact HB.out | apply below_alloc | apply pw_below_drewN | apply below_drew1) | exact HB.out)) hb); clear HB; have HB := n0_; clear n0_; (try clear hb); (try clear hb2); (try clear hk); (try clear hi)) | ((with_reducible refine gate_dst (N := 15) rfl ?_); (try (refine gate_guard (by rfl) ?_; dsimp only)); refine Kd.R_make (Kd.int .u8) _ 5 rfl (N := 15) rfl 22 _ _ rfl ji4 rfl rfl Tryd.underlying22 (.int .u8 0) 1 info5 rfl (by decide) (by omega) 0 (ok := fun _ => True) (okp := fun _ => True) rfl (fun _ hk => hk) trivial (of_decide_eq_true (by first | (with_reducible assumption) | assumption)) (Nat.le_trans (Nat.mul_le_mul_right _ (of_decide_eq_true (by first | (with_reducible assumption) | assumption) : ji4.toNat ≤ 281474976710656)) (by omega)) (Below.refl _ _) (Nat.le_refl _) ?_; intro v369 w8 ho9 hb hg_ hnew_; clear hg_ hnew_; (first | rw [← Ny368.out] at ho9 | (simp only [Int.reduceToNat] at ho9; rw [← Ny368.out] at ho9)); have n0_ := Aside0.mk (Kd.R_lower ho9 (below_size (by repeat (first | (with_reducible first | exact HB.out | apply below_alloc | apply pw_below_drewN | apply below_drew1) | exact HB.out)))); have n1_ := Aside0.mk (below_step (by repeat (first | (with_reducible first | exact HB.out | apply below_alloc | apply pw_below_drewN | apply below_drew1) | exact HB.out)) hb); clear HB; have HO370 := n0_; have HB := n1_; clear n0_ n1_; clear hb ho9))
   go_loopg [7] k (fun kq v7 w' => ∃ (x6_1 : List Int) (x7_1 : Int), v7 = .int .i64 x7_1 ∧ Aside0 (tmesislaw07_LexNone.l0 kq l0 t367 x6_1 x7_1 = some r) ∧ Aside0 (kq ≤ k) ∧ Aside0 (Kd.R (Kd.int .u8) 5 w' w.heap.size (fun _ => True) v369 x6_1) ∧ Aside0 (Below w.heap.size w w'))
   case atStart => exact ⟨(y368), (0), (by first | rfl | (simp; done) | (simp [*]; done)), H', ⟨Nat.le_refl _⟩, ⟨by (with_reducible repeat (first | apply Kd.R_alloc | apply Kd.R_drewN | apply Kd.R_drew)); exact HO370.out⟩, ⟨by repeat (first | (with_reducible first | exact HB.out | apply below_alloc | apply pw_below_drewN | apply below_drew1) | exact HB.out)⟩⟩
   case round =>
    clear H'
    try clear p2
    try clear c5
    try clear c5b0
    try clear c5b1
    try clear c6
    try clear c6b0
    try clear c6b1
    try clear p6
    try clear c7
    try clear c9
    obtain ⟨x6_1, x7_1, rfl, HA, HK1, HO_6, HB⟩ := hrel
    cases gk with
    | zero => exact absurd HA.out (by simp [tmesislaw07_LexNone.l0])
    | succ k1 =>
     have H := HA.out
     clear HA
     simp only [tmesislaw07_LexNone.l0] at H
     by_cases c10 : x7_1 < (x6_1.length : Int)
     ·rw [if_pos c10] at H
      have c10b0 : decide (x7_1 < (x6_1.length : Int)) = true := decide_eq_true c10
      clear c10
      by_cases c11 : 0 ≤ x7_1
      ·rw [if_pos c11] at H
       have c11b0 : decide (0 ≤ x7_1) = true := decide_eq_true c11
       clear c11
       obtain ⟨y371, hy371⟩ : ∃ y_ : List Int, y_ = (x6_1.set (x7_1 : Int).toNat 32) := ⟨_, rfl⟩
       replace H : (tmesislaw07_LexNone.l0 k1 l0 t367 y371 (wrap64 (x7_1 + 1))) = some r := by first | (rw [hy371]; with_reducible exact H) | (have H2_ := (Option.bind_some _ _).symm.trans H; rw [hy371]; with_reducible exact H2_) | (have H2_ := (Option.bind_some _ _).symm.trans H; with_reducible exact H2_) | with_reducible exact H | (rw [hy371]; exact H) | exact H
       have Ny371 := Aside0.mk hy371
       clear hy371
       have H' := Aside0.mk H
       clear H
       obtain ⟨Ao13, co13, eo13⟩ := Kd.R_slice HO_6.out
       subst eo13
       have p12 : 0 ≤ (x7_1 : Int) := of_decide_eq_true (by first | (with_reducible assumption) | assumption)
       have q12 : (x7_1 : Int) < ((x6_1.length : Int) : Int) := of_decide_eq_true (by first | (with_reducible assumption) | assumption)
       obtain ⟨go12, co12, eo12, gb12, gl12, cl12, HG12⟩ := Kd.R_form HO_6.out (by omega)
       (first | cases eo12 | (injection eo12 with ea_ en_ ec_; (first | subst ea_ | (injection ea_ with ea_; subst ea_)); subst ec_; clear en_))
       have GB12 := Aside0.mk gb12
       have GG12 := Aside0.mk HG12
       clear gb12 gl12 HG12
       obtain ⟨hx12_0, hf12_0⟩ := Kd.R_celln 0 HO_6.out (x7_1 : Int) p12 q12
       replace p12 := eq_true p12
       replace q12 := eq_true q12
       have HP14 := Kd.R_putg HO_6.out (x7_1 : Int) 32
       go_wp2_with (first | ((with_reducible refine gate_store (t := 5) (p := 24) rfl ?_); refine store_event (t := 5) (p := 24) (v := ?vo_w15) (w1 := (wr.setCell ⟨go12, (x7_1 : Int).toNat, none⟩ (.int .u8 32))) ?hg ?ho ?hn ?hr ?_; (case ho => rfl); (case hg => rfl); (case hn => rfl); (case hr => first | (go_simp; done) | (go_simp; rfl)); intro w15 hw; have hg : wr.grownBy w15 (some go12) := (by rw [hw]; exact HP14.2); have hp_ : Kd.R (Kd.int .u8) 5 w15 w.heap.size (fun _ => True) (.slice (some ⟨go12, 0, none⟩) x6_1.length co13) y371 := (by rw [hw, Ny371.out]; exact HP14.1); clear HP14; have n0_ := Aside0.mk (hp_); have n1_ := Aside0.mk ((by rw [hw]; exact below_set (HB.out) GB12.out : Below w.heap.size w w15)); clear HO_6; clear HB; have HO_6 := n0_; have HB := n1_; clear n0_ n1_; clear hg hw hp_))
       go_roundg k1
       case measure => have := HK1.out; omega
       case rel => exact ⟨(y371), (wrap64 (x7_1 + 1)), (by first | rfl | (simp; done) | (simp [*]; done)), H', ⟨by have := HK1.out; omega⟩, ⟨by (with_reducible repeat (first | apply Kd.R_alloc | apply Kd.R_drewN | apply Kd.R_drew)); exact HO_6.out⟩, ⟨by repeat (first | (with_reducible first | exact HB.out | apply below_alloc | apply pw_below_drewN | apply below_drew1) | exact HB.out)⟩⟩
      ·rw [if_neg c11] at H
       exact absurd H (by simp)
     ·rw [if_neg c10] at H
      have c10b0 : decide (x7_1 < (x6_1.length : Int)) = false := decide_eq_false c10
      clear c10
      replace H := Option.bind_eq_some_iff.mp H
      obtain ⟨t372, A160, H⟩ := H
      replace H : ((lex_All.f k1 t372).bind fun t375 => ((some (([] : List Int) : List Int)).bind fun y378 => (if y378.length + x6_1.length < 140737488355328 then ((some (y378 ++ x6_1 : List Int)).bind fun y381 => ((tmesislaw07_few.f l0).bind fun t384 => (if y381.length + t384.length < 140737488355328 then ((lex_All.f k1 (y381 ++ t384)).bind fun t390 => (tmesislaw07_LexNone.l1 k1 t367 x6_1 t375 t390 0)) else (none)))) else (none)))) = some r := H
      have A16 := Aside0.mk A160
      clear A160
      replace H := Option.bind_eq_some_iff.mp H
      obtain ⟨t375, A170, H⟩ := H
      replace H : ((some (([] : List Int) : List Int)).bind fun y378 => (if y378.length + x6_1.length < 140737488355328 then ((some (y378 ++ x6_1 : List Int)).bind fun y381 => ((tmesislaw07_few.f l0).bind fun t384 => (if y381.length + t384.length < 140737488355328 then ((lex_All.f k1 (y381 ++ t384)).bind fun t390 => (tmesislaw07_LexNone.l1 k1 t367 x6_1 t375 t390 0)) else (none)))) else (none))) = some r := H
      have A17 := Aside0.mk A170
      clear A170
      obtain ⟨y378, hy378⟩ : ∃ y_ : List Int, y_ = (([] : List Int)) := ⟨_, rfl⟩
      replace H : (if y378.length + x6_1.length < 140737488355328 then ((some (y378 ++ x6_1 : List Int)).bind fun y381 => ((tmesislaw07_few.f l0).bind fun t384 => (if y381.length + t384.length < 140737488355328 then ((lex_All.f k1 (y381 ++ t384)).bind fun t390 => (tmesislaw07_LexNone.l1 k1 t367 x6_1 t375 t390 0)) else (none)))) else (none)) = some r := by first | (rw [hy378]; with_reducible exact H) | (have H2_ := (Option.bind_some _ _).symm.trans H; rw [hy378]; with_reducible exact H2_) | (have H2_ := (Option.bind_some _ _).symm.trans H; with_reducible exact H2_) | with_reducible exact H | (rw [hy378]; exact H) | exact H
      have Ny378 := Aside0.mk hy378
      clear hy378
      by_cases c18 : y378.length + x6_1.length < 140737488355328
      ·rw [if_pos c18] at H
       have LMc18 := Aside0.mk c18
       clear c18
       obtain ⟨y381, hy381⟩ : ∃ y_ : List Int, y_ = (y378 ++ x6_1) := ⟨_, rfl⟩
       replace H : ((tmesislaw07_few.f l0).bind fun t384 => (if y381.length + t384.length < 140737488355328 then ((lex_All.f k1 (y381 ++ t384)).bind fun t390 => (tmesislaw07_LexNone.l1 k1 t367 x6_1 t375 t390 0)) else (none))) = some r := by first | (rw [hy381]; with_reducible exact H) | (have H2_ := (Option.bind_some _ _).symm.trans H; rw [hy381]; with_reducible exact H2_) | (have H2_ := (Option.bind_some _ _).symm.trans H; with_reducible exact H2_) | with_reducible exact H | (rw [hy381]; exact H) | exact H
       have Ny381 := Aside0.mk hy381
       clear hy381
       replace H := Option.bind_eq_some_iff.mp H
       obtain ⟨t384, A190, H⟩ := H
       replace H : (if y381.length + t384.length < 140737488355328 then ((lex_All.f k1 (y381 ++ t384)).bind fun t390 => (tmesislaw07_LexNone.l1 k1 t367 x6_1 t375 t390 0)) else (none)) = some r := H
       have A19 := Aside0.mk A190
       clear A190
       by_cases c20 : y381.length + t384.length < 140737488355328
       ·rw [if_pos c20] at H
        have LMc20 := Aside0.mk c20
        clear c20
        obtain ⟨y387, hy387⟩ : ∃ y_ : List Int, y_ = (y381 ++ t384) := ⟨_, rfl⟩
        replace H : ((lex_All.f k1 y387).bind fun t390 => (tmesislaw07_LexNone.l1 k1 t367 x6_1 t375 t390 0)) = some r := by first | (rw [hy387]; with_reducible exact H) | (have H2_ := (Option.bind_some _ _).symm.trans H; rw [hy387]; with_reducible exact H2_) | (have H2_ := (Option.bind_some _ _).symm.trans H; with_reducible exact H2_) | with_reducible exact H | (rw [hy387]; exact H) | exact H
        have Ny387 := Aside0.mk hy387
        clear hy387
        replace H := Option.bind_eq_some_iff.mp H
        obtain ⟨t390, A210, H⟩ := H
        replace H : (tmesislaw07_LexNone.l1 k1 t367 x6_1 t375 t390 0) = some r := H
        have A21 := Aside0.mk A210
        clear A210
        have H' := Aside0.mk H
        clear H
        obtain ⟨Ao22, co22, eo22⟩ := Kd.R_slice HO_6.out
        subst eo22
        go_wp2_with (first | ((with_reducible refine gate_callee (f := 15) rfl ?_); refine goesL_ (some 26) rfl rfl Tryd.func15 (by kernel_rfl) rfl #[.slice A0 l0.length c0] rfl (by (try simp only [List.map_toArray, List.map_cons, List.map_nil]); first | done | rfl | (simp only [List.length_drop, List.length_take]; rfl)) ?_; (with_reducible refine (tmesislaw07_few.calls (fun k_ => k_ < w.heap.size) _ _ l0 t372 _ ?side1 A16.out).mono ?_); (case side1 => exact Kd.V_mk HC0.out (Kd.F_below (Kd.C_F (Kd.heap_int .u8) HR0.out) (by repeat (first | (with_reducible first | exact HB.out | apply below_alloc | apply pw_below_drewN | apply below_drew1) | exact HB.out)))); rintro e w23 ⟨v373, rfl, ho0, hb⟩; refine ⟨_, rfl, ?_⟩; have n0_ := Aside0.mk (Kd.R_below (by (with_reducible repeat (first | apply Kd.R_alloc | apply Kd.R_drewN | apply Kd.R_drew)); exact HO_6.out) hb); have n1_ := Aside0.mk (Kd.V_lower (Kd.V_mono (ok' := fun k_ => some k_ ≠ (.slice Ao22 x6_1.length co22 : Value).ownBlock) ho0 (fun k_ hk_ => Or.elim hk_ (fun hs_ => fun e_ => Nat.not_le.2 hs_ (Kd.R_base HO_6.out k_ e_.symm)) (fun hn_ => (Kd.fresh' (Kd.R_lt (by (with_reducible repeat (first | apply Kd.R_alloc | apply Kd.R_drewN | apply Kd.R_drew)); exact HO_6.out)) k_ hn_)))) (below_size (by repeat (first | (with_reducible first | exact HB.out | apply below_alloc | apply pw_below_drewN | apply below_drew1) | exact HB.out)))); have n2_ := Aside0.mk (below_step (by repeat (first | (with_reducible first | exact HB.out | apply below_alloc | apply pw_below_drewN | apply below_drew1) | exact HB.out)) hb); clear HO_6; clear HB; have HO_6 := n0_; have HO374 := n1_; have HB := n2_; clear n0_ n1_ n2_; (try clear hb); (try clear hb2); (try clear hk); (try clear hi); (try clear ho0); obtain ⟨Ao24, co24, eo24⟩ := Kd.V_slice HO374.out; subst eo24) | ((with_reducible refine gate_callee (f := 14) rfl ?_); refine goesL_ (some 27) rfl rfl Tryd.func14 (by kernel_rfl) rfl #[.slice Ao24 t372.length co24] rfl (by (try simp only [List.map_toArray, List.map_cons, List.map_nil]); first | done | rfl | (simp only [List.length_drop, List.length_take]; rfl)) ?_; (with_reducible refine (lex_All.calls k1 _ _ t372 t375 _ ?side1 ?side2 ?side3 A17.out).mono ?_); (case side1 => exact Gl.below HG.out (by repeat (first | (with_reducible first | exact HB.out | apply below_alloc | apply pw_below_drewN | apply below_drew1) | exact HB.out))); (case side2 => repeat (first | exact (Kd.V_reads' HO374.out).2.2 | (with_reducible refine Kd.C_alloc ?_ _) | (with_reducible refine Kd.C_drewN ?_ _) | (with_reducible refine Kd.C_drew ?_))); (case side3 => exact (Kd.V_reads' HO374.out).2.1); rintro e w25 ⟨v376, rfl, ho0, hb⟩; refine ⟨_, rfl, ?_⟩; have n0_ := Aside0.mk (Kd.R_below (by (with_reducible repeat (first | apply Kd.R_alloc | apply Kd.R_drewN | apply Kd.R_drew)); exact HO_6.out) hb); have n1_ := Aside0.mk (Kd.V_elder' (by (with_reducible repeat (first | apply Kd.V_alloc | apply Kd.V_drewN | apply Kd.V_drew)); exact HO374.out) (Kd.Q_base ho0) hb); have n2_ := Aside0.mk (Kd.Q_lower ho0 (below_size (by repeat (first | (with_reducible first | exact HB.out | apply below_alloc | apply pw_below_drewN | apply below_drew1) | exact HB.out)))); have n3_ := Aside0.mk (below_step (by repeat (first | (with_reducible first | exact HB.out | apply below_alloc | apply pw_below_drewN | apply below_drew1) | exact HB.out)) hb); clear HO_6; clear HO374; clear HB; have HO_6 := n0_; have HO374 := n1_; have HO377 := n2_; have HB := n3_; clear n0_ n1_ n2_ n3_; (try clear hb); (try clear hb2); (try clear hk); (try clear hi); (try clear ho0)) | ((with_reducible refine gate_dst (N := 28) rfl ?_); (try (refine gate_guard (by rfl) ?_; dsimp only)); refine Kd.R_lit (Kd.int .u8) _ 5 ?hg (N := 28) ?hd (xs := ([] : List Int)) (inner := []) (ok := fun _ => True) (okp := fun _ => True) ?hr ?hp (fun _ hk => hk) trivial (Below.refl _ _) (Nat.le_refl _) (by simp) ?_; (case hd => rfl); (case hg => rfl); (case hr => first | (go_simp; done) | (go_simp; rfl)); (case hp => exact (Reps.none _ _)); intro v379 w26 ho27 hb hg_ hnew_; clear hg_ hnew_; (first | rw [← Ny378.out] at ho27 | (simp only [Int.reduceToNat] at ho27; rw [← Ny378.out] at ho27)); have n0_ := Aside0.mk (Kd.R_elder' (by (with_reducible repeat (first | apply Kd.R_alloc | apply Kd.R_drewN | apply Kd.R_drew)); exact HO_6.out) (Kd.R_base ho27) hb); have n1_ := Aside0.mk (Kd.V_elder' (by (with_reducible repeat (first | apply Kd.V_alloc | apply Kd.V_drewN | apply Kd.V_drew)); exact HO374.out) (Kd.R_base ho27) hb); have n2_ := Aside0.mk (Kd.Q_below (by (with_reducible repeat (first | apply Kd.Q_alloc | apply Kd.Q_drewN | apply Kd.Q_drew)); exact HO377.out) hb); have n3_ := Aside0.mk (Kd.R_lower (Kd.R_new' ho27 (Kd.R_lt (by (with_reducible repeat (first | apply Kd.R_alloc | apply Kd.R_drewN | apply Kd.R_drew)); exact HO_6.out))) (below_size (by repeat (first | (with_reducible first | exact HB.out | apply below_alloc | apply pw_below_drewN | apply below_drew1) | exact HB.out)))); have n4_ := Aside0.mk (below_step (by repeat (first | (with_reducible first | exact HB.out | apply below_alloc | apply pw_below_drewN | apply below_drew1) | exact HB.out)) hb); clear HO_6; clear HO374; clear HO377; clear HB; have HO_6 := n0_; have HO374 := n1_; have HO377 := n2_; have HO380 := n3_; have HB := n4_; clear n0_ n1_ n2_ n3_ n4_; clear hb ho27) | ((with_reducible refine gate_builtin (b := .append) (xs := #[.tmp 28, .tmp 29]) rfl ?_); (try (refine gate_guard (by rfl) ?_; dsimp only)); at_builtin; refine Kd.R_append_rows (Kd.int .u8) (w0 := w) w.heap.size rfl (.tmp 28) (.tmp 29) 22 5 (.int .u8 0) 1 rfl Tryd.underlying22 info5 rfl (by decide) (by omega) v379 y378 x6_1 _ _ _ (fun k_ => some k_ ≠ (.slice Ao22 x6_1.length co22 : Value).ownBlock) (fun _ => False) rfl rfl ?aO ?aR (fun _ _ h => h) (fun _ h => h.elim) ?aF ?aB ?aS ?aL ?_; (case aR => repeat (first | exact (Kd.R_reads' HO_6.out).2.2 | (with_reducible refine Kd.C_alloc ?_ _) | (with_reducible refine Kd.C_drewN ?_ _) | (with_reducible refine Kd.C_drew ?_))); (case aB => exact (by repeat (first | (with_reducible first | exact HB.out | apply below_alloc | apply pw_below_drewN | apply below_drew1) | exact HB.out))); (case aF => exact (fun k_ hk => Kd.fresh' (Kd.R_lt (by (with_reducible repeat (first | apply Kd.R_alloc | apply Kd.R_drewN | apply Kd.R_drew)); exact HO_6.out)) k_ hk)); (case aO => exact (by (with_reducible repeat (first | apply Kd.R_alloc | apply Kd.R_drewN | apply Kd.R_drew)); exact Kd.R_mono HO380.out (fun _ hk => hk.2))); (case aS => exact (below_size (by repeat (first | (with_reducible first | exact HB.out | apply below_alloc | apply pw_below_drewN | apply below_drew1) | exact HB.out)))); (case aL => have := LMc18.out; omega); intro v382 w28 ho hb hg hat; rw [← Ny381.out] at ho; have n0_ := Aside0.mk (Kd.R_after (ok := (fun _ => True)) (by (with_reducible repeat (first | apply Kd.R_alloc | apply Kd.R_drewN | apply Kd.R_drew)); exact HO_6.out) hg hat); have n1_ := Aside0.mk (Kd.V_afterv (ok := (fun k_ => some k_ ≠ (.slice Ao22 x6_1.length co22 : Value).ownBlock ∧ some k_ ≠ (v376 : Value).ownBlock)) (by (with_reducible repeat (first | apply Kd.V_alloc | apply Kd.V_drewN | apply Kd.V_drew)); exact HO374.out) hg hat); have n2_ := Aside0.mk (Kd.Q_over' (by (with_reducible repeat (first | apply Kd.Q_alloc | apply Kd.Q_drewN | apply Kd.Q_drew)); exact HO377.out) (Kd.R_typed (by (with_reducible repeat (first | apply Kd.R_alloc | apply Kd.R_drewN | apply Kd.R_drew)); exact HO380.out)) (by decide) hg); have n3_ := Aside0.mk (hb); have n4_ := Aside0.mk (ho); clear HO_6; clear HO374; clear HO377; clear HB; clear HO380; have HO_6 := n0_; have HO374 := n1_; have HO377 := n2_; have HB := n3_; have HO383 := n4_; clear n0_ n1_ n2_ n3_ n4_; clear ho hb hg hat) | ((with_reducible refine gate_callee (f := 15) rfl ?_); refine goesL_ (some 32) rfl rfl Tryd.func15 (by kernel_rfl) rfl #[.slice A0 l0.length c0] rfl (by (try simp only [List.map_toArray, List.map_cons, List.map_nil]); first | done | rfl | (simp only [List.length_drop, List.length_take]; rfl)) ?_; (with_reducible refine (tmesislaw07_few.calls (fun k_ => k_ < w.heap.size) _ _ l0 t384 _ ?side1 A19.out).mono ?_); (case side1 => exact Kd.V_mk HC0.out (Kd.F_below (Kd.C_F (Kd.heap_int .u8) HR0.out) (by repeat (first | (with_reducible first | exact HB.out | apply below_alloc | apply pw_below_drewN | apply below_drew1) | exact HB.out)))); rintro e w29 ⟨v385, rfl, ho0, hb⟩; refine ⟨_, rfl, ?_⟩; have n0_ := Aside0.mk (Kd.R_below (by (with_reducible repeat (first | apply Kd.R_alloc | apply Kd.R_drewN | apply Kd.R_drew)); exact HO_6.out) hb); have n1_ := Aside0.mk (Kd.V_below (by (with_reducible repeat (first | apply Kd.V_alloc | apply Kd.V_drewN | apply Kd.V_drew)); exact HO374.out) hb); have n2_ := Aside0.mk (Kd.Q_below (by (with_reducible repeat (first | apply Kd.Q_alloc | apply Kd.Q_drewN | apply Kd.Q_drew)); exact HO377.out) hb); have n3_ := Aside0.mk (Kd.R_below (by (with_reducible repeat (first | apply Kd.R_alloc | apply Kd.R_drewN | apply Kd.R_drew)); exact HO383.out) hb); have n4_ := Aside0.mk (Kd.V_lower (Kd.V_mono (ok' := fun k_ => some k_ ≠ (.slice Ao22 x6_1.length co22 : Value).ownBlock ∧ some k_ ≠ (v376 : Value).ownBlock ∧ some k_ ≠ (v382 : Value).ownBlock) ho0 (fun k_ hk_ => ⟨Or.elim hk_ (fun hs_ => fun e_ => Nat.not_le.2 hs_ (Kd.R_base HO_6.out k_ e_.symm)) (fun hn_ => (Kd.fresh' (Kd.R_lt (by (with_reducible repeat (first | apply Kd.R_alloc | apply Kd.R_drewN | apply Kd.R_drew)); exact HO_6.out)) k_ hn_)), Or.elim hk_ (fun hs_ => fun e_ => Nat.not_le.2 hs_ (Kd.Q_base HO377.out k_ e_.symm)) (fun hn_ => (Kd.fresh' (Kd.Q_lt (by (with_reducible repeat (first | apply Kd.Q_alloc | apply Kd.Q_drewN | apply Kd.Q_drew)); exact HO377.out)) k_ hn_)), Or.elim hk_ (fun hs_ => fun e_ => Nat.not_le.2 hs_ (Kd.R_base HO383.out k_ e_.symm)) (fun hn_ => (Kd.fresh' (Kd.R_lt (by (with_reducible repeat (first | apply Kd.R_alloc | apply Kd.R_drewN | apply Kd.R_drew)); exact HO383.out)) k_ hn_))⟩)) (below_size (by repeat (first | (with_reducible first | exact HB.out | apply below_alloc | apply pw_below_drewN | apply below_drew1) | exact HB.out)))); have n5_ := Aside0.mk (below_step (by repeat (first | (with_reducible first | exact HB.out | apply below_alloc | apply pw_below_drewN | apply below_drew1) | exact HB.out)) hb); clear HO_6; clear HO374; clear HO377; clear HO383; clear HB; have HO_6 := n0_; have HO374 := n1_; have HO377 := n2_; have HO383 := n3_; have HO386 := n4_; have HB := n5_; clear n0_ n1_ n2_ n3_ n4_ n5_; (try clear hb); (try clear hb2); (try clear hk); (try clear hi); (try clear ho0); obtain ⟨Ao31, co31, eo31⟩ := Kd.V_slice HO386.out; subst eo31) | ((with_reducible refine gate_builtin (b := .append) (xs := #[.tmp 30, .tmp 32]) rfl ?_); (try (refine gate_guard (by rfl) ?_; dsimp only)); at_builtin; refine Kd.R_append_rows (Kd.int .u8) (w0 := w) w.heap.size rfl (.tmp 30) (.tmp 32) 22 5 (.int .u8 0) 1 rfl Tryd.underlying22 info5 rfl (by decide) (by omega) v382 y381 t384 _ _ _ (fun k_ => some k_ ≠ (.slice Ao22 x6_1.length co22 : Value).ownBlock) (fun _ => False) rfl rfl ?aO ?aR (fun _ _ h => h) (fun _ h => h.elim) ?aF ?aB ?aS ?aL ?_; (case aR => repeat (first | exact (Kd.V_reads' HO386.out).2.2 | (with_reducible refine Kd.C_alloc ?_ _) | (with_reducible refine Kd.C_drewN ?_ _) | (with_reducible refine Kd.C_drew ?_))); (case aB => exact (by repeat (first | (with_reducible first | exact HB.out | apply below_alloc | apply pw_below_drewN | apply below_drew1) | exact HB.out))); (case aF => exact (fun k_ hk => Kd.fresh' (Kd.R_lt (by (with_reducible repeat (first | apply Kd.R_alloc | apply Kd.R_drewN | apply Kd.R_drew)); exact HO_6.out)) k_ hk)); (case aO => exact (by (with_reducible repeat (first | apply Kd.R_alloc | apply Kd.R_drewN | apply Kd.R_drew)); exact HO383.out)); (case aS => exact (below_size (by repeat (first | (with_reducible first | exact HB.out | apply below_alloc | apply pw_below_drewN | apply below_drew1) | exact HB.out)))); (case aL => have := LMc20.out; omega); intro v388 w30 ho hb hg hat; rw [← Ny387.out] at ho; have n0_ := Aside0.mk (Kd.R_after (ok := (fun _ => True)) (by (with_reducible repeat (first | apply Kd.R_alloc | apply Kd.R_drewN | apply Kd.R_drew)); exact HO_6.out) hg hat); have n1_ := Aside0.mk (Kd.V_afterv (ok := (fun k_ => some k_ ≠ (.slice Ao22 x6_1.length co22 : Value).ownBlock ∧ some k_ ≠ (v376 : Value).ownBlock)) (by (with_reducible repeat (first | apply Kd.V_alloc | apply Kd.V_drewN | apply Kd.V_drew)); exact HO374.out) hg hat); have n2_ := Aside0.mk (Kd.Q_over' (by (with_reducible repeat (first | apply Kd.Q_alloc | apply Kd.Q_drewN | apply Kd.Q_drew)); exact HO377.out) (Kd.R_typed (by (with_reducible repeat (first | apply Kd.R_alloc | apply Kd.R_drewN | apply Kd.R_drew)); exact HO383.out)) (by decide) hg); have n3_ := Aside0.mk (Kd.V_afterv (ok := (fun k_ => some k_ ≠ (.slice Ao22 x6_1.length co22 : Value).ownBlock ∧ some k_ ≠ (v376 : Value).ownBlock)) (by (with_reducible repeat (first | apply Kd.V_alloc | apply Kd.V_drewN | apply Kd.V_drew)); exact Kd.V_mono HO386.out (fun _ hk => ⟨⟨hk.1, hk.2.1⟩, hk.2.2⟩)) hg hat); have n4_ := Aside0.mk (hb); have n5_ := Aside0.mk (ho); clear HO_6; clear HO374; clear HO377; clear HO386; clear HB; clear HO383; have HO_6 := n0_; have HO374 := n1_; have HO377 := n2_; have HO386 := n3_; have HB := n4_; have HO389 := n5_; clear n0_ n1_ n2_ n3_ n4_ n5_; clear ho hb hg hat; obtain ⟨Ao32, co32, eo32⟩ := Kd.R_slice HO389.out; subst eo32) | ((with_reducible refine gate_callee (f := 14) rfl ?_); refine goesL_ (some 34) rfl rfl Tryd.func14 (by kernel_rfl) rfl #[.slice Ao32 y387.length co32] rfl (by (try simp only [List.map_toArray, List.map_cons, List.map_nil]); first | done | rfl | (simp only [List.length_drop, List.length_take]; rfl)) ?_; (with_reducible refine (lex_All.calls k1 _ _ y387 t390 _ ?side1 ?side2 ?side3 A21.out).mono ?_); (case side1 => exact Gl.below HG.out (by repeat (first | (with_reducible first | exact HB.out | apply below_alloc | apply pw_below_drewN | apply below_drew1) | exact HB.out))); (case side2 => repeat (first | exact (Kd.R_reads' HO389.out).2.2 | (with_reducible refine Kd.C_alloc ?_ _) | (with_reducible refine Kd.C_drewN ?_ _) | (with_reducible refine Kd.C_drew ?_))); (case side3 => exact (Kd.R_reads' HO389.out).2.1); rintro e w33 ⟨v391, rfl, ho0, hb⟩; refine ⟨_, rfl, ?_⟩; have n0_ := Aside0.mk (Kd.R_below (by (with_reducible repeat (first | apply Kd.R_alloc | apply Kd.R_drewN | apply Kd.R_drew)); exact HO_6.out) hb); have n1_ := Aside0.mk (Kd.V_elder' (by (with_reducible repeat (first | apply Kd.V_alloc | apply Kd.V_drewN | apply Kd.V_drew)); exact HO374.out) (Kd.Q_base ho0) hb); have n2_ := Aside0.mk (Kd.Q_elder' (by (with_reducible repeat (first | apply Kd.Q_alloc | apply Kd.Q_drewN | apply Kd.Q_drew)); exact HO377.out) (Kd.Q_base ho0) hb); have n3_ := Aside0.mk (Kd.V_elder' (by (with_reducible repeat (first | apply Kd.V_alloc | apply Kd.V_drewN | apply Kd.V_drew)); exact HO386.out) (Kd.Q_base ho0) hb); have n4_ := Aside0.mk (Kd.R_below (by (with_reducible repeat (first | apply Kd.R_alloc | apply Kd.R_drewN | apply Kd.R_drew)); exact HO389.out) hb); have n5_ := Aside0.mk (Kd.Q_lower (Kd.Q_new' ho0 (Kd.Q_lt (by (with_reducible repeat (first | apply Kd.Q_alloc | apply Kd.Q_drewN | apply Kd.Q_drew)); exact HO377.out))) (below_size (by repeat (first | (with_reducible first | exact HB.out | apply below_alloc | apply pw_below_drewN | apply below_drew1) | exact HB.out)))); have n6_ := Aside0.mk (below_step (by repeat (first | (with_reducible first | exact HB.out | apply below_alloc | apply pw_below_drewN | apply below_drew1) | exact HB.out)) hb); clear HO_6; clear HO374; clear HO377; clear HO386; clear HO389; clear HB; have HO_6 := n0_; have HO374 := n1_; have HO377 := n2_; have HO386 := n3_; have HO389 := n4_; have HO392 := n5_; have HB := n6_; clear n0_ n1_ n2_ n3_ n4_ n5_ n6_; (try clear hb); (try clear hb2); (try clear hk); (try clear hi); (try clear ho0)))
        go_loopg [10] k1 (fun kq v10 w' => ∃ (x9_2 : List (S34)) (x10_2 : Int), v10 = .int .i64 x10_2 ∧ Aside0 (tmesislaw07_LexNone.l1 kq t367 x6_1 t375 x9_2 x10_2 = some r) ∧ Aside0 (kq ≤ k1) ∧ Aside0 (Kd.R (Kd.int .u8) 5 w' w.heap.size (fun _ => True) (.slice Ao22 x6_1.length co22) x6_1) ∧ Aside0 (Kd.Q k34 34 w' w.heap.size (fun k_ => some k_ ≠ (v391 : Value).ownBlock) v376 t375) ∧ Aside0 (Kd.Q k34 34 w' w.heap.size (fun k_ => some k_ ≠ (v376 : Value).ownBlock) v391 x9_2) ∧ Aside0 (Below w.heap.size w w'))
        case atStart => exact ⟨(t390), (0), (by first | rfl | (simp; done) | (simp [*]; done)), H', ⟨Nat.le_refl _⟩, ⟨by (with_reducible repeat (first | apply Kd.R_alloc | apply Kd.R_drewN | apply Kd.R_drew)); exact Kd.R_mono HO_6.out (fun _ hk => trivial)⟩, ⟨by (with_reducible repeat (first | apply Kd.Q_alloc | apply Kd.Q_drewN | apply Kd.Q_drew)); exact Kd.Q_mono HO377.out (fun _ hk => hk.2)⟩, ⟨by (with_reducible repeat (first | apply Kd.Q_alloc | apply Kd.Q_drewN | apply Kd.Q_drew)); exact Kd.Q_mono HO392.out (fun _ hk => hk.2)⟩, ⟨by repeat (first | (with_reducible first | exact HB.out | apply below_alloc | apply pw_below_drewN | apply below_drew1) | exact HB.out)⟩⟩
        case round =>
         clear H'
         try clear c1
         try clear p1
         try clear q1
         try clear hx1
         try clear c2
         try clear p2
         try clear c5
         try clear c5b0
         try clear c5b1
         try clear c6
         try clear c6b0
         try clear c6b1
         try clear p6
         try clear c7
         try clear c9
         try clear c10
         try clear c10b0
         try clear c11
         try clear c11b0
         try clear p12
         try clear q12
         try clear hx12
         try clear hf12
         try clear c14
         try clear c15
         try clear c18
         try clear c20
         try clear hx12_0
         try clear p12
         try clear p2
         try clear p6
         try clear q12
         obtain ⟨x9_2, x10_2, rfl, HA, HK2, HO_6, HO_8, HO_9, HB⟩ := hrel
         cases gk with
         | zero => exact absurd HA.out (by simp [tmesislaw07_LexNone.l1])
         | succ k2 =>
          have H := HA.out
          clear HA
          simp only [tmesislaw07_LexNone.l1] at H
          by_cases c34 : x10_2 < (x9_2.length : Int)
          ·rw [if_pos c34] at H
           have c34b0 : decide (x10_2 < (x9_2.length : Int)) = true := decide_eq_true c34
           clear c34
           by_cases c35 : 0 ≤ x10_2
           ·rw [if_pos c35] at H
            have c35b0 : decide (0 ≤ x10_2) = true := decide_eq_true c35
            clear c35
            obtain ⟨y394, hy394⟩ : ∃ y_ : List (S34), y_ = (x9_2.set (x10_2 : Int).toNat (⟨(rd_T34 x9_2 x10_2).f0, wrap64 (((rd_T34 x9_2 x10_2).f1) - (x6_1.length : Int)), (rd_T34 x9_2 x10_2).f2, (rd_T34 x9_2 x10_2).f3, (rd_T34 x9_2 x10_2).f4⟩ : S34)) := ⟨_, rfl⟩
            replace H : (tmesislaw07_LexNone.l1 k2 t367 x6_1 t375 (y394.set (x10_2 : Int).toNat (⟨(rd_T34 y394 x10_2).f0, (rd_T34 y394 x10_2).f1, wrap64 (((rd_T34 y394 x10_2).f2) - (x6_1.length : Int)), (rd_T34 y394 x10_2).f3, (rd_T34 y394 x10_2).f4⟩ : S34)) (wrap64 (x10_2 + 1))) = some r := by first | (rw [hy394]; with_reducible exact H) | (have H2_ := (Option.bind_some _ _).symm.trans H; rw [hy394]; with_reducible exact H2_) | (have H2_ := (Option.bind_some _ _).symm.trans H; with_reducible exact H2_) | with_reducible exact H | (rw [hy394]; exact H) | exact H
            have Ny394 := Aside0.mk hy394
            clear hy394
            obtain ⟨y396, hy396⟩ : ∃ y_ : List (S34), y_ = (y394.set (x10_2 : Int).toNat (⟨(rd_T34 y394 x10_2).f0, (rd_T34 y394 x10_2).f1, wrap64 (((rd_T34 y394 x10_2).f2) - (x6_1.length : Int)), (rd_T34 y394 x10_2).f3, (rd_T34 y394 x10_2).f4⟩ : S34)) := ⟨_, rfl⟩
            replace H : (tmesislaw07_LexNone.l1 k2 t367 x6_1 t375 y396 (wrap64 (x10_2 + 1))) = some r := by first | (rw [hy396]; with_reducible exact H) | (have H2_ := (Option.bind_some _ _).symm.trans H; rw [hy396]; with_reducible exact H2_) | (have H2_ := (Option.bind_some _ _).symm.trans H; with_reducible exact H2_) | with_reducible exact H | (rw [hy396]; exact H) | exact H
            have Ny396 := Aside0.mk hy396
            clear hy396
            have H' := Aside0.mk H
            clear H
            obtain ⟨Ao38, co38, eo38, _⟩ := Kd.Q_slice HO_9.out
            subst eo38
            have p393 : 0 ≤ (x10_2 : Int) := of_decide_eq_true (by first | (with_reducible assumption) | assumption)
            have q393 : x10_2 < (x9_2.length : Int) := of_decide_eq_true (by first | (with_reducible assumption) | assumption)
            obtain ⟨ad393, e393, hx393_0, hx393_1, hx393_2, hx393_3, hx393_4⟩ := at_T34 (Kd.Q_reads' HO_9.out).2.2 x10_2 p393 q393
            cases e393
            replace p393 := eq_true p393
            replace q393 := eq_true q393
            have p36 : 0 ≤ (x10_2 : Int) := of_decide_eq_true (by first | (with_reducible assumption) | assumption)
            have q36 : (x10_2 : Int) < ((x9_2.length : Int) : Int) := of_decide_eq_true (by first | (with_reducible assumption) | assumption)
            obtain ⟨go36, oo36, co36, eo36, gb36, gl36, cl36, HG36⟩ := Kd.Q_form HO_9.out (by omega)
            (first | cases eo36 | (injection eo36 with ea_ en_ ec_; (first | subst ea_ | (injection ea_ with ea_; subst ea_)); subst ec_; clear en_))
            have GB36 := Aside0.mk gb36
            have GG36 := Aside0.mk HG36
            clear gb36 gl36 HG36
            (first | simp only [add_at] at hx393_0 | skip)
            (first | simp only [add_at] at hx393_1 | skip)
            (first | simp only [add_at] at hx393_2 | skip)
            (first | simp only [add_at] at hx393_3 | skip)
            (first | simp only [add_at] at hx393_4 | skip)
            obtain ⟨ce36, hcl36, hM36, hcc36, hfr36⟩ := Kd.Q_elem HO_9.out z34 (x10_2 : Int) p36 q36
            obtain rfl := k34_openM hM36
            have hx36_0 : wr.cell? ⟨go36, oo36 + (x10_2 : Int).toNat * 5, none⟩ = some (.int .i64 ((rd_T34 x9_2 x10_2).f0)) := hcc36 0 _ rfl
            have hx36_1 : wr.cell? ⟨go36, oo36 + (x10_2 : Int).toNat * 5 + 1, none⟩ = some (.int .i64 ((rd_T34 x9_2 x10_2).f1)) := hcc36 1 _ rfl
            have hx36_2 : wr.cell? ⟨go36, oo36 + (x10_2 : Int).toNat * 5 + 2, none⟩ = some (.int .i64 ((rd_T34 x9_2 x10_2).f2)) := hcc36 2 _ rfl
            have hx36_3 : wr.cell? ⟨go36, oo36 + (x10_2 : Int).toNat * 5 + 3, none⟩ = some (.string ((rd_T34 x9_2 x10_2).f3)) := hcc36 3 _ rfl
            have hx36_4 : wr.cell? ⟨go36, oo36 + (x10_2 : Int).toNat * 5 + 4, none⟩ = some (.int .i64 ((rd_T34 x9_2 x10_2).f4)) := hcc36 4 _ rfl
            have hf36_0 : wr.frozen? ⟨go36, oo36 + (x10_2 : Int).toNat * 5, none⟩ = false := hfr36 0
            have hf36_1 : wr.frozen? ⟨go36, oo36 + (x10_2 : Int).toNat * 5 + 1, none⟩ = false := hfr36 1
            have hf36_2 : wr.frozen? ⟨go36, oo36 + (x10_2 : Int).toNat * 5 + 2, none⟩ = false := hfr36 2
            have hf36_3 : wr.frozen? ⟨go36, oo36 + (x10_2 : Int).toNat * 5 + 3, none⟩ = false := hfr36 3
            have hf36_4 : wr.frozen? ⟨go36, oo36 + (x10_2 : Int).toNat * 5 + 4, none⟩ = false := hfr36 4
            clear hcl36 hcc36 hfr36 hM36
            replace p36 := eq_true p36
            replace q36 := eq_true q36
            have HX39 := Aside0.mk (show Kd.Q k34 34 wr w.heap.size (fun k_ => some k_ ≠ (v376 : Value).ownBlock) (.slice (some ⟨go36, oo36, none⟩) x9_2.length co38) x9_2 from (by (with_reducible repeat (first | apply Kd.Q_alloc | apply Kd.Q_drewN | apply Kd.Q_drew)); exact HO_9.out))
            obtain ⟨ce39, hcl39, hM39, hcc39, hfr39⟩ := Kd.Q_elem HX39.out z34 (x10_2 : Int) (of_decide_eq_true (by first | (with_reducible assumption) | assumption)) (by have h_ : (x10_2 : Int) < ((x9_2.length : Int) : Int) := of_decide_eq_true (by first | (with_reducible assumption) | assumption); first | exact h_ | (have e_ := (Kd.Q_reads' HO_9.out).1; omega) | simpa using h_)
            obtain rfl := k34_openM hM39
            have HP39 := Kd.Q_seg HX39.out (x10_2 : Int) (of_decide_eq_true (by first | (with_reducible assumption) | assumption)) (by have h_ : (x10_2 : Int) < ((x9_2.length : Int) : Int) := of_decide_eq_true (by first | (with_reducible assumption) | assumption); first | exact h_ | (have e_ := (Kd.Q_reads' HO_9.out).1; omega) | simpa using h_) (seg := [.int .i64 (wrap64 (((rd_T34 x9_2 x10_2).f1) - (x6_1.length : Int)))]) (j := 1) hcl39 hcc39 (show 2 ≤ 5 from by decide) (x' := (⟨(rd_T34 x9_2 x10_2).f0, wrap64 (((rd_T34 x9_2 x10_2).f1) - (x6_1.length : Int)), (rd_T34 x9_2 x10_2).f2, (rd_T34 x9_2 x10_2).f3, (rd_T34 x9_2 x10_2).f4⟩ : S34)) (k34_mkM _ _ _ (⟨(rd_T34 x9_2 x10_2).f0, wrap64 (((rd_T34 x9_2 x10_2).f1) - (x6_1.length : Int)), (rd_T34 x9_2 x10_2).f2, (rd_T34 x9_2 x10_2).f3, (rd_T34 x9_2 x10_2).f4⟩ : S34) ) (fun _ hk => hk)
            have hx39_1 := hcc39 1 _ rfl
            (try simp only [show (k34).sz = 5 from rfl, Nat.mul_one, Nat.add_zero] at hx39_1)
            have hf39_1 := hfr39 1
            (try simp only [show (k34).sz = 5 from rfl, Nat.mul_one, Nat.add_zero] at hf39_1)
            clear hcl39 hcc39 hfr39 hM39
            go_wp2_with (first | ((with_reducible refine gate_store (t := 3) (p := 52) rfl ?_); refine store_event (t := 3) (p := 52) (v := ?vo_w40) (w1 := (wr.setCell ⟨go36, oo36 + (x10_2 : Int).toNat * 5 + 1, none⟩ (.int .i64 (wrap64 (((rd_T34 x9_2 x10_2).f1) - (x6_1.length : Int)))))) ?hg ?ho ?hn ?hr ?_; (case ho => rfl); (case hg => rfl); (case hn => rfl); (case hr => first | (go_simp; done) | (go_simp; rfl)); intro w40 hw; have hg : wr.grownBy w40 (some go36) := (by rw [hw]; exact HP39.2); have hp_ : Kd.Q k34 34 w40 w.heap.size (fun k_ => some k_ ≠ (v376 : Value).ownBlock) (.slice (some ⟨go36, oo36, none⟩) x9_2.length co38) y394 := (by rw [hw, Ny394.out]; exact HP39.1); clear HP39; have n0_ := Aside0.mk (Kd.R_over' (v := (.slice (some ⟨go36, oo36, none⟩) x9_2.length co38)) (by (with_reducible repeat (first | apply Kd.R_alloc | apply Kd.R_drewN | apply Kd.R_drew)); exact HO_6.out) (Kd.Q_typed HO_9.out) (by decide) hg); have n1_ := Aside0.mk (Kd.Q_after (v := (.slice (some ⟨go36, oo36, none⟩) x9_2.length co38)) (v1 := (.slice (some ⟨go36, oo36, none⟩) x9_2.length co38)) (ok := (fun _ => True)) (by (with_reducible repeat (first | apply Kd.Q_alloc | apply Kd.Q_drewN | apply Kd.Q_drew)); exact Kd.Q_mono HO_8.out (fun _ hk => ⟨trivial, hk⟩)) hg (.inl rfl)); have n2_ := Aside0.mk (hp_); have n3_ := Aside0.mk ((by rw [hw]; exact below_set (HB.out) GB36.out : Below w.heap.size w w40)); clear HO_6; clear HO_8; clear HO_9; clear HB; have HO_6 := n0_; have HO_8 := n1_; have HO_9 := n2_; have HB := n3_; clear n0_ n1_ n2_ n3_; clear hg hw hp_; have p395 : 0 ≤ (x10_2 : Int) := of_decide_eq_true (by first | (with_reducible assumption) | assumption); have q395 : x10_2 < (y394.length : Int) := (by have h_ : (x10_2 : Int) < ((x9_2.length : Int) : Int) := of_decide_eq_true (by first | (with_reducible assumption) | assumption); first | (have e_ := (Kd.Q_reads' HO_9.out).1; omega) | simpa only [Ny394.out, List.length_set] using h_); have ql395 : ((x10_2 : Int) < ((x9_2.length : Int) : Int)) = True := eq_true (of_decide_eq_true (by first | (with_reducible assumption) | assumption)); obtain ⟨ad395, e395, hx395_0, hx395_1, hx395_2, hx395_3, hx395_4⟩ := at_T34 (Kd.Q_reads' HO_9.out).2.2 x10_2 p395 q395; obtain rfl : (⟨go36, oo36, none⟩ : Addr) = ad395 := (by injection e395); (first | simp only [add_plain] at hx395_0 | simp only [add_at] at hx395_0 | simp only [Addr.add, Nat.zero_add] at hx395_0 | skip); (first | simp only [add_plain] at hx395_1 | simp only [add_at] at hx395_1 | simp only [Addr.add, Nat.zero_add] at hx395_1 | skip); (first | simp only [add_plain] at hx395_2 | simp only [add_at] at hx395_2 | simp only [Addr.add, Nat.zero_add] at hx395_2 | skip); (first | simp only [add_plain] at hx395_3 | simp only [add_at] at hx395_3 | simp only [Addr.add, Nat.zero_add] at hx395_3 | skip); (first | simp only [add_plain] at hx395_4 | simp only [add_at] at hx395_4 | simp only [Addr.add, Nat.zero_add] at hx395_4 | skip); replace p395 := eq_true p395; replace q395 := eq_true q395; have p37 : 0 ≤ (x10_2 : Int) := of_decide_eq_true (by first | (with_reducible assumption) | assumption); have q37 : (x10_2 : Int) < ((x9_2.length : Int) : Int) := of_decide_eq_true (by first | (with_reducible assumption) | assumption); obtain ⟨ce37, hcl37, hM37, hcc37, hfr37⟩ := Kd.Q_elem HO_9.out z34 (x10_2 : Int) p37 q37; obtain rfl := k34_openM hM37; have hx37_0 : w40.cell? ⟨go36, oo36 + (x10_2 : Int).toNat * 5, none⟩ = some (.int .i64 ((rd_T34 y394 x10_2).f0)) := hcc37 0 _ rfl; have hx37_1 : w40.cell? ⟨go36, oo36 + (x10_2 : Int).toNat * 5 + 1, none⟩ = some (.int .i64 ((rd_T34 y394 x10_2).f1)) := hcc37 1 _ rfl; have hx37_2 : w40.cell? ⟨go36, oo36 + (x10_2 : Int).toNat * 5 + 2, none⟩ = some (.int .i64 ((rd_T34 y394 x10_2).f2)) := hcc37 2 _ rfl; have hx37_3 : w40.cell? ⟨go36, oo36 + (x10_2 : Int).toNat * 5 + 3, none⟩ = some (.string ((rd_T34 y394 x10_2).f3)) := hcc37 3 _ rfl; have hx37_4 : w40.cell? ⟨go36, oo36 + (x10_2 : Int).toNat * 5 + 4, none⟩ = some (.int .i64 ((rd_T34 y394 x10_2).f4)) := hcc37 4 _ rfl; have hf37_0 : w40.frozen? ⟨go36, oo36 + (x10_2 : Int).toNat * 5, none⟩ = false := hfr37 0; have hf37_1 : w40.frozen? ⟨go36, oo36 + (x10_2 : Int).toNat * 5 + 1, none⟩ = false := hfr37 1; have hf37_2 : w40.frozen? ⟨go36, oo36 + (x10_2 : Int).toNat * 5 + 2, none⟩ = false := hfr37 2; have hf37_3 : w40.frozen? ⟨go36, oo36 + (x10_2 : Int).toNat * 5 + 3, none⟩ = false := hfr37 3; have hf37_4 : w40.frozen? ⟨go36, oo36 + (x10_2 : Int).toNat * 5 + 4, none⟩ = false := hfr37 4; clear hcl37 hcc37 hfr37 hM37; replace p37 := eq_true p37; replace q37 := eq_true q37; have HX41 := Aside0.mk (show Kd.Q k34 34 w40 w.heap.size (fun k_ => some k_ ≠ (v376 : Value).ownBlock) (.slice (some ⟨go36, oo36, none⟩) x9_2.length co38) y394 from (by (with_reducible repeat (first | apply Kd.Q_alloc | apply Kd.Q_drewN | apply Kd.Q_drew)); exact HO_9.out)); obtain ⟨ce41, hcl41, hM41, hcc41, hfr41⟩ := Kd.Q_elem HX41.out z34 (x10_2 : Int) (of_decide_eq_true (by first | (with_reducible assumption) | assumption)) (by have h_ : (x10_2 : Int) < ((x9_2.length : Int) : Int) := of_decide_eq_true (by first | (with_reducible assumption) | assumption); first | exact h_ | (have e_ := (Kd.Q_reads' HO_9.out).1; omega) | simpa using h_); obtain rfl := k34_openM hM41; have HP41 := Kd.Q_seg HX41.out (x10_2 : Int) (of_decide_eq_true (by first | (with_reducible assumption) | assumption)) (by have h_ : (x10_2 : Int) < ((x9_2.length : Int) : Int) := of_decide_eq_true (by first | (with_reducible assumption) | assumption); first | exact h_ | (have e_ := (Kd.Q_reads' HO_9.out).1; omega) | simpa using h_) (seg := [.int .i64 (wrap64 (((rd_T34 y394 x10_2).f2) - (x6_1.length : Int)))]) (j := 2) hcl41 hcc41 (show 3 ≤ 5 from by decide) (x' := (⟨(rd_T34 y394 x10_2).f0, (rd_T34 y394 x10_2).f1, wrap64 (((rd_T34 y394 x10_2).f2) - (x6_1.length : Int)), (rd_T34 y394 x10_2).f3, (rd_T34 y394 x10_2).f4⟩ : S34)) (k34_mkM _ _ _ (⟨(rd_T34 y394 x10_2).f0, (rd_T34 y394 x10_2).f1, wrap64 (((rd_T34 y394 x10_2).f2) - (x6_1.length : Int)), (rd_T34 y394 x10_2).f3, (rd_T34 y394 x10_2).f4⟩ : S34) ) (fun _ hk => hk); have hx41_2 := hcc41 2 _ rfl; (try simp only [show (k34).sz = 5 from rfl, Nat.mul_one, Nat.add_zero] at hx41_2); have hf41_2 := hfr41 2; (try simp only [show (k34).sz = 5 from rfl, Nat.mul_one, Nat.add_zero] at hf41_2); clear hcl41 hcc41 hfr41 hM41) | ((with_reducible refine gate_store (t := 3) (p := 64) rfl ?_); refine store_event (t := 3) (p := 64) (v := ?vo_w42) (w1 := (w40.setCell ⟨go36, oo36 + (x10_2 : Int).toNat * 5 + 2, none⟩ (.int .i64 (wrap64 (((rd_T34 y394 x10_2).f2) - (x6_1.length : Int)))))) ?hg ?ho ?hn ?hr ?_; (case ho => rfl); (case hg => rfl); (case hn => rfl); (case hr => first | (go_simp; done) | (go_simp; rfl)); intro w42 hw; have hg : w40.grownBy w42 (some go36) := (by rw [hw]; exact HP41.2); have hp_ : Kd.Q k34 34 w42 w.heap.size (fun k_ => some k_ ≠ (v376 : Value).ownBlock) (.slice (some ⟨go36, oo36, none⟩) x9_2.length co38) y396 := (by rw [hw, Ny396.out]; exact HP41.1); clear HP41; have n0_ := Aside0.mk (Kd.R_over' (v := (.slice (some ⟨go36, oo36, none⟩) x9_2.length co38)) (by (with_reducible repeat (first | apply Kd.R_alloc | apply Kd.R_drewN | apply Kd.R_drew)); exact HO_6.out) (Kd.Q_typed HO_9.out) (by decide) hg); have n1_ := Aside0.mk (Kd.Q_after (v := (.slice (some ⟨go36, oo36, none⟩) x9_2.length co38)) (v1 := (.slice (some ⟨go36, oo36, none⟩) x9_2.length co38)) (ok := (fun _ => True)) (by (with_reducible repeat (first | apply Kd.Q_alloc | apply Kd.Q_drewN | apply Kd.Q_drew)); exact HO_8.out) hg (.inl rfl)); have n2_ := Aside0.mk (hp_); have n3_ := Aside0.mk ((by rw [hw]; exact below_set (HB.out) GB36.out : Below w.heap.size w w42)); clear HO_6; clear HO_8; clear HO_9; clear HB; have HO_6 := n0_; have HO_8 := n1_; have HO_9 := n2_; have HB := n3_; clear n0_ n1_ n2_ n3_; clear hg hw hp_))
            go_roundg k2
            case measure => have := HK1.out; have := HK2.out; omega
            case rel => exact ⟨(y396), (wrap64 (x10_2 + 1)), (by first | rfl | (simp; done) | (simp [*]; done)), H', ⟨by have := HK1.out; have := HK2.out; omega⟩, ⟨by (with_reducible repeat (first | apply Kd.R_alloc | apply Kd.R_drewN | apply Kd.R_drew)); exact HO_6.out⟩, ⟨by (with_reducible repeat (first | apply Kd.Q_alloc | apply Kd.Q_drewN | apply Kd.Q_drew)); exact Kd.Q_mono HO_8.out (fun _ hk => hk.2)⟩, ⟨by (with_reducible repeat (first | apply Kd.Q_alloc | apply Kd.Q_drewN | apply Kd.Q_drew)); exact HO_9.out⟩, ⟨by repeat (first | (with_reducible first | exact HB.out | apply below_alloc | apply pw_below_drewN | apply below_drew1) | exact HB.out)⟩⟩
           ·rw [if_neg c35] at H
            exact absurd H (by simp)
          ·rw [if_neg c34] at H
           have c34b0 : decide (x10_2 < (x9_2.length : Int)) = false := decide_eq_false c34
           clear c34
           by_cases c43 : t367 = true
           ·subst c43
            have H1 : ((lex_All.f k2 x6_1).bind fun t397 => (if (t397.length : Int) = 0 then ((tmesisref07_Same.f k2 t375 x9_2).bind fun t400 => (some t400)) else (some false))) = some r := by rw [if_pos rfl] at H; exact H
            clear H
            have H := H1
            clear H1
            replace H := Option.bind_eq_some_iff.mp H
            obtain ⟨t397, A440, H⟩ := H
            replace H : (if (t397.length : Int) = 0 then ((tmesisref07_Same.f k2 t375 x9_2).bind fun t400 => (some t400)) else (some false)) = some r := H
            have A44 := Aside0.mk A440
            clear A440
            by_cases c45 : (t397.length : Int) = 0
            ·rw [if_pos c45] at H
             have c45b0 : ((t397.length : Int) == 0) = true := beq_iff_eq.mpr c45
             have c45b1 : ((t397.length : Int) != 0) = false := bne_eq_false_iff_eq.mpr c45
             clear c45
             replace H := Option.bind_eq_some_iff.mp H
             obtain ⟨t400, A460, H⟩ := H
             replace H : (some t400) = some r := H
             have A46 := Aside0.mk A460
             clear A460
             obtain rfl := Option.some.inj H
             obtain ⟨Ao47, co47, eo47, _⟩ := Kd.Q_slice HO_9.out
             subst eo47
             go_wp2_with (first | ((with_reducible refine gate_callee (f := 14) rfl ?_); (try (refine gate_guard (by rfl) ?_; dsimp only)); refine goesL_ (some 68) rfl rfl Tryd.func14 (by kernel_rfl) rfl #[.slice Ao22 x6_1.length co22] rfl (by (try simp only [List.map_toArray, List.map_cons, List.map_nil]); first | done | rfl | (simp only [List.length_drop, List.length_take]; rfl)) ?_; (with_reducible refine (lex_All.calls k2 _ _ x6_1 t397 _ ?side1 ?side2 ?side3 A44.out).mono ?_); (case side1 => exact Gl.below HG.out (by repeat (first | (with_reducible first | exact HB.out | apply below_alloc | apply pw_below_drewN | apply below_drew1) | exact HB.out))); (case side2 => repeat (first | exact (Kd.R_reads' HO_6.out).2.2 | (with_reducible refine Kd.C_alloc ?_ _) | (with_reducible refine Kd.C_drewN ?_ _) | (with_reducible refine Kd.C_drew ?_))); (case side3 => exact (Kd.R_reads' HO_6.out).2.1); rintro e w48 ⟨v398, rfl, ho0, hb⟩; refine ⟨_, rfl, ?_⟩; have n0_ := Aside0.mk (Kd.R_below (by (with_reducible repeat (first | apply Kd.R_alloc | apply Kd.R_drewN | apply Kd.R_drew)); exact HO_6.out) hb); have n1_ := Aside0.mk (Kd.Q_elder' (by (with_reducible repeat (first | apply Kd.Q_alloc | apply Kd.Q_drewN | apply Kd.Q_drew)); exact HO_8.out) (Kd.Q_base ho0) hb); have n2_ := Aside0.mk (Kd.Q_elder' (by (with_reducible repeat (first | apply Kd.Q_alloc | apply Kd.Q_drewN | apply Kd.Q_drew)); exact HO_9.out) (Kd.Q_base ho0) hb); have n3_ := Aside0.mk (Kd.Q_lower (Kd.Q_new' (Kd.Q_new' ho0 (Kd.Q_lt (by (with_reducible repeat (first | apply Kd.Q_alloc | apply Kd.Q_drewN | apply Kd.Q_drew)); exact HO_8.out))) (Kd.Q_lt (by (with_reducible repeat (first | apply Kd.Q_alloc | apply Kd.Q_drewN | apply Kd.Q_drew)); exact HO_9.out))) (below_size (by repeat (first | (with_reducible first | exact HB.out | apply below_alloc | apply pw_below_drewN | apply below_drew1) | exact HB.out)))); have n4_ := Aside0.mk (below_step (by repeat (first | (with_reducible first | exact HB.out | apply below_alloc | apply pw_below_drewN | apply below_drew1) | exact HB.out)) hb); clear HO_6; clear HO_8; clear HO_9; clear HB; have HO_6 := n0_; have HO_8 := n1_; have HO_9 := n2_; have HO399 := n3_; have HB := n4_; clear n0_ n1_ n2_ n3_ n4_; (try clear hb); (try clear hb2); (try clear hk); (try clear hi); (try clear ho0); obtain ⟨Ao49, co49, eo49, _⟩ := Kd.Q_slice HO399.out; subst eo49; obtain ⟨Ao50, co50, eo50, _⟩ := Kd.Q_slice HO_8.out; subst eo50) | ((with_reducible refine gate_callee (f := 13) rfl ?_); (try (refine gate_guard (by rfl) ?_; dsimp only)); refine goesL_ (some 75) rfl rfl Tryd.func13 (by kernel_rfl) rfl #[.slice Ao50 t375.length co50, .slice Ao47 x9_2.length co47] rfl (by (try simp only [List.map_toArray, List.map_cons, List.map_nil]); first | done | rfl | (simp only [List.length_drop, List.length_take]; rfl)) ?_; (with_reducible refine (tmesisref07_Same.calls k2 _ _ t375 _ _ x9_2 t400 _ ?side1 ?side2 ?side3 ?side4 A46.out).mono ?_); (case side1 => repeat (first | exact (Kd.Q_reads' HO_8.out).2.2 | (with_reducible refine Kd.C_alloc ?_ _) | (with_reducible refine Kd.C_drewN ?_ _) | (with_reducible refine Kd.C_drew ?_))); (case side2 => exact (Kd.Q_reads' HO_8.out).2.1); (case side3 => repeat (first | exact (Kd.Q_reads' HO_9.out).2.2 | (with_reducible refine Kd.C_alloc ?_ _) | (with_reducible refine Kd.C_drewN ?_ _) | (with_reducible refine Kd.C_drew ?_))); (case side4 => exact (Kd.Q_reads' HO_9.out).2.1); rintro e w' ⟨rfl, ⟨nd, rfl⟩⟩; refine ⟨_, rfl, ?_⟩))
             go_ret
             exact ⟨by first | rfl | (simp [errW_none, errW_some] <;> rfl) | (simp only [← hji4]; first | rfl | (simp [errW_none, errW_some] <;> rfl)) | (simp [*, errW_none, errW_some] <;> rfl), by repeat (first | (with_reducible first | exact HB.out | apply below_alloc | apply pw_below_drewN | apply below_drew1) | exact HB.out)⟩
            ·rw [if_neg c45] at H
             have c45b0 : ((t397.length : Int) == 0) = false := beq_eq_false_iff_ne.mpr c45
             have c45b1 : ((t397.length : Int) != 0) = true := bne_iff_ne.mpr c45
             have c45b2 : ¬ (t397 = []) := fun h_ => c45 (by rw [h_]; rfl)
             obtain rfl := Option.some.inj H
             obtain ⟨Ao51, co51, eo51, _⟩ := Kd.Q_slice HO_9.out
             subst eo51
             go_wp2_with (first | ((with_reducible refine gate_callee (f := 14) rfl ?_); (try (refine gate_guard (by rfl) ?_; dsimp only)); refine goesL_ (some 68) rfl rfl Tryd.func14 (by kernel_rfl) rfl #[.slice Ao22 x6_1.length co22] rfl (by (try simp only [List.map_toArray, List.map_cons, List.map_nil]); first | done | rfl | (simp only [List.length_drop, List.length_take]; rfl)) ?_; (with_reducible refine (lex_All.calls k2 _ _ x6_1 t397 _ ?side1 ?side2 ?side3 A44.out).mono ?_); (case side1 => exact Gl.below HG.out (by repeat (first | (with_reducible first | exact HB.out | apply below_alloc | apply pw_below_drewN | apply below_drew1) | exact HB.out))); (case side2 => repeat (first | exact (Kd.R_reads' HO_6.out).2.2 | (with_reducible refine Kd.C_alloc ?_ _) | (with_reducible refine Kd.C_drewN ?_ _) | (with_reducible refine Kd.C_drew ?_))); (case side3 => exact (Kd.R_reads' HO_6.out).2.1); rintro e w52 ⟨v398, rfl, ho0, hb⟩; refine ⟨_, rfl, ?_⟩; have n0_ := Aside0.mk (Kd.R_below (by (with_reducible repeat (first | apply Kd.R_alloc | apply Kd.R_drewN | apply Kd.R_drew)); exact HO_6.out) hb); have n1_ := Aside0.mk (Kd.Q_elder' (by (with_reducible repeat (first | apply Kd.Q_alloc | apply Kd.Q_drewN | apply Kd.Q_drew)); exact HO_8.out) (Kd.Q_base ho0) hb); have n2_ := Aside0.mk (Kd.Q_elder' (by (with_reducible repeat (first | apply Kd.Q_alloc | apply Kd.Q_drewN | apply Kd.Q_drew)); exact HO_9.out) (Kd.Q_base ho0) hb); have n3_ := Aside0.mk (Kd.Q_lower (Kd.Q_new' (Kd.Q_new' ho0 (Kd.Q_lt (by (with_reducible repeat (first | apply Kd.Q_alloc | apply Kd.Q_drewN | apply Kd.Q_drew)); exact HO_8.out))) (Kd.Q_lt (by (with_reducible repeat (first | apply Kd.Q_alloc | apply Kd.Q_drewN | apply Kd.Q_drew)); exact HO_9.out))) (below_size (by repeat (first | (with_reducible first | exact HB.out | apply below_alloc | apply pw_below_drewN | apply below_drew1) | exact HB.out)))); have n4_ := Aside0.mk (below_step (by repeat (first | (with_reducible first | exact HB.out | apply below_alloc | apply pw_below_drewN | apply below_drew1) | exact HB.out)) hb); clear HO_6; clear HO_8; clear HO_9; clear HB; have HO_6 := n0_; have HO_8 := n1_; have HO_9 := n2_; have HO399 := n3_; have HB := n4_; clear n0_ n1_ n2_ n3_ n4_; (try clear hb); (try clear hb2); (try clear hk); (try clear hi); (try clear ho0); obtain ⟨Ao53, co53, eo53, _⟩ := Kd.Q_slice HO399.out; subst eo53))
             go_ret
             exact ⟨by first | rfl | (simp [errW_none, errW_some] <;> rfl) | (simp only [← hji4]; first | rfl | (simp [errW_none, errW_some] <;> rfl)) | (simp [*, errW_none, errW_some] <;> rfl), by repeat (first | (with_reducible first | exact HB.out | apply below_alloc | apply pw_below_drewN | apply below_drew1) | exact HB.out)⟩
           ·replace c43 := Bool.eq_false_iff.mpr c43
            subst c43
            have H1 : (some false) = some r := by rw [if_neg (show ¬ (false = true) by decide)] at H; exact H
            clear H
            have H := H1
            clear H1
            obtain rfl := Option.some.inj H
            obtain ⟨Ao54, co54, eo54, _⟩ := Kd.Q_slice HO_9.out
            subst eo54
            go_wp2
            go_ret
            exact ⟨by first | rfl | (simp [errW_none, errW_some] <;> rfl) | (simp only [← hji4]; first | rfl | (simp [errW_none, errW_some] <;> rfl)) | (simp [*, errW_none, errW_some] <;> rfl), by repeat (first | (with_reducible first | exact HB.out | apply below_alloc | apply pw_below_drewN | apply below_drew1) | exact HB.out)⟩
       ·rw [if_neg c20] at H
        exact absurd H (by simp)
      ·rw [if_neg c18] at H
       exact absurd H (by simp)
  ·rw [if_neg c6] at H
   exact absurd H (by simp)
 ·rw [if_neg c5] at H
  exact absurd H (by simp)
/-- THE ONE PURE STATEMENT of tmesislaw07_LexNone: yours. -/
def tmesislaw07_LexNone.Pure : Prop := ∀ (l0 : List Int) (a1 : Int), l0.length ≤ maxLen → l0.length * 1 ≤ 140737488351232 → (∀ x ∈ l0, (Lit.int .u8 x).wf = true) → (Lit.int .u8 a1).wf = true → ∃ k, tmesislaw07_LexNone.f k l0 a1 = some true
theorem tmesislaw07_LexNone.walk (P : tmesislaw07_LexNone.Pure) (a0 : Option Addr) (len0 cap0 : Nat) (z0 : List Int) (a1 : Int) (w : World) (hG : Gl w) (w0 : (a0 = none ∧ len0 = 0 ∧ cap0 = 0 ∧ z0 = []) ∨ ∃ x, a0 = some x ∧ len0 ≤ cap0 ∧ cap0 ≤ maxLen ∧ z0.length = cap0 ∧ (∀ i, i < z0.length → w.cell? (x.add i) = some (.int .u8 (z0.getD i 0))) ∧ ∀ n ∈ z0, (Lit.int .u8 n).wf = true) (y0 : len0 * 1 ≤ 140737488351232) (w1 : (Lit.int .u8 a1).wf = true) :
  Calls Tryd.prog 7 #[.slice a0 len0 cap0, .int .u8 a1] w fun e w' => e = .returned (.bool true) ∧ Below w.heap.size w w' := by
 obtain ⟨l0, rfl, hr0, hm0, hw0, hc0⟩ := ReadsInt.ofRowC w0
 obtain ⟨k, h⟩ := P l0 a1 hm0 y0 hw0 w1
 refine (tmesislaw07_LexNone.calls k _ _ l0 a1 true w hG (Kd.C_of_reads (d := (0 : Int)) (h1 := fun _ => rfl) hr0) hc0 h).mono ?_
 rintro e w' ⟨rfl, hd⟩
 exact ⟨rfl, hd⟩
end Go.Proofs.YtdejidhgeefmeaaDoor.P
