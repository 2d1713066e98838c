/- Part of the proof: what the theorem needs of this text. -/
import Derived.Test.YtklpephnbkoinaaDoorKPx7
import Derived.ScopeJumps
import Derived.WalkMore
namespace Go.Proofs.YtklpephnbkoinaaDoor.P
set_option linter.unusedSimpArgs false
set_option linter.unusedVariables false
open Go.RowKit Go.Proofs.YtklpephnbkoinaaDoorW.PrintWords Go.Proofs.YtklpephnbkoinaaDoorW.PrintLast Go.Proofs.YtklpephnbkoinaaDoorW.PrintMore
/-- whether bytes begin with some -/
def hasP (l p : List Int) : Bool := decide (p.length ≤ l.length) && (strOfNums (l.take p.length)).toList == (strOfNums p).toList
theorem hasP_eq (l p : List Int) : bytes_HasPrefix.f l p = some (hasP l p) := by
 unfold bytes_HasPrefix.f hasP bytes_Equal.f
 by_cases h : p.length ≤ l.length
 ·rw [if_pos (by omega), if_pos (by omega), if_pos (by omega), decide_eq_true h]
  rfl
 ·rw [if_neg (by omega), decide_eq_false h]
  rfl
/-- how long the comment is: from a place on, so deep -/
def comGo : Nat → List Int → Int → Nat → Int
 | 0, _, _, _ => 0
 | f + 1, l, d, at_ => if l.length ≤ at_ then 0 else
  if hasP (l.drop at_) [47, 42] = true then (if d + 1 > 0 then comGo f l (d + 1) (at_ + 2) else ((at_ + 2 : Nat) : Int))
  else if hasP (l.drop at_) [42, 47] = true then (if d - 1 > 0 then comGo f l (d - 1) (at_ + 2) else ((at_ + 2 : Nat) : Int))
  else (if d > 0 then comGo f l d (at_ + 1) else ((at_ + 1 : Nat) : Int))
def layout_comment.f (l0 : List Int) : Option Int := some (comGo (l0.length + 1) l0 0 0)
theorem comGo_step (g : Nat) (l : List Int) (d : Int) (p : Nat) (h : ¬ l.length ≤ p) : comGo (g + 1) l d p = if hasP (l.drop p) [47, 42] = true then (if d + 1 > 0 then comGo g l (d + 1) (p + 2) else ((p + 2 : Nat) : Int))
  else if hasP (l.drop p) [42, 47] = true then (if d - 1 > 0 then comGo g l (d - 1) (p + 2) else ((p + 2 : Nat) : Int))
  else (if d > 0 then comGo g l d (p + 1) else ((p + 1 : Nat) : Int)) := by rw [comGo, if_neg h]
theorem w64' {i : Int} (h0 : -9223372036854775808 ≤ i) (h1 : i ≤ 9223372036854775807) : wrap64 i = i := by unfold wrap64; omega
theorem hasP_le {l : List Int} {a b : Int} (h : hasP l [a, b] = true) : 2 ≤ l.length := by
 unfold hasP at h
 rw [Bool.and_eq_true] at h
 exact of_decide_eq_true h.1
def ComJ (A0 : Option Addr) (c0 : Nat) (l0 : List Int) (w : World) (a' : Act) (w' : World) : Prop := ∃ (d : Int) (p f : Nat) (u5 u6 u7 u8 u9 u10 u11 u12 u13 u14 u15 u16 u17 u18 u19 u20 u21 u22 u23 u24 u25 u26 u27 u28 u29 u30 u31 u32 u33 u34 u35 : Value), a' = { tmps := #[.slice A0 l0.length c0, undef, .int .i64 0, .int .i64 d, .int .i64 (p : Int), u5, u6, u7, u8, u9, u10, u11, u12, u13, u14, u15, u16, u17, u18, u19, u20, u21, u22, u23, u24, u25, u26, u27, u28, u29, u30, u31, u32, u33, u34, u35], defers := [] } ∧ p ≤ l0.length ∧ 0 ≤ d ∧ d ≤ p ∧ l0.length + 1 ≤ p + f ∧ Aside0 (comGo f l0 d p = comGo (l0.length + 1) l0 0 0) ∧ Aside0 (Below w.heap.size w w')
def comM (l0 : List Int) (a' : Act) : Nat := l0.length - (intOf (a'.tmps.getD 4 undef)).toNat
theorem wp_gen {P : Program} {c : Code} {Q : Exit → Act → World → Prop} {a : Act} {w : World} (frame : Int → Nat → Act) (Inv : Int → Nat → Nat → World → Prop) (d : Int) (p f : Nat) (ha : a = frame d p) (hI : Inv d p f w) (h : ∀ d p f W, Inv d p f W → Code.wp P c Q (frame d p) W) : Code.wp P c Q a w := by
 subst ha
 exact h d p f w hI
theorem infoB : (Tryd.prog.info? 5).map (fun i => (i.zero, i.size, i.bytes)) = some (some (.int .u8 0), 1, 1) := by kernel_rfl
set_option maxHeartbeats 4000000 in
set_option maxRecDepth 100000 in
theorem layout_comment.calls (A0 : Option Addr) (c0 : Nat) (l0 : List Int) (r : Int) (w : World) (hr0 : Kd.C (Kd.int .u8) w A0 l0.length l0) (hc0 : l0.length ≤ c0) (h : layout_comment.f l0 = some r) :
  Calls Tryd.prog 29 #[.slice A0 l0.length c0] w fun e w' => e = .returned (.int .i64 r) ∧ Below w.heap.size w w' := by
 obtain rfl := Option.some.inj h
 clear h
 have HR0 := Aside0.mk hr0
 have HC0 := Aside0.mk hc0
 clear hr0 hc0
 go_enter Tryd.func29, Tryd.ntmps29
 go_wp2
 refine wp_scope_jumps 0 (ComJ A0 c0 l0 w) (fun a' _ => comM l0 a') rfl ?_ ?_
 ·go_wp2
  go_step3
  rename_i K hK
  refine hK _ _ ?_
  refine wp_gen (fun d p => { tmps := #[.slice A0 l0.length c0, undef, .int .i64 0, .int .i64 d, .int .i64 (p : Int), undef, undef, undef, undef, undef, undef, undef, undef, undef, undef, undef, undef, undef, undef, undef, undef, undef, undef, undef, undef, undef, undef, undef, undef, undef, undef, undef, undef, undef, undef, undef], defers := [] }) (fun d p f W => p ≤ l0.length ∧ 0 ≤ d ∧ d ≤ p ∧ l0.length + 1 ≤ p + f ∧ Aside0 (comGo f l0 d p = comGo (l0.length + 1) l0 0 0) ∧ Aside0 (Below w.heap.size w W)) 0 0 (l0.length + 1) rfl ⟨by omega, by omega, by omega, by omega, ⟨rfl⟩, ⟨Below.refl _ _⟩⟩ ?_
  rintro d p f wr ⟨hp, hd0, hdp, hf, HE, HB⟩
  obtain ⟨g, rfl⟩ : ∃ g, f = g + 1 := ⟨f - 1, by omega⟩
  by_cases hend : l0.length ≤ p
  ·have e0 : comGo (g + 1) l0 d p = 0 := by rw [comGo, if_pos hend]
   have hd1 : decide (l0.length ≤ p) = true := decide_eq_true hend
   have hd2 : decide ((l0.length : Int) ≤ (p : Int)) = true := decide_eq_true (by omega)
   go_wp2
   (try simp only [Exit.jump])
   go_ret
   exact ⟨by rw [← HE.out, e0]; first | rfl | (simp; done), HB.out⟩
  have hd1 : decide (l0.length ≤ p) = false := decide_eq_false hend
  have hd2 : decide ((l0.length : Int) ≤ (p : Int)) = false := decide_eq_false (by omega)
  have hcom := comGo_step g l0 d p hend
  have hmax := HR0.out.2.1
  obtain ⟨i06, hi06, _, hsz6, _⟩ := info_parts infoB
  obtain ⟨A6, hcut6, hA6, hC6⟩ := print_drop_of (P := Tryd.prog) (Value.int .u8) 0 22 5 .i64 Tryd.underlying22 hi06 hsz6 A0 c0 l0 (p : Int) (by omega) (by omega) HC0.out
  have HR6 := Aside0.mk (Kd.C_of_reads (h1 := fun _ => rfl) (hA6 _ (Kd.reads_of_C HR0.out)))
  have HC6 := Aside0.mk hC6
  clear hA6 hC6 hi06 hsz6
  have HP1 := Aside0.mk (hasP_eq (l0.drop ((p : Int)).toNat) [47, 42])
  have HP2 := Aside0.mk (hasP_eq (l0.drop ((p : Int)).toNat) [42, 47])
  rw [show l0.drop p = l0.drop ((p : Int)).toNat from rfl] at hcom
  have hpl : p ≤ l0.length := hp
  have hx1 : (p : Int) + 1 ≤ 9223372036854775807 := by omega
  have hw1 : wrap64 ((p : Int) + 1) = (p : Int) + 1 := w64' (by omega) (by omega)
  have hw3 : wrap64 (d + 1) = d + 1 := w64' (by omega) (by omega)
  have hw4 : wrap64 (d - 1) = d - 1 := w64' (by omega) (by omega)
  cases b1 : hasP (l0.drop ((p : Int)).toNat) [47, 42] with
  | true =>
   have h2 : p + 2 ≤ l0.length := by have h3 := hasP_le b1; rw [List.length_drop] at h3; omega
   rw [b1] at HP1 hcom
   clear b1 HP2
   rw [if_pos rfl] at hcom
   have hpos : d + 1 > 0 := by omega
   rw [if_pos hpos] at hcom
   have HE' := Aside0.mk (hcom.symm.trans HE.out)
   clear hcom
   have hq : decide (0 < d + 1) = true := decide_eq_true hpos
   have hw2 : wrap64 ((p : Int) + 2) = (p : Int) + 2 := w64' (by omega) (by omega)
   go_wp2_with (first | ((with_reducible refine gate_dst (N := 17) rfl ?_); refine V_lits _ 5 ?hg (N := 17) ?hd (xs := ([47, 42] : List Int)) ?hr ?hw2 ?hr2 (Below.refl _ _) (Nat.le_refl _) (by simp) ?_; (case hd => rfl); (case hg => rfl); (case hr => first | (go_simp; done) | (go_simp; rfl)); (case hw2 => rfl); (case hr2 => go_simp; rw [run_convert_lit _ 22 5 _ _ _ Tryd.underlying22 Tryd.underlying5]; rfl); intro vL1 wL1 ho hb hg_ hnew_; clear hg_ hnew_; have n1_ := Aside0.mk (below_step (bAt HB.out) hb); clear HB; have HB := n1_; clear n1_ hb; have HOL1 := Aside0.mk ho; clear ho; obtain ⟨AL1, cL1, eL1⟩ := Kd.V_slice HOL1.out; subst eL1) | ((with_reducible refine gate_dst (N := 19) rfl ?_); (with_reducible refine gate_callee (f := 28) rfl ?_); refine gL (some 19) Tryd.func28 #[.slice A6 (l0.drop ((p : Int)).toNat).length (c0 - ((p : Int)).toNat), .slice AL1 ([47, 42] : List Int).length cL1] rfl (gD l0 ((p : Int)).toNat) ?_; refine (bytes_HasPrefix.calls _ _ (l0.drop ((p : Int)).toNat) _ _ ([47, 42] : List Int) true _ ?side1 ?side2 ?side3 ?side4 HP1.out).mono ?_; (case side1 => exact CAt (Kd.C_below HR6.out HB.out)); (case side2 => exact HC6.out); (case side3 => exact CAt ((Kd.V_reads' HOL1.out).2.2)); (case side4 => exact (Kd.V_reads' HOL1.out).2.1); rintro e wcL1 ⟨rfl, ⟨nd, hnd⟩⟩; replace HB := Aside0.mk (show Below w.heap.size w wcL1 from by rw [hnd]; repeat (first | (with_reducible first | exact HB.out | apply below_alloc | apply pw_below_drewN | apply below_drew1) | exact HB.out)); clear hnd; refine ⟨_, rfl, ?_⟩))
   have ec : ((p : Int) + 2) = ((p + 2 : Nat) : Int) := by omega
   (try simp only [ec])
   go_step3
   refine ⟨rfl, ?_⟩
   show ComJ A0 c0 l0 w _ _
   unfold ComJ
   exact ⟨_, _, g, _, _, _, _, _, _, _, _, _, _, _, _, _, _, _, _, _, _, _, _, _, _, _, _, _, _, _, _, _, _, _, rfl, by omega, by omega, by omega, by omega, ⟨HE'.out⟩, ⟨bAt HB.out⟩⟩
  | false =>
   rw [b1] at HP1 hcom
   clear b1
   rw [if_neg (by simp)] at hcom
   cases b2 : hasP (l0.drop ((p : Int)).toNat) [42, 47] with
   | true =>
    have h2 : p + 2 ≤ l0.length := by have h3 := hasP_le b2; rw [List.length_drop] at h3; omega
    rw [b2] at HP2 hcom
    clear b2
    rw [if_pos rfl] at hcom
    have hw2 : wrap64 ((p : Int) + 2) = (p : Int) + 2 := w64' (by omega) (by omega)
    by_cases hpos : d - 1 > 0
    ·rw [if_pos hpos] at hcom
     have HE' := Aside0.mk (hcom.symm.trans HE.out)
     clear hcom
     have hq : decide (0 < d - 1) = true := decide_eq_true hpos
     have hq2 : decide (1 < d) = true := decide_eq_true (by omega)
     go_wp2_with (first | ((with_reducible refine gate_dst (N := 17) rfl ?_); refine V_lits _ 5 ?hg (N := 17) ?hd (xs := ([47, 42] : List Int)) ?hr ?hw2 ?hr2 (Below.refl _ _) (Nat.le_refl _) (by simp) ?_; (case hd => rfl); (case hg => rfl); (case hr => first | (go_simp; done) | (go_simp; rfl)); (case hw2 => rfl); (case hr2 => go_simp; rw [run_convert_lit _ 22 5 _ _ _ Tryd.underlying22 Tryd.underlying5]; rfl); intro vL1 wL1 ho hb hg_ hnew_; clear hg_ hnew_; have n1_ := Aside0.mk (below_step (bAt HB.out) hb); clear HB; have HB := n1_; clear n1_ hb; have HOL1 := Aside0.mk ho; clear ho; obtain ⟨AL1, cL1, eL1⟩ := Kd.V_slice HOL1.out; subst eL1) | ((with_reducible refine gate_dst (N := 19) rfl ?_); (with_reducible refine gate_callee (f := 28) rfl ?_); refine gL (some 19) Tryd.func28 #[.slice A6 (l0.drop ((p : Int)).toNat).length (c0 - ((p : Int)).toNat), .slice AL1 ([47, 42] : List Int).length cL1] rfl (gD l0 ((p : Int)).toNat) ?_; refine (bytes_HasPrefix.calls _ _ (l0.drop ((p : Int)).toNat) _ _ ([47, 42] : List Int) false _ ?side1 ?side2 ?side3 ?side4 HP1.out).mono ?_; (case side1 => exact CAt (Kd.C_below HR6.out HB.out)); (case side2 => exact HC6.out); (case side3 => exact CAt ((Kd.V_reads' HOL1.out).2.2)); (case side4 => exact (Kd.V_reads' HOL1.out).2.1); rintro e wcL1 ⟨rfl, ⟨nd, hnd⟩⟩; replace HB := Aside0.mk (show Below w.heap.size w wcL1 from by rw [hnd]; repeat (first | (with_reducible first | exact HB.out | apply below_alloc | apply pw_below_drewN | apply below_drew1) | exact HB.out)); clear hnd; refine ⟨_, rfl, ?_⟩) | ((with_reducible refine gate_dst (N := 26) rfl ?_); refine V_lits _ 5 ?hg (N := 26) ?hd (xs := ([42, 47] : List Int)) ?hr ?hw2 ?hr2 (Below.refl _ _) (Nat.le_refl _) (by simp) ?_; (case hd => rfl); (case hg => rfl); (case hr => first | (go_simp; done) | (go_simp; rfl)); (case hw2 => rfl); (case hr2 => go_simp; rw [run_convert_lit _ 22 5 _ _ _ Tryd.underlying22 Tryd.underlying5]; rfl); intro vL2 wL2 ho hb hg_ hnew_; clear hg_ hnew_; have n1_ := Aside0.mk (below_step (bAt HB.out) hb); clear HB; have HB := n1_; clear n1_ hb; have HOL2 := Aside0.mk ho; clear ho; obtain ⟨AL2, cL2, eL2⟩ := Kd.V_slice HOL2.out; subst eL2) | ((with_reducible refine gate_dst (N := 28) rfl ?_); (with_reducible refine gate_callee (f := 28) rfl ?_); refine gL (some 28) Tryd.func28 #[.slice A6 (l0.drop ((p : Int)).toNat).length (c0 - ((p : Int)).toNat), .slice AL2 ([42, 47] : List Int).length cL2] rfl (gD l0 ((p : Int)).toNat) ?_; refine (bytes_HasPrefix.calls _ _ (l0.drop ((p : Int)).toNat) _ _ ([42, 47] : List Int) true _ ?side1 ?side2 ?side3 ?side4 HP2.out).mono ?_; (case side1 => exact CAt (Kd.C_below HR6.out HB.out)); (case side2 => exact HC6.out); (case side3 => exact CAt ((Kd.V_reads' HOL2.out).2.2)); (case side4 => exact (Kd.V_reads' HOL2.out).2.1); rintro e wcL2 ⟨rfl, ⟨nd, hnd⟩⟩; replace HB := Aside0.mk (show Below w.heap.size w wcL2 from by rw [hnd]; repeat (first | (with_reducible first | exact HB.out | apply below_alloc | apply pw_below_drewN | apply below_drew1) | exact HB.out)); clear hnd; refine ⟨_, rfl, ?_⟩))
     have ec : ((p : Int) + 2) = ((p + 2 : Nat) : Int) := by omega
     (try simp only [ec])
     go_step3
     refine ⟨rfl, ?_⟩
     show ComJ A0 c0 l0 w _ _
     unfold ComJ
     exact ⟨_, _, g, _, _, _, _, _, _, _, _, _, _, _, _, _, _, _, _, _, _, _, _, _, _, _, _, _, _, _, _, _, _, _, rfl, by omega, by omega, by omega, by omega, ⟨HE'.out⟩, ⟨bAt HB.out⟩⟩
    ·rw [if_neg hpos] at hcom
     have HE' := Aside0.mk (hcom.symm.trans HE.out)
     clear hcom
     have hq : decide (0 < d - 1) = false := decide_eq_false hpos
     have hq2 : decide (1 < d) = false := decide_eq_false (by omega)
     go_wp2_with (first | ((with_reducible refine gate_dst (N := 17) rfl ?_); refine V_lits _ 5 ?hg (N := 17) ?hd (xs := ([47, 42] : List Int)) ?hr ?hw2 ?hr2 (Below.refl _ _) (Nat.le_refl _) (by simp) ?_; (case hd => rfl); (case hg => rfl); (case hr => first | (go_simp; done) | (go_simp; rfl)); (case hw2 => rfl); (case hr2 => go_simp; rw [run_convert_lit _ 22 5 _ _ _ Tryd.underlying22 Tryd.underlying5]; rfl); intro vL1 wL1 ho hb hg_ hnew_; clear hg_ hnew_; have n1_ := Aside0.mk (below_step (bAt HB.out) hb); clear HB; have HB := n1_; clear n1_ hb; have HOL1 := Aside0.mk ho; clear ho; obtain ⟨AL1, cL1, eL1⟩ := Kd.V_slice HOL1.out; subst eL1) | ((with_reducible refine gate_dst (N := 19) rfl ?_); (with_reducible refine gate_callee (f := 28) rfl ?_); refine gL (some 19) Tryd.func28 #[.slice A6 (l0.drop ((p : Int)).toNat).length (c0 - ((p : Int)).toNat), .slice AL1 ([47, 42] : List Int).length cL1] rfl (gD l0 ((p : Int)).toNat) ?_; refine (bytes_HasPrefix.calls _ _ (l0.drop ((p : Int)).toNat) _ _ ([47, 42] : List Int) false _ ?side1 ?side2 ?side3 ?side4 HP1.out).mono ?_; (case side1 => exact CAt (Kd.C_below HR6.out HB.out)); (case side2 => exact HC6.out); (case side3 => exact CAt ((Kd.V_reads' HOL1.out).2.2)); (case side4 => exact (Kd.V_reads' HOL1.out).2.1); rintro e wcL1 ⟨rfl, ⟨nd, hnd⟩⟩; replace HB := Aside0.mk (show Below w.heap.size w wcL1 from by rw [hnd]; repeat (first | (with_reducible first | exact HB.out | apply below_alloc | apply pw_below_drewN | apply below_drew1) | exact HB.out)); clear hnd; refine ⟨_, rfl, ?_⟩) | ((with_reducible refine gate_dst (N := 26) rfl ?_); refine V_lits _ 5 ?hg (N := 26) ?hd (xs := ([42, 47] : List Int)) ?hr ?hw2 ?hr2 (Below.refl _ _) (Nat.le_refl _) (by simp) ?_; (case hd => rfl); (case hg => rfl); (case hr => first | (go_simp; done) | (go_simp; rfl)); (case hw2 => rfl); (case hr2 => go_simp; rw [run_convert_lit _ 22 5 _ _ _ Tryd.underlying22 Tryd.underlying5]; rfl); intro vL2 wL2 ho hb hg_ hnew_; clear hg_ hnew_; have n1_ := Aside0.mk (below_step (bAt HB.out) hb); clear HB; have HB := n1_; clear n1_ hb; have HOL2 := Aside0.mk ho; clear ho; obtain ⟨AL2, cL2, eL2⟩ := Kd.V_slice HOL2.out; subst eL2) | ((with_reducible refine gate_dst (N := 28) rfl ?_); (with_reducible refine gate_callee (f := 28) rfl ?_); refine gL (some 28) Tryd.func28 #[.slice A6 (l0.drop ((p : Int)).toNat).length (c0 - ((p : Int)).toNat), .slice AL2 ([42, 47] : List Int).length cL2] rfl (gD l0 ((p : Int)).toNat) ?_; refine (bytes_HasPrefix.calls _ _ (l0.drop ((p : Int)).toNat) _ _ ([42, 47] : List Int) true _ ?side1 ?side2 ?side3 ?side4 HP2.out).mono ?_; (case side1 => exact CAt (Kd.C_below HR6.out HB.out)); (case side2 => exact HC6.out); (case side3 => exact CAt ((Kd.V_reads' HOL2.out).2.2)); (case side4 => exact (Kd.V_reads' HOL2.out).2.1); rintro e wcL2 ⟨rfl, ⟨nd, hnd⟩⟩; replace HB := Aside0.mk (show Below w.heap.size w wcL2 from by rw [hnd]; repeat (first | (with_reducible first | exact HB.out | apply below_alloc | apply pw_below_drewN | apply below_drew1) | exact HB.out)); clear hnd; refine ⟨_, rfl, ?_⟩))
     (try simp only [Exit.jump])
     go_ret
     exact ⟨by rw [← HE'.out]; first | rfl | (simp; done), bAt HB.out⟩
   | false =>
    rw [b2] at HP2 hcom
    clear b2
    rw [if_neg (by simp)] at hcom
    by_cases hpos : d > 0
    ·rw [if_pos hpos] at hcom
     have HE' := Aside0.mk (hcom.symm.trans HE.out)
     clear hcom
     have hq : decide (0 < d) = true := decide_eq_true hpos
     go_wp2_with (first | ((with_reducible refine gate_dst (N := 17) rfl ?_); refine V_lits _ 5 ?hg (N := 17) ?hd (xs := ([47, 42] : List Int)) ?hr ?hw2 ?hr2 (Below.refl _ _) (Nat.le_refl _) (by simp) ?_; (case hd => rfl); (case hg => rfl); (case hr => first | (go_simp; done) | (go_simp; rfl)); (case hw2 => rfl); (case hr2 => go_simp; rw [run_convert_lit _ 22 5 _ _ _ Tryd.underlying22 Tryd.underlying5]; rfl); intro vL1 wL1 ho hb hg_ hnew_; clear hg_ hnew_; have n1_ := Aside0.mk (below_step (bAt HB.out) hb); clear HB; have HB := n1_; clear n1_ hb; have HOL1 := Aside0.mk ho; clear ho; obtain ⟨AL1, cL1, eL1⟩ := Kd.V_slice HOL1.out; subst eL1) | ((with_reducible refine gate_dst (N := 19) rfl ?_); (with_reducible refine gate_callee (f := 28) rfl ?_); refine gL (some 19) Tryd.func28 #[.slice A6 (l0.drop ((p : Int)).toNat).length (c0 - ((p : Int)).toNat), .slice AL1 ([47, 42] : List Int).length cL1] rfl (gD l0 ((p : Int)).toNat) ?_; refine (bytes_HasPrefix.calls _ _ (l0.drop ((p : Int)).toNat) _ _ ([47, 42] : List Int) false _ ?side1 ?side2 ?side3 ?side4 HP1.out).mono ?_; (case side1 => exact CAt (Kd.C_below HR6.out HB.out)); (case side2 => exact HC6.out); (case side3 => exact CAt ((Kd.V_reads' HOL1.out).2.2)); (case side4 => exact (Kd.V_reads' HOL1.out).2.1); rintro e wcL1 ⟨rfl, ⟨nd, hnd⟩⟩; replace HB := Aside0.mk (show Below w.heap.size w wcL1 from by rw [hnd]; repeat (first | (with_reducible first | exact HB.out | apply below_alloc | apply pw_below_drewN | apply below_drew1) | exact HB.out)); clear hnd; refine ⟨_, rfl, ?_⟩) | ((with_reducible refine gate_dst (N := 26) rfl ?_); refine V_lits _ 5 ?hg (N := 26) ?hd (xs := ([42, 47] : List Int)) ?hr ?hw2 ?hr2 (Below.refl _ _) (Nat.le_refl _) (by simp) ?_; (case hd => rfl); (case hg => rfl); (case hr => first | (go_simp; done) | (go_simp; rfl)); (case hw2 => rfl); (case hr2 => go_simp; rw [run_convert_lit _ 22 5 _ _ _ Tryd.underlying22 Tryd.underlying5]; rfl); intro vL2 wL2 ho hb hg_ hnew_; clear hg_ hnew_; have n1_ := Aside0.mk (below_step (bAt HB.out) hb); clear HB; have HB := n1_; clear n1_ hb; have HOL2 := Aside0.mk ho; clear ho; obtain ⟨AL2, cL2, eL2⟩ := Kd.V_slice HOL2.out; subst eL2) | ((with_reducible refine gate_dst (N := 28) rfl ?_); (with_reducible refine gate_callee (f := 28) rfl ?_); refine gL (some 28) Tryd.func28 #[.slice A6 (l0.drop ((p : Int)).toNat).length (c0 - ((p : Int)).toNat), .slice AL2 ([42, 47] : List Int).length cL2] rfl (gD l0 ((p : Int)).toNat) ?_; refine (bytes_HasPrefix.calls _ _ (l0.drop ((p : Int)).toNat) _ _ ([42, 47] : List Int) false _ ?side1 ?side2 ?side3 ?side4 HP2.out).mono ?_; (case side1 => exact CAt (Kd.C_below HR6.out HB.out)); (case side2 => exact HC6.out); (case side3 => exact CAt ((Kd.V_reads' HOL2.out).2.2)); (case side4 => exact (Kd.V_reads' HOL2.out).2.1); rintro e wcL2 ⟨rfl, ⟨nd, hnd⟩⟩; replace HB := Aside0.mk (show Below w.heap.size w wcL2 from by rw [hnd]; repeat (first | (with_reducible first | exact HB.out | apply below_alloc | apply pw_below_drewN | apply below_drew1) | exact HB.out)); clear hnd; refine ⟨_, rfl, ?_⟩))
     have ec : ((p : Int) + 1) = ((p + 1 : Nat) : Int) := by omega
     (try simp only [ec])
     go_step3
     refine ⟨rfl, ?_⟩
     show ComJ A0 c0 l0 w _ _
     unfold ComJ
     exact ⟨_, _, g, _, _, _, _, _, _, _, _, _, _, _, _, _, _, _, _, _, _, _, _, _, _, _, _, _, _, _, _, _, _, _, rfl, by omega, by omega, by omega, by omega, ⟨HE'.out⟩, ⟨bAt HB.out⟩⟩
    ·rw [if_neg hpos] at hcom
     have HE' := Aside0.mk (hcom.symm.trans HE.out)
     clear hcom
     have hq : decide (0 < d) = false := decide_eq_false hpos
     go_wp2_with (first | ((with_reducible refine gate_dst (N := 17) rfl ?_); refine V_lits _ 5 ?hg (N := 17) ?hd (xs := ([47, 42] : List Int)) ?hr ?hw2 ?hr2 (Below.refl _ _) (Nat.le_refl _) (by simp) ?_; (case hd => rfl); (case hg => rfl); (case hr => first | (go_simp; done) | (go_simp; rfl)); (case hw2 => rfl); (case hr2 => go_simp; rw [run_convert_lit _ 22 5 _ _ _ Tryd.underlying22 Tryd.underlying5]; rfl); intro vL1 wL1 ho hb hg_ hnew_; clear hg_ hnew_; have n1_ := Aside0.mk (below_step (bAt HB.out) hb); clear HB; have HB := n1_; clear n1_ hb; have HOL1 := Aside0.mk ho; clear ho; obtain ⟨AL1, cL1, eL1⟩ := Kd.V_slice HOL1.out; subst eL1) | ((with_reducible refine gate_dst (N := 19) rfl ?_); (with_reducible refine gate_callee (f := 28) rfl ?_); refine gL (some 19) Tryd.func28 #[.slice A6 (l0.drop ((p : Int)).toNat).length (c0 - ((p : Int)).toNat), .slice AL1 ([47, 42] : List Int).length cL1] rfl (gD l0 ((p : Int)).toNat) ?_; refine (bytes_HasPrefix.calls _ _ (l0.drop ((p : Int)).toNat) _ _ ([47, 42] : List Int) false _ ?side1 ?side2 ?side3 ?side4 HP1.out).mono ?_; (case side1 => exact CAt (Kd.C_below HR6.out HB.out)); (case side2 => exact HC6.out); (case side3 => exact CAt ((Kd.V_reads' HOL1.out).2.2)); (case side4 => exact (Kd.V_reads' HOL1.out).2.1); rintro e wcL1 ⟨rfl, ⟨nd, hnd⟩⟩; replace HB := Aside0.mk (show Below w.heap.size w wcL1 from by rw [hnd]; repeat (first | (with_reducible first | exact HB.out | apply below_alloc | apply pw_below_drewN | apply below_drew1) | exact HB.out)); clear hnd; refine ⟨_, rfl, ?_⟩) | ((with_reducible refine gate_dst (N := 26) rfl ?_); refine V_lits _ 5 ?hg (N := 26) ?hd (xs := ([42, 47] : List Int)) ?hr ?hw2 ?hr2 (Below.refl _ _) (Nat.le_refl _) (by simp) ?_; (case hd => rfl); (case hg => rfl); (case hr => first | (go_simp; done) | (go_simp; rfl)); (case hw2 => rfl); (case hr2 => go_simp; rw [run_convert_lit _ 22 5 _ _ _ Tryd.underlying22 Tryd.underlying5]; rfl); intro vL2 wL2 ho hb hg_ hnew_; clear hg_ hnew_; have n1_ := Aside0.mk (below_step (bAt HB.out) hb); clear HB; have HB := n1_; clear n1_ hb; have HOL2 := Aside0.mk ho; clear ho; obtain ⟨AL2, cL2, eL2⟩ := Kd.V_slice HOL2.out; subst eL2) | ((with_reducible refine gate_dst (N := 28) rfl ?_); (with_reducible refine gate_callee (f := 28) rfl ?_); refine gL (some 28) Tryd.func28 #[.slice A6 (l0.drop ((p : Int)).toNat).length (c0 - ((p : Int)).toNat), .slice AL2 ([42, 47] : List Int).length cL2] rfl (gD l0 ((p : Int)).toNat) ?_; refine (bytes_HasPrefix.calls _ _ (l0.drop ((p : Int)).toNat) _ _ ([42, 47] : List Int) false _ ?side1 ?side2 ?side3 ?side4 HP2.out).mono ?_; (case side1 => exact CAt (Kd.C_below HR6.out HB.out)); (case side2 => exact HC6.out); (case side3 => exact CAt ((Kd.V_reads' HOL2.out).2.2)); (case side4 => exact (Kd.V_reads' HOL2.out).2.1); rintro e wcL2 ⟨rfl, ⟨nd, hnd⟩⟩; replace HB := Aside0.mk (show Below w.heap.size w wcL2 from by rw [hnd]; repeat (first | (with_reducible first | exact HB.out | apply below_alloc | apply pw_below_drewN | apply below_drew1) | exact HB.out)); clear hnd; refine ⟨_, rfl, ?_⟩))
     (try simp only [Exit.jump])
     go_ret
     exact ⟨by rw [← HE'.out]; first | rfl | (simp; done), bAt HB.out⟩
 ·rintro a' wr ⟨d, p, f, u5, u6, u7, u8, u9, u10, u11, u12, u13, u14, u15, u16, u17, u18, u19, u20, u21, u22, u23, u24, u25, u26, u27, u28, u29, u30, u31, u32, u33, u34, u35, rfl, hp, hd0, hdp, hf, HE, HB⟩
  obtain ⟨g, rfl⟩ : ∃ g, f = g + 1 := ⟨f - 1, by omega⟩
  by_cases hend : l0.length ≤ p
  ·have e0 : comGo (g + 1) l0 d p = 0 := by rw [comGo, if_pos hend]
   have hd1 : decide (l0.length ≤ p) = true := decide_eq_true hend
   have hd2 : decide ((l0.length : Int) ≤ (p : Int)) = true := decide_eq_true (by omega)
   go_wp2
   (try simp only [Exit.jump])
   go_ret
   exact ⟨by rw [← HE.out, e0]; first | rfl | (simp; done), HB.out⟩
  have hd1 : decide (l0.length ≤ p) = false := decide_eq_false hend
  have hd2 : decide ((l0.length : Int) ≤ (p : Int)) = false := decide_eq_false (by omega)
  have hcom := comGo_step g l0 d p hend
  have hmax := HR0.out.2.1
  obtain ⟨i06, hi06, _, hsz6, _⟩ := info_parts infoB
  obtain ⟨A6, hcut6, hA6, hC6⟩ := print_drop_of (P := Tryd.prog) (Value.int .u8) 0 22 5 .i64 Tryd.underlying22 hi06 hsz6 A0 c0 l0 (p : Int) (by omega) (by omega) HC0.out
  have HR6 := Aside0.mk (Kd.C_of_reads (h1 := fun _ => rfl) (hA6 _ (Kd.reads_of_C HR0.out)))
  have HC6 := Aside0.mk hC6
  clear hA6 hC6 hi06 hsz6
  have HP1 := Aside0.mk (hasP_eq (l0.drop ((p : Int)).toNat) [47, 42])
  have HP2 := Aside0.mk (hasP_eq (l0.drop ((p : Int)).toNat) [42, 47])
  rw [show l0.drop p = l0.drop ((p : Int)).toNat from rfl] at hcom
  have hpl : p ≤ l0.length := hp
  have hx1 : (p : Int) + 1 ≤ 9223372036854775807 := by omega
  have hw1 : wrap64 ((p : Int) + 1) = (p : Int) + 1 := w64' (by omega) (by omega)
  have hw3 : wrap64 (d + 1) = d + 1 := w64' (by omega) (by omega)
  have hw4 : wrap64 (d - 1) = d - 1 := w64' (by omega) (by omega)
  cases b1 : hasP (l0.drop ((p : Int)).toNat) [47, 42] with
  | true =>
   have h2 : p + 2 ≤ l0.length := by have h3 := hasP_le b1; rw [List.length_drop] at h3; omega
   rw [b1] at HP1 hcom
   clear b1 HP2
   rw [if_pos rfl] at hcom
   have hpos : d + 1 > 0 := by omega
   rw [if_pos hpos] at hcom
   have HE' := Aside0.mk (hcom.symm.trans HE.out)
   clear hcom
   have hq : decide (0 < d + 1) = true := decide_eq_true hpos
   have hw2 : wrap64 ((p : Int) + 2) = (p : Int) + 2 := w64' (by omega) (by omega)
   go_wp2_with (first | ((with_reducible refine gate_dst (N := 17) rfl ?_); refine V_lits _ 5 ?hg (N := 17) ?hd (xs := ([47, 42] : List Int)) ?hr ?hw2 ?hr2 (Below.refl _ _) (Nat.le_refl _) (by simp) ?_; (case hd => rfl); (case hg => rfl); (case hr => first | (go_simp; done) | (go_simp; rfl)); (case hw2 => rfl); (case hr2 => go_simp; rw [run_convert_lit _ 22 5 _ _ _ Tryd.underlying22 Tryd.underlying5]; rfl); intro vL1 wL1 ho hb hg_ hnew_; clear hg_ hnew_; have n1_ := Aside0.mk (below_step (bAt HB.out) hb); clear HB; have HB := n1_; clear n1_ hb; have HOL1 := Aside0.mk ho; clear ho; obtain ⟨AL1, cL1, eL1⟩ := Kd.V_slice HOL1.out; subst eL1) | ((with_reducible refine gate_dst (N := 19) rfl ?_); (with_reducible refine gate_callee (f := 28) rfl ?_); refine gL (some 19) Tryd.func28 #[.slice A6 (l0.drop ((p : Int)).toNat).length (c0 - ((p : Int)).toNat), .slice AL1 ([47, 42] : List Int).length cL1] rfl (gD l0 ((p : Int)).toNat) ?_; refine (bytes_HasPrefix.calls _ _ (l0.drop ((p : Int)).toNat) _ _ ([47, 42] : List Int) true _ ?side1 ?side2 ?side3 ?side4 HP1.out).mono ?_; (case side1 => exact CAt (Kd.C_below HR6.out HB.out)); (case side2 => exact HC6.out); (case side3 => exact CAt ((Kd.V_reads' HOL1.out).2.2)); (case side4 => exact (Kd.V_reads' HOL1.out).2.1); rintro e wcL1 ⟨rfl, ⟨nd, hnd⟩⟩; replace HB := Aside0.mk (show Below w.heap.size w wcL1 from by rw [hnd]; repeat (first | (with_reducible first | exact HB.out | apply below_alloc | apply pw_below_drewN | apply below_drew1) | exact HB.out)); clear hnd; refine ⟨_, rfl, ?_⟩))
   have ec : ((p : Int) + 2) = ((p + 2 : Nat) : Int) := by omega
   (try simp only [ec])
   go_step3
   refine ⟨rfl, ⟨?_, ?_⟩⟩
   rotate_left
   ·simp [comM, intOf]; omega
   show ComJ A0 c0 l0 w _ _
   unfold ComJ
   exact ⟨_, _, g, _, _, _, _, _, _, _, _, _, _, _, _, _, _, _, _, _, _, _, _, _, _, _, _, _, _, _, _, _, _, _, rfl, by omega, by omega, by omega, by omega, ⟨HE'.out⟩, ⟨bAt HB.out⟩⟩
  | false =>
   rw [b1] at HP1 hcom
   clear b1
   rw [if_neg (by simp)] at hcom
   cases b2 : hasP (l0.drop ((p : Int)).toNat) [42, 47] with
   | true =>
    have h2 : p + 2 ≤ l0.length := by have h3 := hasP_le b2; rw [List.length_drop] at h3; omega
    rw [b2] at HP2 hcom
    clear b2
    rw [if_pos rfl] at hcom
    have hw2 : wrap64 ((p : Int) + 2) = (p : Int) + 2 := w64' (by omega) (by omega)
    by_cases hpos : d - 1 > 0
    ·rw [if_pos hpos] at hcom
     have HE' := Aside0.mk (hcom.symm.trans HE.out)
     clear hcom
     have hq : decide (0 < d - 1) = true := decide_eq_true hpos
     have hq2 : decide (1 < d) = true := decide_eq_true (by omega)
     go_wp2_with (first | ((with_reducible refine gate_dst (N := 17) rfl ?_); refine V_lits _ 5 ?hg (N := 17) ?hd (xs := ([47, 42] : List Int)) ?hr ?hw2 ?hr2 (Below.refl _ _) (Nat.le_refl _) (by simp) ?_; (case hd => rfl); (case hg => rfl); (case hr => first | (go_simp; done) | (go_simp; rfl)); (case hw2 => rfl); (case hr2 => go_simp; rw [run_convert_lit _ 22 5 _ _ _ Tryd.underlying22 Tryd.underlying5]; rfl); intro vL1 wL1 ho hb hg_ hnew_; clear hg_ hnew_; have n1_ := Aside0.mk (below_step (bAt HB.out) hb); clear HB; have HB := n1_; clear n1_ hb; have HOL1 := Aside0.mk ho; clear ho; obtain ⟨AL1, cL1, eL1⟩ := Kd.V_slice HOL1.out; subst eL1) | ((with_reducible refine gate_dst (N := 19) rfl ?_); (with_reducible refine gate_callee (f := 28) rfl ?_); refine gL (some 19) Tryd.func28 #[.slice A6 (l0.drop ((p : Int)).toNat).length (c0 - ((p : Int)).toNat), .slice AL1 ([47, 42] : List Int).length cL1] rfl (gD l0 ((p : Int)).toNat) ?_; refine (bytes_HasPrefix.calls _ _ (l0.drop ((p : Int)).toNat) _ _ ([47, 42] : List Int) false _ ?side1 ?side2 ?side3 ?side4 HP1.out).mono ?_; (case side1 => exact CAt (Kd.C_below HR6.out HB.out)); (case side2 => exact HC6.out); (case side3 => exact CAt ((Kd.V_reads' HOL1.out).2.2)); (case side4 => exact (Kd.V_reads' HOL1.out).2.1); rintro e wcL1 ⟨rfl, ⟨nd, hnd⟩⟩; replace HB := Aside0.mk (show Below w.heap.size w wcL1 from by rw [hnd]; repeat (first | (with_reducible first | exact HB.out | apply below_alloc | apply pw_below_drewN | apply below_drew1) | exact HB.out)); clear hnd; refine ⟨_, rfl, ?_⟩) | ((with_reducible refine gate_dst (N := 26) rfl ?_); refine V_lits _ 5 ?hg (N := 26) ?hd (xs := ([42, 47] : List Int)) ?hr ?hw2 ?hr2 (Below.refl _ _) (Nat.le_refl _) (by simp) ?_; (case hd => rfl); (case hg => rfl); (case hr => first | (go_simp; done) | (go_simp; rfl)); (case hw2 => rfl); (case hr2 => go_simp; rw [run_convert_lit _ 22 5 _ _ _ Tryd.underlying22 Tryd.underlying5]; rfl); intro vL2 wL2 ho hb hg_ hnew_; clear hg_ hnew_; have n1_ := Aside0.mk (below_step (bAt HB.out) hb); clear HB; have HB := n1_; clear n1_ hb; have HOL2 := Aside0.mk ho; clear ho; obtain ⟨AL2, cL2, eL2⟩ := Kd.V_slice HOL2.out; subst eL2) | ((with_reducible refine gate_dst (N := 28) rfl ?_); (with_reducible refine gate_callee (f := 28) rfl ?_); refine gL (some 28) Tryd.func28 #[.slice A6 (l0.drop ((p : Int)).toNat).length (c0 - ((p : Int)).toNat), .slice AL2 ([42, 47] : List Int).length cL2] rfl (gD l0 ((p : Int)).toNat) ?_; refine (bytes_HasPrefix.calls _ _ (l0.drop ((p : Int)).toNat) _ _ ([42, 47] : List Int) true _ ?side1 ?side2 ?side3 ?side4 HP2.out).mono ?_; (case side1 => exact CAt (Kd.C_below HR6.out HB.out)); (case side2 => exact HC6.out); (case side3 => exact CAt ((Kd.V_reads' HOL2.out).2.2)); (case side4 => exact (Kd.V_reads' HOL2.out).2.1); rintro e wcL2 ⟨rfl, ⟨nd, hnd⟩⟩; replace HB := Aside0.mk (show Below w.heap.size w wcL2 from by rw [hnd]; repeat (first | (with_reducible first | exact HB.out | apply below_alloc | apply pw_below_drewN | apply below_drew1) | exact HB.out)); clear hnd; refine ⟨_, rfl, ?_⟩))
     have ec : ((p : Int) + 2) = ((p + 2 : Nat) : Int) := by omega
     (try simp only [ec])
     go_step3
     refine ⟨rfl, ⟨?_, ?_⟩⟩
     rotate_left
     ·simp [comM, intOf]; omega
     show ComJ A0 c0 l0 w _ _
     unfold ComJ
     exact ⟨_, _, g, _, _, _, _, _, _, _, _, _, _, _, _, _, _, _, _, _, _, _, _, _, _, _, _, _, _, _, _, _, _, _, rfl, by omega, by omega, by omega, by omega, ⟨HE'.out⟩, ⟨bAt HB.out⟩⟩
    ·rw [if_neg hpos] at hcom
     have HE' := Aside0.mk (hcom.symm.trans HE.out)
     clear hcom
     have hq : decide (0 < d - 1) = false := decide_eq_false hpos
     have hq2 : decide (1 < d) = false := decide_eq_false (by omega)
     go_wp2_with (first | ((with_reducible refine gate_dst (N := 17) rfl ?_); refine V_lits _ 5 ?hg (N := 17) ?hd (xs := ([47, 42] : List Int)) ?hr ?hw2 ?hr2 (Below.refl _ _) (Nat.le_refl _) (by simp) ?_; (case hd => rfl); (case hg => rfl); (case hr => first | (go_simp; done) | (go_simp; rfl)); (case hw2 => rfl); (case hr2 => go_simp; rw [run_convert_lit _ 22 5 _ _ _ Tryd.underlying22 Tryd.underlying5]; rfl); intro vL1 wL1 ho hb hg_ hnew_; clear hg_ hnew_; have n1_ := Aside0.mk (below_step (bAt HB.out) hb); clear HB; have HB := n1_; clear n1_ hb; have HOL1 := Aside0.mk ho; clear ho; obtain ⟨AL1, cL1, eL1⟩ := Kd.V_slice HOL1.out; subst eL1) | ((with_reducible refine gate_dst (N := 19) rfl ?_); (with_reducible refine gate_callee (f := 28) rfl ?_); refine gL (some 19) Tryd.func28 #[.slice A6 (l0.drop ((p : Int)).toNat).length (c0 - ((p : Int)).toNat), .slice AL1 ([47, 42] : List Int).length cL1] rfl (gD l0 ((p : Int)).toNat) ?_; refine (bytes_HasPrefix.calls _ _ (l0.drop ((p : Int)).toNat) _ _ ([47, 42] : List Int) false _ ?side1 ?side2 ?side3 ?side4 HP1.out).mono ?_; (case side1 => exact CAt (Kd.C_below HR6.out HB.out)); (case side2 => exact HC6.out); (case side3 => exact CAt ((Kd.V_reads' HOL1.out).2.2)); (case side4 => exact (Kd.V_reads' HOL1.out).2.1); rintro e wcL1 ⟨rfl, ⟨nd, hnd⟩⟩; replace HB := Aside0.mk (show Below w.heap.size w wcL1 from by rw [hnd]; repeat (first | (with_reducible first | exact HB.out | apply below_alloc | apply pw_below_drewN | apply below_drew1) | exact HB.out)); clear hnd; refine ⟨_, rfl, ?_⟩) | ((with_reducible refine gate_dst (N := 26) rfl ?_); refine V_lits _ 5 ?hg (N := 26) ?hd (xs := ([42, 47] : List Int)) ?hr ?hw2 ?hr2 (Below.refl _ _) (Nat.le_refl _) (by simp) ?_; (case hd => rfl); (case hg => rfl); (case hr => first | (go_simp; done) | (go_simp; rfl)); (case hw2 => rfl); (case hr2 => go_simp; rw [run_convert_lit _ 22 5 _ _ _ Tryd.underlying22 Tryd.underlying5]; rfl); intro vL2 wL2 ho hb hg_ hnew_; clear hg_ hnew_; have n1_ := Aside0.mk (below_step (bAt HB.out) hb); clear HB; have HB := n1_; clear n1_ hb; have HOL2 := Aside0.mk ho; clear ho; obtain ⟨AL2, cL2, eL2⟩ := Kd.V_slice HOL2.out; subst eL2) | ((with_reducible refine gate_dst (N := 28) rfl ?_); (with_reducible refine gate_callee (f := 28) rfl ?_); refine gL (some 28) Tryd.func28 #[.slice A6 (l0.drop ((p : Int)).toNat).length (c0 - ((p : Int)).toNat), .slice AL2 ([42, 47] : List Int).length cL2] rfl (gD l0 ((p : Int)).toNat) ?_; refine (bytes_HasPrefix.calls _ _ (l0.drop ((p : Int)).toNat) _ _ ([42, 47] : List Int) true _ ?side1 ?side2 ?side3 ?side4 HP2.out).mono ?_; (case side1 => exact CAt (Kd.C_below HR6.out HB.out)); (case side2 => exact HC6.out); (case side3 => exact CAt ((Kd.V_reads' HOL2.out).2.2)); (case side4 => exact (Kd.V_reads' HOL2.out).2.1); rintro e wcL2 ⟨rfl, ⟨nd, hnd⟩⟩; replace HB := Aside0.mk (show Below w.heap.size w wcL2 from by rw [hnd]; repeat (first | (with_reducible first | exact HB.out | apply below_alloc | apply pw_below_drewN | apply below_drew1) | exact HB.out)); clear hnd; refine ⟨_, rfl, ?_⟩))
     (try simp only [Exit.jump])
     go_ret
     exact ⟨by rw [← HE'.out]; first | rfl | (simp; done), bAt HB.out⟩
   | false =>
    rw [b2] at HP2 hcom
    clear b2
    rw [if_neg (by simp)] at hcom
    by_cases hpos : d > 0
    ·rw [if_pos hpos] at hcom
     have HE' := Aside0.mk (hcom.symm.trans HE.out)
     clear hcom
     have hq : decide (0 < d) = true := decide_eq_true hpos
     go_wp2_with (first | ((with_reducible refine gate_dst (N := 17) rfl ?_); refine V_lits _ 5 ?hg (N := 17) ?hd (xs := ([47, 42] : List Int)) ?hr ?hw2 ?hr2 (Below.refl _ _) (Nat.le_refl _) (by simp) ?_; (case hd => rfl); (case hg => rfl); (case hr => first | (go_simp; done) | (go_simp; rfl)); (case hw2 => rfl); (case hr2 => go_simp; rw [run_convert_lit _ 22 5 _ _ _ Tryd.underlying22 Tryd.underlying5]; rfl); intro vL1 wL1 ho hb hg_ hnew_; clear hg_ hnew_; have n1_ := Aside0.mk (below_step (bAt HB.out) hb); clear HB; have HB := n1_; clear n1_ hb; have HOL1 := Aside0.mk ho; clear ho; obtain ⟨AL1, cL1, eL1⟩ := Kd.V_slice HOL1.out; subst eL1) | ((with_reducible refine gate_dst (N := 19) rfl ?_); (with_reducible refine gate_callee (f := 28) rfl ?_); refine gL (some 19) Tryd.func28 #[.slice A6 (l0.drop ((p : Int)).toNat).length (c0 - ((p : Int)).toNat), .slice AL1 ([47, 42] : List Int).length cL1] rfl (gD l0 ((p : Int)).toNat) ?_; refine (bytes_HasPrefix.calls _ _ (l0.drop ((p : Int)).toNat) _ _ ([47, 42] : List Int) false _ ?side1 ?side2 ?side3 ?side4 HP1.out).mono ?_; (case side1 => exact CAt (Kd.C_below HR6.out HB.out)); (case side2 => exact HC6.out); (case side3 => exact CAt ((Kd.V_reads' HOL1.out).2.2)); (case side4 => exact (Kd.V_reads' HOL1.out).2.1); rintro e wcL1 ⟨rfl, ⟨nd, hnd⟩⟩; replace HB := Aside0.mk (show Below w.heap.size w wcL1 from by rw [hnd]; repeat (first | (with_reducible first | exact HB.out | apply below_alloc | apply pw_below_drewN | apply below_drew1) | exact HB.out)); clear hnd; refine ⟨_, rfl, ?_⟩) | ((with_reducible refine gate_dst (N := 26) rfl ?_); refine V_lits _ 5 ?hg (N := 26) ?hd (xs := ([42, 47] : List Int)) ?hr ?hw2 ?hr2 (Below.refl _ _) (Nat.le_refl _) (by simp) ?_; (case hd => rfl); (case hg => rfl); (case hr => first | (go_simp; done) | (go_simp; rfl)); (case hw2 => rfl); (case hr2 => go_simp; rw [run_convert_lit _ 22 5 _ _ _ Tryd.underlying22 Tryd.underlying5]; rfl); intro vL2 wL2 ho hb hg_ hnew_; clear hg_ hnew_; have n1_ := Aside0.mk (below_step (bAt HB.out) hb); clear HB; have HB := n1_; clear n1_ hb; have HOL2 := Aside0.mk ho; clear ho; obtain ⟨AL2, cL2, eL2⟩ := Kd.V_slice HOL2.out; subst eL2) | ((with_reducible refine gate_dst (N := 28) rfl ?_); (with_reducible refine gate_callee (f := 28) rfl ?_); refine gL (some 28) Tryd.func28 #[.slice A6 (l0.drop ((p : Int)).toNat).length (c0 - ((p : Int)).toNat), .slice AL2 ([42, 47] : List Int).length cL2] rfl (gD l0 ((p : Int)).toNat) ?_; refine (bytes_HasPrefix.calls _ _ (l0.drop ((p : Int)).toNat) _ _ ([42, 47] : List Int) false _ ?side1 ?side2 ?side3 ?side4 HP2.out).mono ?_; (case side1 => exact CAt (Kd.C_below HR6.out HB.out)); (case side2 => exact HC6.out); (case side3 => exact CAt ((Kd.V_reads' HOL2.out).2.2)); (case side4 => exact (Kd.V_reads' HOL2.out).2.1); rintro e wcL2 ⟨rfl, ⟨nd, hnd⟩⟩; replace HB := Aside0.mk (show Below w.heap.size w wcL2 from by rw [hnd]; repeat (first | (with_reducible first | exact HB.out | apply below_alloc | apply pw_below_drewN | apply below_drew1) | exact HB.out)); clear hnd; refine ⟨_, rfl, ?_⟩))
     have ec : ((p : Int) + 1) = ((p + 1 : Nat) : Int) := by omega
     (try simp only [ec])
     go_step3
     refine ⟨rfl, ⟨?_, ?_⟩⟩
     rotate_left
     ·simp [comM, intOf]; omega
     show ComJ A0 c0 l0 w _ _
     unfold ComJ
     exact ⟨_, _, g, _, _, _, _, _, _, _, _, _, _, _, _, _, _, _, _, _, _, _, _, _, _, _, _, _, _, _, _, _, _, _, rfl, by omega, by omega, by omega, by omega, ⟨HE'.out⟩, ⟨bAt HB.out⟩⟩
    ·rw [if_neg hpos] at hcom
     have HE' := Aside0.mk (hcom.symm.trans HE.out)
     clear hcom
     have hq : decide (0 < d) = false := decide_eq_false hpos
     go_wp2_with (first | ((with_reducible refine gate_dst (N := 17) rfl ?_); refine V_lits _ 5 ?hg (N := 17) ?hd (xs := ([47, 42] : List Int)) ?hr ?hw2 ?hr2 (Below.refl _ _) (Nat.le_refl _) (by simp) ?_; (case hd => rfl); (case hg => rfl); (case hr => first | (go_simp; done) | (go_simp; rfl)); (case hw2 => rfl); (case hr2 => go_simp; rw [run_convert_lit _ 22 5 _ _ _ Tryd.underlying22 Tryd.underlying5]; rfl); intro vL1 wL1 ho hb hg_ hnew_; clear hg_ hnew_; have n1_ := Aside0.mk (below_step (bAt HB.out) hb); clear HB; have HB := n1_; clear n1_ hb; have HOL1 := Aside0.mk ho; clear ho; obtain ⟨AL1, cL1, eL1⟩ := Kd.V_slice HOL1.out; subst eL1) | ((with_reducible refine gate_dst (N := 19) rfl ?_); (with_reducible refine gate_callee (f := 28) rfl ?_); refine gL (some 19) Tryd.func28 #[.slice A6 (l0.drop ((p : Int)).toNat).length (c0 - ((p : Int)).toNat), .slice AL1 ([47, 42] : List Int).length cL1] rfl (gD l0 ((p : Int)).toNat) ?_; refine (bytes_HasPrefix.calls _ _ (l0.drop ((p : Int)).toNat) _ _ ([47, 42] : List Int) false _ ?side1 ?side2 ?side3 ?side4 HP1.out).mono ?_; (case side1 => exact CAt (Kd.C_below HR6.out HB.out)); (case side2 => exact HC6.out); (case side3 => exact CAt ((Kd.V_reads' HOL1.out).2.2)); (case side4 => exact (Kd.V_reads' HOL1.out).2.1); rintro e wcL1 ⟨rfl, ⟨nd, hnd⟩⟩; replace HB := Aside0.mk (show Below w.heap.size w wcL1 from by rw [hnd]; repeat (first | (with_reducible first | exact HB.out | apply below_alloc | apply pw_below_drewN | apply below_drew1) | exact HB.out)); clear hnd; refine ⟨_, rfl, ?_⟩) | ((with_reducible refine gate_dst (N := 26) rfl ?_); refine V_lits _ 5 ?hg (N := 26) ?hd (xs := ([42, 47] : List Int)) ?hr ?hw2 ?hr2 (Below.refl _ _) (Nat.le_refl _) (by simp) ?_; (case hd => rfl); (case hg => rfl); (case hr => first | (go_simp; done) | (go_simp; rfl)); (case hw2 => rfl); (case hr2 => go_simp; rw [run_convert_lit _ 22 5 _ _ _ Tryd.underlying22 Tryd.underlying5]; rfl); intro vL2 wL2 ho hb hg_ hnew_; clear hg_ hnew_; have n1_ := Aside0.mk (below_step (bAt HB.out) hb); clear HB; have HB := n1_; clear n1_ hb; have HOL2 := Aside0.mk ho; clear ho; obtain ⟨AL2, cL2, eL2⟩ := Kd.V_slice HOL2.out; subst eL2) | ((with_reducible refine gate_dst (N := 28) rfl ?_); (with_reducible refine gate_callee (f := 28) rfl ?_); refine gL (some 28) Tryd.func28 #[.slice A6 (l0.drop ((p : Int)).toNat).length (c0 - ((p : Int)).toNat), .slice AL2 ([42, 47] : List Int).length cL2] rfl (gD l0 ((p : Int)).toNat) ?_; refine (bytes_HasPrefix.calls _ _ (l0.drop ((p : Int)).toNat) _ _ ([42, 47] : List Int) false _ ?side1 ?side2 ?side3 ?side4 HP2.out).mono ?_; (case side1 => exact CAt (Kd.C_below HR6.out HB.out)); (case side2 => exact HC6.out); (case side3 => exact CAt ((Kd.V_reads' HOL2.out).2.2)); (case side4 => exact (Kd.V_reads' HOL2.out).2.1); rintro e wcL2 ⟨rfl, ⟨nd, hnd⟩⟩; replace HB := Aside0.mk (show Below w.heap.size w wcL2 from by rw [hnd]; repeat (first | (with_reducible first | exact HB.out | apply below_alloc | apply pw_below_drewN | apply below_drew1) | exact HB.out)); clear hnd; refine ⟨_, rfl, ?_⟩))
     (try simp only [Exit.jump])
     go_ret
     exact ⟨by rw [← HE'.out]; first | rfl | (simp; done), bAt HB.out⟩
end Go.Proofs.YtklpephnbkoinaaDoor.P
