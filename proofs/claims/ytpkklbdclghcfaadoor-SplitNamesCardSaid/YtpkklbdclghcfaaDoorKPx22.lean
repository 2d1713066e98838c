/- Part of the proof: what the theorem needs of this text. -/
import Derived.Test.YtpkklbdclghcfaaDoorKPx0
namespace Go.Proofs.YtpkklbdclghcfaaDoor.P
open Go.RowKit Go.Proofs.YtpkklbdclghcfaaDoorW.PrintWords Go.Proofs.YtpkklbdclghcfaaDoorW.PrintLast Go.Proofs.YtpkklbdclghcfaaDoorW.PrintMore
attribute [local go_sem] max2_int min2_int max_two min_two max_three min_three max_four min_four   -- for this text's walks alone
set_option linter.unusedVariables false
set_option linter.unusedSimpArgs false
def tmesislaw10_name.f (a0_0 : Int) (a0_1 : Int) (a0_2 : Int) (a0_3 : ByteArray) (a0_4 : Int) : Option (Bool) := if a0_0 = 1 then (some true) else (if a0_0 = 2 then (some true) else (some (a0_0 == 6)))
set_option maxHeartbeats 8000000 in
set_option maxRecDepth 100000 in
theorem tmesislaw10_name.calls (a0_0 : Int) (a0_1 : Int) (a0_2 : Int) (a0_3 : ByteArray) (a0_4 : Int) (r : Bool) (w : World) (h : tmesislaw10_name.f a0_0 a0_1 a0_2 a0_3 a0_4 = some r) :
  Calls Tryd.prog 20 #[.agg #[.int .i64 a0_0, .int .i64 a0_1, .int .i64 a0_2, .string a0_3, .int .i64 a0_4]] w fun e w' => e = .returned (.bool r) ∧ Below w.heap.size w w' := by
 have hu38 := Tryd.underlying38
 have HB := Aside0.mk (Below.refl w.heap.size w)
 have H : (if a0_0 = 1 then (some true) else (if a0_0 = 2 then (some true) else (some (a0_0 == 6)))) = some r := h
 clear h
 by_cases c2 : a0_0 = 1
 ·rw [if_pos c2] at H
  have c2b0 : (a0_0 == 1) = true := beq_iff_eq.mpr c2
  have c2b1 : (a0_0 != 1) = false := bne_eq_false_iff_eq.mpr c2
  clear c2
  obtain rfl := Option.some.inj H
  go_enter Tryd.func20, Tryd.ntmps20
  go_wp2_with (first | ((with_reducible refine gate_dst (N := 1) rfl ?_); refine box_event ?hg (N := 1) ?hd (cs := #[.int .i64 a0_0, .int .i64 a0_1, .int .i64 a0_2, .string a0_3, .int .i64 a0_4]) (t := 38) ?hr ?_; (case hd => rfl); (case hg => rfl); (case hr => first | (go_simp; done) | (go_simp; rfl)); intro gb564 hg w3 hbox hb; have n0_ := Aside0.mk (below_step (bAt HB.out) hb); have n1_ := Aside0.mk (hbox); have n2_ := Aside0.mk ((by rw [hg]; exact (below_size (bAt HB.out)) : w.heap.size ≤ gb564)); have n3_ := Aside0.mk ((by rw [hg]; exact (below_size (bAt HB.out)) : w.heap.size ≤ gb564)); clear HB; have HB := n0_; have BK564 := n1_; have GW564 := n2_; have GE564 := n3_; clear n0_ n1_ n2_ n3_; clear hb hbox hg; have hcz4_0 : w3.cell? ⟨gb564, 0, none⟩ = some (.int .i64 a0_0) := (blk_cell BK564.out 0).trans rfl; have hcz4_1 : w3.cell? ⟨gb564, 1, none⟩ = some (.int .i64 a0_1) := (blk_cell BK564.out 1).trans rfl; have hcz4_2 : w3.cell? ⟨gb564, 2, none⟩ = some (.int .i64 a0_2) := (blk_cell BK564.out 2).trans rfl; have hcz4_3 : w3.cell? ⟨gb564, 3, none⟩ = some (.string a0_3) := (blk_cell BK564.out 3).trans rfl; have hcz4_4 : w3.cell? ⟨gb564, 4, none⟩ = some (.int .i64 a0_4) := (blk_cell BK564.out 4).trans rfl; have hfz4_0 := blk_frozen BK564.out 0; have hfz4_1 := blk_frozen BK564.out 1; have hfz4_2 := blk_frozen BK564.out 2; have hfz4_3 := blk_frozen BK564.out 3; have hfz4_4 := blk_frozen BK564.out 4))
  go_ret
  exact ⟨eR, bAt HB.out⟩
 ·rw [if_neg c2] at H
  have c2b0 : (a0_0 == 1) = false := beq_eq_false_iff_ne.mpr c2
  have c2b1 : (a0_0 != 1) = true := bne_iff_ne.mpr c2
  by_cases c5 : a0_0 = 2
  ·rw [if_pos c5] at H
   have c5b0 : (a0_0 == 2) = true := beq_iff_eq.mpr c5
   have c5b1 : (a0_0 != 2) = false := bne_eq_false_iff_eq.mpr c5
   clear c5
   obtain rfl := Option.some.inj H
   go_enter Tryd.func20, Tryd.ntmps20
   go_wp2_with (first | ((with_reducible refine gate_dst (N := 1) rfl ?_); refine box_event ?hg (N := 1) ?hd (cs := #[.int .i64 a0_0, .int .i64 a0_1, .int .i64 a0_2, .string a0_3, .int .i64 a0_4]) (t := 38) ?hr ?_; (case hd => rfl); (case hg => rfl); (case hr => first | (go_simp; done) | (go_simp; rfl)); intro gb564 hg w6 hbox hb; have n0_ := Aside0.mk (below_step (bAt HB.out) hb); have n1_ := Aside0.mk (hbox); have n2_ := Aside0.mk ((by rw [hg]; exact (below_size (bAt HB.out)) : w.heap.size ≤ gb564)); have n3_ := Aside0.mk ((by rw [hg]; exact (below_size (bAt HB.out)) : w.heap.size ≤ gb564)); clear HB; have HB := n0_; have BK564 := n1_; have GW564 := n2_; have GE564 := n3_; clear n0_ n1_ n2_ n3_; clear hb hbox hg; have hcz7_0 : w6.cell? ⟨gb564, 0, none⟩ = some (.int .i64 a0_0) := (blk_cell BK564.out 0).trans rfl; have hcz7_1 : w6.cell? ⟨gb564, 1, none⟩ = some (.int .i64 a0_1) := (blk_cell BK564.out 1).trans rfl; have hcz7_2 : w6.cell? ⟨gb564, 2, none⟩ = some (.int .i64 a0_2) := (blk_cell BK564.out 2).trans rfl; have hcz7_3 : w6.cell? ⟨gb564, 3, none⟩ = some (.string a0_3) := (blk_cell BK564.out 3).trans rfl; have hcz7_4 : w6.cell? ⟨gb564, 4, none⟩ = some (.int .i64 a0_4) := (blk_cell BK564.out 4).trans rfl; have hfz7_0 := blk_frozen BK564.out 0; have hfz7_1 := blk_frozen BK564.out 1; have hfz7_2 := blk_frozen BK564.out 2; have hfz7_3 := blk_frozen BK564.out 3; have hfz7_4 := blk_frozen BK564.out 4))
   go_ret
   exact ⟨eR, bAt HB.out⟩
  ·rw [if_neg c5] at H
   have c5b0 : (a0_0 == 2) = false := beq_eq_false_iff_ne.mpr c5
   have c5b1 : (a0_0 != 2) = true := bne_iff_ne.mpr c5
   obtain rfl := Option.some.inj H
   go_enter Tryd.func20, Tryd.ntmps20
   go_wp2_with (first | ((with_reducible refine gate_dst (N := 1) rfl ?_); refine box_event ?hg (N := 1) ?hd (cs := #[.int .i64 a0_0, .int .i64 a0_1, .int .i64 a0_2, .string a0_3, .int .i64 a0_4]) (t := 38) ?hr ?_; (case hd => rfl); (case hg => rfl); (case hr => first | (go_simp; done) | (go_simp; rfl)); intro gb564 hg w8 hbox hb; have n0_ := Aside0.mk (below_step (bAt HB.out) hb); have n1_ := Aside0.mk (hbox); have n2_ := Aside0.mk ((by rw [hg]; exact (below_size (bAt HB.out)) : w.heap.size ≤ gb564)); have n3_ := Aside0.mk ((by rw [hg]; exact (below_size (bAt HB.out)) : w.heap.size ≤ gb564)); clear HB; have HB := n0_; have BK564 := n1_; have GW564 := n2_; have GE564 := n3_; clear n0_ n1_ n2_ n3_; clear hb hbox hg; have hcz9_0 : w8.cell? ⟨gb564, 0, none⟩ = some (.int .i64 a0_0) := (blk_cell BK564.out 0).trans rfl; have hcz9_1 : w8.cell? ⟨gb564, 1, none⟩ = some (.int .i64 a0_1) := (blk_cell BK564.out 1).trans rfl; have hcz9_2 : w8.cell? ⟨gb564, 2, none⟩ = some (.int .i64 a0_2) := (blk_cell BK564.out 2).trans rfl; have hcz9_3 : w8.cell? ⟨gb564, 3, none⟩ = some (.string a0_3) := (blk_cell BK564.out 3).trans rfl; have hcz9_4 : w8.cell? ⟨gb564, 4, none⟩ = some (.int .i64 a0_4) := (blk_cell BK564.out 4).trans rfl; have hfz9_0 := blk_frozen BK564.out 0; have hfz9_1 := blk_frozen BK564.out 1; have hfz9_2 := blk_frozen BK564.out 2; have hfz9_3 := blk_frozen BK564.out 3; have hfz9_4 := blk_frozen BK564.out 4))
   go_ret
   exact ⟨eR, bAt HB.out⟩
end Go.Proofs.YtpkklbdclghcfaaDoor.P
