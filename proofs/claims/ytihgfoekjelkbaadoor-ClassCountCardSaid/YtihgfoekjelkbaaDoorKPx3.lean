/- Part of the proof: what the theorem needs of this text. -/
import Derived.Test.YtihgfoekjelkbaaDoorKHG
import Derived.Test.YtihgfoekjelkbaaDoorKPx0
import Derived.Test.YtihgfoekjelkbaaDoorKPx1
import Derived.Test.YtihgfoekjelkbaaDoorKPx2
namespace Go.Proofs.YtihgfoekjelkbaaDoor.P
open Go.RowKit Go.Proofs.YtihgfoekjelkbaaDoorW.PrintWords Go.Proofs.YtihgfoekjelkbaaDoorW.PrintLast Go.Proofs.YtihgfoekjelkbaaDoorW.PrintMore
attribute [local go_sem] max2_int min2_int max_two min_two max_three min_three max_four min_four   -- for this text's walks alone
set_option linter.unusedVariables false
set_option linter.unusedSimpArgs false
attribute [local go_sem high] eqA30
mutual
def tmesislaw02_ClassCount.l0 : Nat → Int → Int → Int → Bool → Int → Int → Int → Int → Int → Int → Int → Int → Int → Int → Int → Option (Bool)
 | 0, _, _, _, _, _, _, _, _, _, _, _, _, _, _, _ => none
 | k + 1, x0, x1, x2, x7, x9, x112000, x112001, x112002, x112003, x112004, x112005, x112006, x112007, x112008, x112009 => if x9 < 256 then ((class_Of.f ((x9) % 256)).bind fun t112 => (if t112 < 0 then (some false) else (if t112 > 9 then (some false) else (if t112 = 0 then (tmesislaw02_ClassCount.l0 k x0 x1 x2 x7 (wrap64 (x9 + 1)) (wrap64 (x112000 + 1)) x112001 x112002 x112003 x112004 x112005 x112006 x112007 x112008 x112009) else (if t112 = 1 then (tmesislaw02_ClassCount.l0 k x0 x1 x2 x7 (wrap64 (x9 + 1)) x112000 (wrap64 (x112001 + 1)) x112002 x112003 x112004 x112005 x112006 x112007 x112008 x112009) else (if t112 = 2 then (tmesislaw02_ClassCount.l0 k x0 x1 x2 x7 (wrap64 (x9 + 1)) x112000 x112001 (wrap64 (x112002 + 1)) x112003 x112004 x112005 x112006 x112007 x112008 x112009) else (if t112 = 3 then (tmesislaw02_ClassCount.l0 k x0 x1 x2 x7 (wrap64 (x9 + 1)) x112000 x112001 x112002 (wrap64 (x112003 + 1)) x112004 x112005 x112006 x112007 x112008 x112009) else (if t112 = 4 then (tmesislaw02_ClassCount.l0 k x0 x1 x2 x7 (wrap64 (x9 + 1)) x112000 x112001 x112002 x112003 (wrap64 (x112004 + 1)) x112005 x112006 x112007 x112008 x112009) else (if t112 = 5 then (tmesislaw02_ClassCount.l0 k x0 x1 x2 x7 (wrap64 (x9 + 1)) x112000 x112001 x112002 x112003 x112004 (wrap64 (x112005 + 1)) x112006 x112007 x112008 x112009) else (if t112 = 6 then (tmesislaw02_ClassCount.l0 k x0 x1 x2 x7 (wrap64 (x9 + 1)) x112000 x112001 x112002 x112003 x112004 x112005 (wrap64 (x112006 + 1)) x112007 x112008 x112009) else (if t112 = 7 then (tmesislaw02_ClassCount.l0 k x0 x1 x2 x7 (wrap64 (x9 + 1)) x112000 x112001 x112002 x112003 x112004 x112005 x112006 (wrap64 (x112007 + 1)) x112008 x112009) else (if t112 = 8 then (tmesislaw02_ClassCount.l0 k x0 x1 x2 x7 (wrap64 (x9 + 1)) x112000 x112001 x112002 x112003 x112004 x112005 x112006 x112007 (wrap64 (x112008 + 1)) x112009) else (if t112 = 9 then (tmesislaw02_ClassCount.l0 k x0 x1 x2 x7 (wrap64 (x9 + 1)) x112000 x112001 x112002 x112003 x112004 x112005 x112006 x112007 x112008 (wrap64 (x112009 + 1))) else (none)))))))))))))) else (if 0 ≤ (Int.tmod (wrap64 (x1)) 64) then (if (Int.tmod (wrap64 (x1)) 64 : Int).toNat ≤ 281474976710656 then (tmesislaw02_ClassCount.l1 k x0 x2 x7 (List.replicate (Int.tmod (wrap64 (x1)) 64 : Int).toNat 0) 0 x112000 x112001 x112002 x112003 x112004 x112005 x112006 x112007 x112008 x112009) else (none)) else (none))
def tmesislaw02_ClassCount.l1 : Nat → Int → Int → Bool → List Int → Int → Int → Int → Int → Int → Int → Int → Int → Int → Int → Int → Option (Bool)
 | 0, _, _, _, _, _, _, _, _, _, _, _, _, _, _, _ => none
 | k + 1, x0, x2, x7, x11, x12, x112000, x112001, x112002, x112003, x112004, x112005, x112006, x112007, x112008, x112009 => if x12 < (x11.length : Int) then (if 0 ≤ x12 then (tmesislaw02_ClassCount.l1 k x0 x2 x7 (x11.set (x12 : Int).toNat x0) (wrap64 (x12 + 1)) x112000 x112001 x112002 x112003 x112004 x112005 x112006 x112007 x112008 x112009) else (none)) else ((class_Of.f x0).bind fun t117 => (if t117 = (wrap64 (Int.tmod x2 10)) then (if x7 = true then (if (x112000 == 32 && (x112001 == 4 && (x112002 == 26 && (x112003 == 27 && (x112004 == 10 && (x112005 == 18 && (x112006 == 9 && (x112007 == 1 && (x112008 == 1 && (x112009 == 128)))))))))) = true then ((class_Run.f k x11 (wrap64 (Int.tmod x2 10))).bind fun t118 => (if t118 = (x11.length : Int) then (some (x112006 == 9)) else (some false))) else (some false)) else (some false)) else (if x7 = true then (if (x112000 == 32 && (x112001 == 4 && (x112002 == 26 && (x112003 == 27 && (x112004 == 10 && (x112005 == 18 && (x112006 == 9 && (x112007 == 1 && (x112008 == 1 && (x112009 == 128)))))))))) = true then ((class_Run.f k x11 (wrap64 (Int.tmod x2 10))).bind fun t119 => (if t119 = 0 then (some (x112006 == 9)) else (some false))) else (some false)) else (some false))))
end
def tmesislaw02_ClassCount.f (k : Nat) (a0 : Int) (a1 : Int) (a2 : Int) : Option (Bool) := (tmesislaw02_shown.f k).bind fun t110 => (tmesislaw02_ClassCount.l0 k a0 a1 a2 t110 0 0 0 0 0 0 0 0 0 0 0)
theorem tmesislaw02_ClassCount.mono_l : ∀ k, (∀ y0 y1 y2 y3 y4 y5 y6 y7 y8 y9 y10 y11 y12 y13 y14, LeO (tmesislaw02_ClassCount.l0 k y0 y1 y2 y3 y4 y5 y6 y7 y8 y9 y10 y11 y12 y13 y14) (tmesislaw02_ClassCount.l0 (k + 1) y0 y1 y2 y3 y4 y5 y6 y7 y8 y9 y10 y11 y12 y13 y14)) ∧ (∀ y0 y1 y2 y3 y4 y5 y6 y7 y8 y9 y10 y11 y12 y13 y14, LeO (tmesislaw02_ClassCount.l1 k y0 y1 y2 y3 y4 y5 y6 y7 y8 y9 y10 y11 y12 y13 y14) (tmesislaw02_ClassCount.l1 (k + 1) y0 y1 y2 y3 y4 y5 y6 y7 y8 y9 y10 y11 y12 y13 y14))
 | 0 => ⟨fun _ _ _ _ _ _ _ _ _ _ _ _ _ _ _ r h => by simp [tmesislaw02_ClassCount.l0] at h, fun _ _ _ _ _ _ _ _ _ _ _ _ _ _ _ r h => by simp [tmesislaw02_ClassCount.l1] at h⟩
 | k + 1 => by
  obtain ⟨ih0, ih1⟩ := tmesislaw02_ClassCount.mono_l k
  refine ⟨?_, ?_⟩
  ·intro y0 y1 y2 y3 y4 y5 y6 y7 y8 y9 y10 y11 y12 y13 y14
   unfold tmesislaw02_ClassCount.l0
   repeat' first
   | (with_reducible exact ih0 _ _ _ _ _ _ _ _ _ _ _ _ _ _ _)
   | (with_reducible exact ih1 _ _ _ _ _ _ _ _ _ _ _ _ _ _ _)
   | (with_reducible exact class_Run.mono _ _ _)
   | (with_reducible exact tmesislaw02_shown.mono _)
   | (with_reducible exact LeO.refl _)
   | (with_reducible exact LeO.none _)
   | (with_reducible refine LeO.ite ?_ ?_)
   | (with_reducible refine LeO.bind ?_ (fun _ => ?_))
   | exact ih0 _ _ _ _ _ _ _ _ _ _ _ _ _ _ _
   | exact ih1 _ _ _ _ _ _ _ _ _ _ _ _ _ _ _
   | exact class_Run.mono _ _ _
   | exact tmesislaw02_shown.mono _
   | exact LeO.none _
   | refine LeO.ite ?_ ?_
   | refine LeO.bind ?_ (fun _ => ?_)
  ·intro y0 y1 y2 y3 y4 y5 y6 y7 y8 y9 y10 y11 y12 y13 y14
   unfold tmesislaw02_ClassCount.l1
   repeat' first
   | (with_reducible exact ih0 _ _ _ _ _ _ _ _ _ _ _ _ _ _ _)
   | (with_reducible exact ih1 _ _ _ _ _ _ _ _ _ _ _ _ _ _ _)
   | (with_reducible exact class_Run.mono _ _ _)
   | (with_reducible exact tmesislaw02_shown.mono _)
   | (with_reducible exact LeO.refl _)
   | (with_reducible exact LeO.none _)
   | (with_reducible refine LeO.ite ?_ ?_)
   | (with_reducible refine LeO.bind ?_ (fun _ => ?_))
   | exact ih0 _ _ _ _ _ _ _ _ _ _ _ _ _ _ _
   | exact ih1 _ _ _ _ _ _ _ _ _ _ _ _ _ _ _
   | exact class_Run.mono _ _ _
   | exact tmesislaw02_shown.mono _
   | exact LeO.none _
   | refine LeO.ite ?_ ?_
   | refine LeO.bind ?_ (fun _ => ?_)
theorem tmesislaw02_ClassCount.mono : ∀ a0 a1 a2 k, LeO (tmesislaw02_ClassCount.f k a0 a1 a2) (tmesislaw02_ClassCount.f (k + 1) a0 a1 a2) := by
 intro a0 a1 a2 k
 obtain ⟨ih0, ih1⟩ := tmesislaw02_ClassCount.mono_l k
 unfold tmesislaw02_ClassCount.f
 repeat' first
   | (with_reducible exact ih0 _ _ _ _ _ _ _ _ _ _ _ _ _ _ _)
   | (with_reducible exact ih1 _ _ _ _ _ _ _ _ _ _ _ _ _ _ _)
   | (with_reducible exact class_Run.mono _ _ _)
   | (with_reducible exact tmesislaw02_shown.mono _)
   | (with_reducible exact LeO.refl _)
   | (with_reducible exact LeO.none _)
   | (with_reducible refine LeO.ite ?_ ?_)
   | (with_reducible refine LeO.bind ?_ (fun _ => ?_))
   | exact ih0 _ _ _ _ _ _ _ _ _ _ _ _ _ _ _
   | exact ih1 _ _ _ _ _ _ _ _ _ _ _ _ _ _ _
   | exact class_Run.mono _ _ _
   | exact tmesislaw02_shown.mono _
   | exact LeO.none _
   | refine LeO.ite ?_ ?_
   | refine LeO.bind ?_ (fun _ => ?_)
set_option maxHeartbeats 8000000 in
set_option maxRecDepth 100000 in
theorem tmesislaw02_ClassCount.calls (k : Nat) (a0 : Int) (a1 : Int) (a2 : Int) (r : Bool) (w : World) (hG : Gl w) (h : tmesislaw02_ClassCount.f k a0 a1 a2 = some r) :
  Calls Tryd.prog 6 #[.int .u8 a0, .int .u8 a1, .int .u8 a2] w fun e w' => e = .returned (.bool r) ∧ Below w.heap.size w w' := by
 have hu30 := Tryd.underlying30
 have HB := Aside0.mk (Below.refl w.heap.size w)
 have HG := Aside0.mk hG
 clear hG
 have H : ((tmesislaw02_shown.f k).bind fun t110 => (tmesislaw02_ClassCount.l0 k a0 a1 a2 t110 0 0 0 0 0 0 0 0 0 0 0)) = some r := h
 clear h
 replace H := Option.bind_eq_some_iff.mp H
 obtain ⟨t110, A40, H⟩ := H
 replace H : (tmesislaw02_ClassCount.l0 k a0 a1 a2 t110 0 0 0 0 0 0 0 0 0 0 0) = some r := H
 have A4 := Aside0.mk A40
 clear A40
 have H' := Aside0.mk H
 clear H
 go_enter Tryd.func6, Tryd.ntmps6
 go_wp2_with (first | ((with_reducible refine gate_callee (f := 7) rfl ?_); refine goesL_ (some 14) rfl rfl Tryd.func7 (by kernel_rfl) rfl #[] rfl (by (try simp only [List.map_toArray, List.map_cons, List.map_nil]); first | done | rfl | (simp only [List.length_drop, List.length_take]; rfl)) ?_; (with_reducible refine (tmesislaw02_shown.calls k  t110 _ ?side1 A4.out).mono ?_); (case side1 => exact Gl.below HG.out (by repeat (first | (with_reducible first | exact HB.out | apply below_alloc | apply pw_below_drewN | apply below_drew1) | exact HB.out))); rintro e w5 ⟨rfl, hb⟩; refine ⟨_, rfl, ?_⟩; have n0_ := Aside0.mk (below_step (by repeat (first | (with_reducible first | exact HB.out | apply below_alloc | apply pw_below_drewN | apply below_drew1) | exact HB.out)) hb); clear HB; have HB := n0_; clear n0_; (try clear hb); (try clear hb2); (try clear hk); (try clear hi)) | ((with_reducible refine gate_dst (N := 8) rfl ?_); refine box_event ?hg (N := 8) ?hd (cs := #[.int .i64 0, .int .i64 0, .int .i64 0, .int .i64 0, .int .i64 0, .int .i64 0, .int .i64 0, .int .i64 0, .int .i64 0, .int .i64 0]) (t := 30) ?hr ?_; (case hd => rfl); (case hg => rfl); (case hr => first | (go_simp; done) | (go_simp; rfl)); intro gb111 hg w6 hbox hb; have n0_ := Aside0.mk (below_step (by repeat (first | (with_reducible first | exact HB.out | apply below_alloc | apply pw_below_drewN | apply below_drew1) | exact HB.out)) hb); have n1_ := Aside0.mk (hbox); have n2_ := Aside0.mk ((by rw [hg]; exact (below_size (by repeat (first | (with_reducible first | exact HB.out | apply below_alloc | apply pw_below_drewN | apply below_drew1) | exact HB.out))) : w.heap.size ≤ gb111)); have n3_ := Aside0.mk ((by rw [hg]; exact (below_size (by repeat (first | (with_reducible first | exact HB.out | apply below_alloc | apply pw_below_drewN | apply below_drew1) | exact HB.out))) : w.heap.size ≤ gb111)); clear HB; have HB := n0_; have BK111 := n1_; have GW111 := n2_; have GE111 := n3_; clear n0_ n1_ n2_ n3_; clear hb hbox hg; have hcz7_0 : w6.cell? ⟨gb111, 0, none⟩ = some (.int .i64 0) := (blk_cell BK111.out 0).trans rfl; have hcz7_1 : w6.cell? ⟨gb111, 1, none⟩ = some (.int .i64 0) := (blk_cell BK111.out 1).trans rfl; have hcz7_2 : w6.cell? ⟨gb111, 2, none⟩ = some (.int .i64 0) := (blk_cell BK111.out 2).trans rfl; have hcz7_3 : w6.cell? ⟨gb111, 3, none⟩ = some (.int .i64 0) := (blk_cell BK111.out 3).trans rfl; have hcz7_4 : w6.cell? ⟨gb111, 4, none⟩ = some (.int .i64 0) := (blk_cell BK111.out 4).trans rfl; have hcz7_5 : w6.cell? ⟨gb111, 5, none⟩ = some (.int .i64 0) := (blk_cell BK111.out 5).trans rfl; have hcz7_6 : w6.cell? ⟨gb111, 6, none⟩ = some (.int .i64 0) := (blk_cell BK111.out 6).trans rfl; have hcz7_7 : w6.cell? ⟨gb111, 7, none⟩ = some (.int .i64 0) := (blk_cell BK111.out 7).trans rfl; have hcz7_8 : w6.cell? ⟨gb111, 8, none⟩ = some (.int .i64 0) := (blk_cell BK111.out 8).trans rfl; have hcz7_9 : w6.cell? ⟨gb111, 9, none⟩ = some (.int .i64 0) := (blk_cell BK111.out 9).trans rfl; have hfz7_0 := blk_frozen BK111.out 0; have hfz7_1 := blk_frozen BK111.out 1; have hfz7_2 := blk_frozen BK111.out 2; have hfz7_3 := blk_frozen BK111.out 3; have hfz7_4 := blk_frozen BK111.out 4; have hfz7_5 := blk_frozen BK111.out 5; have hfz7_6 := blk_frozen BK111.out 6; have hfz7_7 := blk_frozen BK111.out 7; have hfz7_8 := blk_frozen BK111.out 8; have hfz7_9 := blk_frozen BK111.out 9))
 go_loopg [9] k (fun kq v9 w' => ∃ (x9_1 : Int) (x112000_1 : Int) (x112001_1 : Int) (x112002_1 : Int) (x112003_1 : Int) (x112004_1 : Int) (x112005_1 : Int) (x112006_1 : Int) (x112007_1 : Int) (x112008_1 : Int) (x112009_1 : Int), v9 = .int .i64 x9_1 ∧ Aside0 (tmesislaw02_ClassCount.l0 kq a0 a1 a2 t110 x9_1 x112000_1 x112001_1 x112002_1 x112003_1 x112004_1 x112005_1 x112006_1 x112007_1 x112008_1 x112009_1 = some r) ∧ Aside0 (kq ≤ k) ∧ Aside0 (w'.heap[gb111]? = some (.cells #[.int .i64 x112000_1, .int .i64 x112001_1, .int .i64 x112002_1, .int .i64 x112003_1, .int .i64 x112004_1, .int .i64 x112005_1, .int .i64 x112006_1, .int .i64 x112007_1, .int .i64 x112008_1, .int .i64 x112009_1] 30 (0, 0))) ∧ Aside0 (Below w.heap.size w w'))
 case atStart => exact ⟨(0), (0), (0), (0), (0), (0), (0), (0), (0), (0), (0), (by first | rfl | (simp; done) | (simp [*]; done)), H', ⟨Nat.le_refl _⟩, ⟨by (with_reducible repeat (first | refine blk_drewN ?_ _ | refine blk_drew ?_ | refine blk_alloc ?_ _)); refine blk_put (cs := #[.int .i64 0, .int .i64 0, .int .i64 0, .int .i64 0, .int .i64 0, .int .i64 0, .int .i64 0, .int .i64 0, .int .i64 0, .int .i64 0]) ?_ 9 _ rfl; (with_reducible repeat (first | refine blk_drewN ?_ _ | refine blk_drew ?_ | refine blk_alloc ?_ _)); refine blk_put (cs := #[.int .i64 0, .int .i64 0, .int .i64 0, .int .i64 0, .int .i64 0, .int .i64 0, .int .i64 0, .int .i64 0, .int .i64 0, .int .i64 0]) ?_ 8 _ rfl; (with_reducible repeat (first | refine blk_drewN ?_ _ | refine blk_drew ?_ | refine blk_alloc ?_ _)); refine blk_put (cs := #[.int .i64 0, .int .i64 0, .int .i64 0, .int .i64 0, .int .i64 0, .int .i64 0, .int .i64 0, .int .i64 0, .int .i64 0, .int .i64 0]) ?_ 7 _ rfl; (with_reducible repeat (first | refine blk_drewN ?_ _ | refine blk_drew ?_ | refine blk_alloc ?_ _)); refine blk_put (cs := #[.int .i64 0, .int .i64 0, .int .i64 0, .int .i64 0, .int .i64 0, .int .i64 0, .int .i64 0, .int .i64 0, .int .i64 0, .int .i64 0]) ?_ 6 _ rfl; (with_reducible repeat (first | refine blk_drewN ?_ _ | refine blk_drew ?_ | refine blk_alloc ?_ _)); refine blk_put (cs := #[.int .i64 0, .int .i64 0, .int .i64 0, .int .i64 0, .int .i64 0, .int .i64 0, .int .i64 0, .int .i64 0, .int .i64 0, .int .i64 0]) ?_ 5 _ rfl; (with_reducible repeat (first | refine blk_drewN ?_ _ | refine blk_drew ?_ | refine blk_alloc ?_ _)); refine blk_put (cs := #[.int .i64 0, .int .i64 0, .int .i64 0, .int .i64 0, .int .i64 0, .int .i64 0, .int .i64 0, .int .i64 0, .int .i64 0, .int .i64 0]) ?_ 4 _ rfl; (with_reducible repeat (first | refine blk_drewN ?_ _ | refine blk_drew ?_ | refine blk_alloc ?_ _)); refine blk_put (cs := #[.int .i64 0, .int .i64 0, .int .i64 0, .int .i64 0, .int .i64 0, .int .i64 0, .int .i64 0, .int .i64 0, .int .i64 0, .int .i64 0]) ?_ 3 _ rfl; (with_reducible repeat (first | refine blk_drewN ?_ _ | refine blk_drew ?_ | refine blk_alloc ?_ _)); refine blk_put (cs := #[.int .i64 0, .int .i64 0, .int .i64 0, .int .i64 0, .int .i64 0, .int .i64 0, .int .i64 0, .int .i64 0, .int .i64 0, .int .i64 0]) ?_ 2 _ rfl; (with_reducible repeat (first | refine blk_drewN ?_ _ | refine blk_drew ?_ | refine blk_alloc ?_ _)); refine blk_put (cs := #[.int .i64 0, .int .i64 0, .int .i64 0, .int .i64 0, .int .i64 0, .int .i64 0, .int .i64 0, .int .i64 0, .int .i64 0, .int .i64 0]) ?_ 1 _ rfl; (with_reducible repeat (first | refine blk_drewN ?_ _ | refine blk_drew ?_ | refine blk_alloc ?_ _)); refine blk_put (cs := #[.int .i64 0, .int .i64 0, .int .i64 0, .int .i64 0, .int .i64 0, .int .i64 0, .int .i64 0, .int .i64 0, .int .i64 0, .int .i64 0]) ?_ 0 _ rfl; (with_reducible repeat (first | refine blk_drewN ?_ _ | refine blk_drew ?_ | refine blk_alloc ?_ _)); exact BK111.out⟩, ⟨by repeat (first | (with_reducible first | exact HB.out | apply below_alloc | apply pw_below_drewN | apply below_drew1 | refine below_set ?_ GE111.out) | exact HB.out)⟩⟩
 case round =>
  clear H'
  try clear p2
  try clear c6
  try clear c7
  try clear hcz7_0
  try clear hcz7_1
  try clear hcz7_2
  try clear hcz7_3
  try clear hcz7_4
  try clear hcz7_5
  try clear hcz7_6
  try clear hcz7_7
  try clear hcz7_8
  try clear hcz7_9
  try clear hfz7_0
  try clear hfz7_1
  try clear hfz7_2
  try clear hfz7_3
  try clear hfz7_4
  try clear hfz7_5
  try clear hfz7_6
  try clear hfz7_7
  try clear hfz7_8
  try clear hfz7_9
  obtain ⟨x9_1, x112000_1, x112001_1, x112002_1, x112003_1, x112004_1, x112005_1, x112006_1, x112007_1, x112008_1, x112009_1, rfl, HA, HK1, BK111, HB⟩ := hrel
  cases gk with
  | zero => exact absurd HA.out (by simp [tmesislaw02_ClassCount.l0])
  | succ k1 =>
   have H := HA.out
   clear HA
   simp only [tmesislaw02_ClassCount.l0] at H
   by_cases c8 : x9_1 < 256
   ·rw [if_pos c8] at H
    have c8b0 : decide (x9_1 < 256) = true := decide_eq_true c8
    clear c8
    replace H := Option.bind_eq_some_iff.mp H
    obtain ⟨t112, A90, H⟩ := H
    replace H : (if t112 < 0 then (some false) else (if t112 > 9 then (some false) else (if t112 = 0 then (tmesislaw02_ClassCount.l0 k1 a0 a1 a2 t110 (wrap64 (x9_1 + 1)) (wrap64 (x112000_1 + 1)) x112001_1 x112002_1 x112003_1 x112004_1 x112005_1 x112006_1 x112007_1 x112008_1 x112009_1) else (if t112 = 1 then (tmesislaw02_ClassCount.l0 k1 a0 a1 a2 t110 (wrap64 (x9_1 + 1)) x112000_1 (wrap64 (x112001_1 + 1)) x112002_1 x112003_1 x112004_1 x112005_1 x112006_1 x112007_1 x112008_1 x112009_1) else (if t112 = 2 then (tmesislaw02_ClassCount.l0 k1 a0 a1 a2 t110 (wrap64 (x9_1 + 1)) x112000_1 x112001_1 (wrap64 (x112002_1 + 1)) x112003_1 x112004_1 x112005_1 x112006_1 x112007_1 x112008_1 x112009_1) else (if t112 = 3 then (tmesislaw02_ClassCount.l0 k1 a0 a1 a2 t110 (wrap64 (x9_1 + 1)) x112000_1 x112001_1 x112002_1 (wrap64 (x112003_1 + 1)) x112004_1 x112005_1 x112006_1 x112007_1 x112008_1 x112009_1) else (if t112 = 4 then (tmesislaw02_ClassCount.l0 k1 a0 a1 a2 t110 (wrap64 (x9_1 + 1)) x112000_1 x112001_1 x112002_1 x112003_1 (wrap64 (x112004_1 + 1)) x112005_1 x112006_1 x112007_1 x112008_1 x112009_1) else (if t112 = 5 then (tmesislaw02_ClassCount.l0 k1 a0 a1 a2 t110 (wrap64 (x9_1 + 1)) x112000_1 x112001_1 x112002_1 x112003_1 x112004_1 (wrap64 (x112005_1 + 1)) x112006_1 x112007_1 x112008_1 x112009_1) else (if t112 = 6 then (tmesislaw02_ClassCount.l0 k1 a0 a1 a2 t110 (wrap64 (x9_1 + 1)) x112000_1 x112001_1 x112002_1 x112003_1 x112004_1 x112005_1 (wrap64 (x112006_1 + 1)) x112007_1 x112008_1 x112009_1) else (if t112 = 7 then (tmesislaw02_ClassCount.l0 k1 a0 a1 a2 t110 (wrap64 (x9_1 + 1)) x112000_1 x112001_1 x112002_1 x112003_1 x112004_1 x112005_1 x112006_1 (wrap64 (x112007_1 + 1)) x112008_1 x112009_1) else (if t112 = 8 then (tmesislaw02_ClassCount.l0 k1 a0 a1 a2 t110 (wrap64 (x9_1 + 1)) x112000_1 x112001_1 x112002_1 x112003_1 x112004_1 x112005_1 x112006_1 x112007_1 (wrap64 (x112008_1 + 1)) x112009_1) else (if t112 = 9 then (tmesislaw02_ClassCount.l0 k1 a0 a1 a2 t110 (wrap64 (x9_1 + 1)) x112000_1 x112001_1 x112002_1 x112003_1 x112004_1 x112005_1 x112006_1 x112007_1 x112008_1 (wrap64 (x112009_1 + 1))) else (none))))))))))))) = some r := H
    have A9 := Aside0.mk A90
    clear A90
    by_cases c10 : t112 < 0
    ·rw [if_pos c10] at H
     have c10b0 : decide (t112 < 0) = true := decide_eq_true c10
     clear c10
     obtain rfl := Option.some.inj H
     go_wp2_with (first | ((with_reducible refine gate_callee (f := 8) rfl ?_); refine goesL_ (some 22) rfl rfl Tryd.func8 (by kernel_rfl) rfl #[.int .u8 ((x9_1) % 256)] rfl (by (try simp only [List.map_toArray, List.map_cons, List.map_nil]); first | done | rfl | (simp only [List.length_drop, List.length_take]; rfl)) ?_; (with_reducible refine (class_Of.calls ((x9_1) % 256) t112 _ ?side1 A9.out).mono ?_); (case side1 => exact Gl.below HG.out (by repeat (first | (with_reducible first | exact HB.out | apply below_alloc | apply pw_below_drewN | apply below_drew1 | refine below_set ?_ GE111.out) | exact HB.out))); rintro e w11 ⟨rfl, hb⟩; refine ⟨_, rfl, ?_⟩; have n0_ := Aside0.mk (blk_below (g := gb111) (o := .cells #[.int .i64 x112000_1, .int .i64 x112001_1, .int .i64 x112002_1, .int .i64 x112003_1, .int .i64 x112004_1, .int .i64 x112005_1, .int .i64 x112006_1, .int .i64 x112007_1, .int .i64 x112008_1, .int .i64 x112009_1] 30 (0, 0)) (by (with_reducible repeat (first | refine blk_drewN ?_ _ | refine blk_drew ?_ | refine blk_alloc ?_ _)); exact BK111.out) hb); have n1_ := Aside0.mk (below_step (by repeat (first | (with_reducible first | exact HB.out | apply below_alloc | apply pw_below_drewN | apply below_drew1 | refine below_set ?_ GE111.out) | exact HB.out)) hb); clear BK111; clear HB; have BK111 := n0_; have HB := n1_; clear n0_ n1_; (try clear hb); (try clear hb2); (try clear hk); (try clear hi)))
     go_ret
     exact ⟨by first | rfl | (simp [errW_none, errW_some] <;> rfl) | (simp [*, errW_none, errW_some] <;> rfl), by repeat (first | (with_reducible first | exact HB.out | apply below_alloc | apply pw_below_drewN | apply below_drew1 | refine below_set ?_ GE111.out) | exact HB.out)⟩
    ·rw [if_neg c10] at H
     have c10b0 : decide (t112 < 0) = false := decide_eq_false c10
     clear c10
     by_cases c12 : t112 > 9
     ·rw [if_pos c12] at H
      have c12b0 : decide (9 < t112) = true := decide_eq_true c12
      clear c12
      obtain rfl := Option.some.inj H
      go_wp2_with (first | ((with_reducible refine gate_callee (f := 8) rfl ?_); refine goesL_ (some 22) rfl rfl Tryd.func8 (by kernel_rfl) rfl #[.int .u8 ((x9_1) % 256)] rfl (by (try simp only [List.map_toArray, List.map_cons, List.map_nil]); first | done | rfl | (simp only [List.length_drop, List.length_take]; rfl)) ?_; (with_reducible refine (class_Of.calls ((x9_1) % 256) t112 _ ?side1 A9.out).mono ?_); (case side1 => exact Gl.below HG.out (by repeat (first | (with_reducible first | exact HB.out | apply below_alloc | apply pw_below_drewN | apply below_drew1 | refine below_set ?_ GE111.out) | exact HB.out))); rintro e w13 ⟨rfl, hb⟩; refine ⟨_, rfl, ?_⟩; have n0_ := Aside0.mk (blk_below (g := gb111) (o := .cells #[.int .i64 x112000_1, .int .i64 x112001_1, .int .i64 x112002_1, .int .i64 x112003_1, .int .i64 x112004_1, .int .i64 x112005_1, .int .i64 x112006_1, .int .i64 x112007_1, .int .i64 x112008_1, .int .i64 x112009_1] 30 (0, 0)) (by (with_reducible repeat (first | refine blk_drewN ?_ _ | refine blk_drew ?_ | refine blk_alloc ?_ _)); exact BK111.out) hb); have n1_ := Aside0.mk (below_step (by repeat (first | (with_reducible first | exact HB.out | apply below_alloc | apply pw_below_drewN | apply below_drew1 | refine below_set ?_ GE111.out) | exact HB.out)) hb); clear BK111; clear HB; have BK111 := n0_; have HB := n1_; clear n0_ n1_; (try clear hb); (try clear hb2); (try clear hk); (try clear hi)))
      go_ret
      exact ⟨by first | rfl | (simp [errW_none, errW_some] <;> rfl) | (simp [*, errW_none, errW_some] <;> rfl), by repeat (first | (with_reducible first | exact HB.out | apply below_alloc | apply pw_below_drewN | apply below_drew1 | refine below_set ?_ GE111.out) | exact HB.out)⟩
     ·rw [if_neg c12] at H
      have c12b0 : decide (9 < t112) = false := decide_eq_false c12
      clear c12
      by_cases c14 : t112 = 0
      ·rw [if_pos c14] at H
       have c14b0 : (t112 == 0) = true := beq_iff_eq.mpr c14
       have c14b1 : (t112 != 0) = false := bne_eq_false_iff_eq.mpr c14
       have hixc14 : t112 = 0 := c14
       clear c14
       have H' := Aside0.mk H
       clear H
       go_wp2_with (first | ((with_reducible refine gate_callee (f := 8) rfl ?_); refine goesL_ (some 22) rfl rfl Tryd.func8 (by kernel_rfl) rfl #[.int .u8 ((x9_1) % 256)] rfl (by (try simp only [List.map_toArray, List.map_cons, List.map_nil]); first | done | rfl | (simp only [List.length_drop, List.length_take]; rfl)) ?_; (with_reducible refine (class_Of.calls ((x9_1) % 256) t112 _ ?side1 A9.out).mono ?_); (case side1 => exact Gl.below HG.out (by repeat (first | (with_reducible first | exact HB.out | apply below_alloc | apply pw_below_drewN | apply below_drew1 | refine below_set ?_ GE111.out) | exact HB.out))); rintro e w15 ⟨rfl, hb⟩; refine ⟨_, rfl, ?_⟩; have n0_ := Aside0.mk (blk_below (g := gb111) (o := .cells #[.int .i64 x112000_1, .int .i64 x112001_1, .int .i64 x112002_1, .int .i64 x112003_1, .int .i64 x112004_1, .int .i64 x112005_1, .int .i64 x112006_1, .int .i64 x112007_1, .int .i64 x112008_1, .int .i64 x112009_1] 30 (0, 0)) (by (with_reducible repeat (first | refine blk_drewN ?_ _ | refine blk_drew ?_ | refine blk_alloc ?_ _)); exact BK111.out) hb); have n1_ := Aside0.mk (below_step (by repeat (first | (with_reducible first | exact HB.out | apply below_alloc | apply pw_below_drewN | apply below_drew1 | refine below_set ?_ GE111.out) | exact HB.out)) hb); clear BK111; clear HB; have BK111 := n0_; have HB := n1_; clear n0_ n1_; (try clear hb); (try clear hb2); (try clear hk); (try clear hi); have hcz16_0 : w15.cell? ⟨gb111, 0, none⟩ = some (.int .i64 x112000_1) := (blk_cell BK111.out 0).trans rfl; have hcz16_1 : w15.cell? ⟨gb111, 1, none⟩ = some (.int .i64 x112001_1) := (blk_cell BK111.out 1).trans rfl; have hcz16_2 : w15.cell? ⟨gb111, 2, none⟩ = some (.int .i64 x112002_1) := (blk_cell BK111.out 2).trans rfl; have hcz16_3 : w15.cell? ⟨gb111, 3, none⟩ = some (.int .i64 x112003_1) := (blk_cell BK111.out 3).trans rfl; have hcz16_4 : w15.cell? ⟨gb111, 4, none⟩ = some (.int .i64 x112004_1) := (blk_cell BK111.out 4).trans rfl; have hcz16_5 : w15.cell? ⟨gb111, 5, none⟩ = some (.int .i64 x112005_1) := (blk_cell BK111.out 5).trans rfl; have hcz16_6 : w15.cell? ⟨gb111, 6, none⟩ = some (.int .i64 x112006_1) := (blk_cell BK111.out 6).trans rfl; have hcz16_7 : w15.cell? ⟨gb111, 7, none⟩ = some (.int .i64 x112007_1) := (blk_cell BK111.out 7).trans rfl; have hcz16_8 : w15.cell? ⟨gb111, 8, none⟩ = some (.int .i64 x112008_1) := (blk_cell BK111.out 8).trans rfl; have hcz16_9 : w15.cell? ⟨gb111, 9, none⟩ = some (.int .i64 x112009_1) := (blk_cell BK111.out 9).trans rfl; have hfz16_0 := blk_frozen BK111.out 0; have hfz16_1 := blk_frozen BK111.out 1; have hfz16_2 := blk_frozen BK111.out 2; have hfz16_3 := blk_frozen BK111.out 3; have hfz16_4 := blk_frozen BK111.out 4; have hfz16_5 := blk_frozen BK111.out 5; have hfz16_6 := blk_frozen BK111.out 6; have hfz16_7 := blk_frozen BK111.out 7; have hfz16_8 := blk_frozen BK111.out 8; have hfz16_9 := blk_frozen BK111.out 9))
       go_roundg k1
       case measure => have := HK1.out; omega
       case rel => exact ⟨(wrap64 (x9_1 + 1)), (wrap64 (x112000_1 + 1)), (x112001_1), (x112002_1), (x112003_1), (x112004_1), (x112005_1), (x112006_1), (x112007_1), (x112008_1), (x112009_1), (by first | rfl | (simp; done) | (simp [*]; done)), H', ⟨by have := HK1.out; omega⟩, ⟨by (with_reducible repeat (first | refine blk_drewN ?_ _ | refine blk_drew ?_ | refine blk_alloc ?_ _)); refine blk_put (cs := #[.int .i64 x112000_1, .int .i64 x112001_1, .int .i64 x112002_1, .int .i64 x112003_1, .int .i64 x112004_1, .int .i64 x112005_1, .int .i64 x112006_1, .int .i64 x112007_1, .int .i64 x112008_1, .int .i64 x112009_1]) ?_ 0 _ rfl; (with_reducible repeat (first | refine blk_drewN ?_ _ | refine blk_drew ?_ | refine blk_alloc ?_ _)); exact BK111.out⟩, ⟨by repeat (first | (with_reducible first | exact HB.out | apply below_alloc | apply pw_below_drewN | apply below_drew1 | refine below_set ?_ GE111.out) | exact HB.out)⟩⟩
      ·rw [if_neg c14] at H
       have c14b0 : (t112 == 0) = false := beq_eq_false_iff_ne.mpr c14
       have c14b1 : (t112 != 0) = true := bne_iff_ne.mpr c14
       by_cases c17 : t112 = 1
       ·rw [if_pos c17] at H
        have c17b0 : (t112 == 1) = true := beq_iff_eq.mpr c17
        have c17b1 : (t112 != 1) = false := bne_eq_false_iff_eq.mpr c17
        have hixc17 : t112 = 1 := c17
        clear c17
        have H' := Aside0.mk H
        clear H
        go_wp2_with (first | ((with_reducible refine gate_callee (f := 8) rfl ?_); refine goesL_ (some 22) rfl rfl Tryd.func8 (by kernel_rfl) rfl #[.int .u8 ((x9_1) % 256)] rfl (by (try simp only [List.map_toArray, List.map_cons, List.map_nil]); first | done | rfl | (simp only [List.length_drop, List.length_take]; rfl)) ?_; (with_reducible refine (class_Of.calls ((x9_1) % 256) t112 _ ?side1 A9.out).mono ?_); (case side1 => exact Gl.below HG.out (by repeat (first | (with_reducible first | exact HB.out | apply below_alloc | apply pw_below_drewN | apply below_drew1 | refine below_set ?_ GE111.out) | exact HB.out))); rintro e w18 ⟨rfl, hb⟩; refine ⟨_, rfl, ?_⟩; have n0_ := Aside0.mk (blk_below (g := gb111) (o := .cells #[.int .i64 x112000_1, .int .i64 x112001_1, .int .i64 x112002_1, .int .i64 x112003_1, .int .i64 x112004_1, .int .i64 x112005_1, .int .i64 x112006_1, .int .i64 x112007_1, .int .i64 x112008_1, .int .i64 x112009_1] 30 (0, 0)) (by (with_reducible repeat (first | refine blk_drewN ?_ _ | refine blk_drew ?_ | refine blk_alloc ?_ _)); exact BK111.out) hb); have n1_ := Aside0.mk (below_step (by repeat (first | (with_reducible first | exact HB.out | apply below_alloc | apply pw_below_drewN | apply below_drew1 | refine below_set ?_ GE111.out) | exact HB.out)) hb); clear BK111; clear HB; have BK111 := n0_; have HB := n1_; clear n0_ n1_; (try clear hb); (try clear hb2); (try clear hk); (try clear hi); have hcz19_0 : w18.cell? ⟨gb111, 0, none⟩ = some (.int .i64 x112000_1) := (blk_cell BK111.out 0).trans rfl; have hcz19_1 : w18.cell? ⟨gb111, 1, none⟩ = some (.int .i64 x112001_1) := (blk_cell BK111.out 1).trans rfl; have hcz19_2 : w18.cell? ⟨gb111, 2, none⟩ = some (.int .i64 x112002_1) := (blk_cell BK111.out 2).trans rfl; have hcz19_3 : w18.cell? ⟨gb111, 3, none⟩ = some (.int .i64 x112003_1) := (blk_cell BK111.out 3).trans rfl; have hcz19_4 : w18.cell? ⟨gb111, 4, none⟩ = some (.int .i64 x112004_1) := (blk_cell BK111.out 4).trans rfl; have hcz19_5 : w18.cell? ⟨gb111, 5, none⟩ = some (.int .i64 x112005_1) := (blk_cell BK111.out 5).trans rfl; have hcz19_6 : w18.cell? ⟨gb111, 6, none⟩ = some (.int .i64 x112006_1) := (blk_cell BK111.out 6).trans rfl; have hcz19_7 : w18.cell? ⟨gb111, 7, none⟩ = some (.int .i64 x112007_1) := (blk_cell BK111.out 7).trans rfl; have hcz19_8 : w18.cell? ⟨gb111, 8, none⟩ = some (.int .i64 x112008_1) := (blk_cell BK111.out 8).trans rfl; have hcz19_9 : w18.cell? ⟨gb111, 9, none⟩ = some (.int .i64 x112009_1) := (blk_cell BK111.out 9).trans rfl; have hfz19_0 := blk_frozen BK111.out 0; have hfz19_1 := blk_frozen BK111.out 1; have hfz19_2 := blk_frozen BK111.out 2; have hfz19_3 := blk_frozen BK111.out 3; have hfz19_4 := blk_frozen BK111.out 4; have hfz19_5 := blk_frozen BK111.out 5; have hfz19_6 := blk_frozen BK111.out 6; have hfz19_7 := blk_frozen BK111.out 7; have hfz19_8 := blk_frozen BK111.out 8; have hfz19_9 := blk_frozen BK111.out 9))
        go_roundg k1
        case measure => have := HK1.out; omega
        case rel => exact ⟨(wrap64 (x9_1 + 1)), (x112000_1), (wrap64 (x112001_1 + 1)), (x112002_1), (x112003_1), (x112004_1), (x112005_1), (x112006_1), (x112007_1), (x112008_1), (x112009_1), (by first | rfl | (simp; done) | (simp [*]; done)), H', ⟨by have := HK1.out; omega⟩, ⟨by (with_reducible repeat (first | refine blk_drewN ?_ _ | refine blk_drew ?_ | refine blk_alloc ?_ _)); refine blk_put (cs := #[.int .i64 x112000_1, .int .i64 x112001_1, .int .i64 x112002_1, .int .i64 x112003_1, .int .i64 x112004_1, .int .i64 x112005_1, .int .i64 x112006_1, .int .i64 x112007_1, .int .i64 x112008_1, .int .i64 x112009_1]) ?_ 1 _ rfl; (with_reducible repeat (first | refine blk_drewN ?_ _ | refine blk_drew ?_ | refine blk_alloc ?_ _)); exact BK111.out⟩, ⟨by repeat (first | (with_reducible first | exact HB.out | apply below_alloc | apply pw_below_drewN | apply below_drew1 | refine below_set ?_ GE111.out) | exact HB.out)⟩⟩
       ·rw [if_neg c17] at H
        have c17b0 : (t112 == 1) = false := beq_eq_false_iff_ne.mpr c17
        have c17b1 : (t112 != 1) = true := bne_iff_ne.mpr c17
        by_cases c20 : t112 = 2
        ·rw [if_pos c20] at H
         have c20b0 : (t112 == 2) = true := beq_iff_eq.mpr c20
         have c20b1 : (t112 != 2) = false := bne_eq_false_iff_eq.mpr c20
         have hixc20 : t112 = 2 := c20
         clear c20
         have H' := Aside0.mk H
         clear H
         go_wp2_with (first | ((with_reducible refine gate_callee (f := 8) rfl ?_); refine goesL_ (some 22) rfl rfl Tryd.func8 (by kernel_rfl) rfl #[.int .u8 ((x9_1) % 256)] rfl (by (try simp only [List.map_toArray, List.map_cons, List.map_nil]); first | done | rfl | (simp only [List.length_drop, List.length_take]; rfl)) ?_; (with_reducible refine (class_Of.calls ((x9_1) % 256) t112 _ ?side1 A9.out).mono ?_); (case side1 => exact Gl.below HG.out (by repeat (first | (with_reducible first | exact HB.out | apply below_alloc | apply pw_below_drewN | apply below_drew1 | refine below_set ?_ GE111.out) | exact HB.out))); rintro e w21 ⟨rfl, hb⟩; refine ⟨_, rfl, ?_⟩; have n0_ := Aside0.mk (blk_below (g := gb111) (o := .cells #[.int .i64 x112000_1, .int .i64 x112001_1, .int .i64 x112002_1, .int .i64 x112003_1, .int .i64 x112004_1, .int .i64 x112005_1, .int .i64 x112006_1, .int .i64 x112007_1, .int .i64 x112008_1, .int .i64 x112009_1] 30 (0, 0)) (by (with_reducible repeat (first | refine blk_drewN ?_ _ | refine blk_drew ?_ | refine blk_alloc ?_ _)); exact BK111.out) hb); have n1_ := Aside0.mk (below_step (by repeat (first | (with_reducible first | exact HB.out | apply below_alloc | apply pw_below_drewN | apply below_drew1 | refine below_set ?_ GE111.out) | exact HB.out)) hb); clear BK111; clear HB; have BK111 := n0_; have HB := n1_; clear n0_ n1_; (try clear hb); (try clear hb2); (try clear hk); (try clear hi); have hcz22_0 : w21.cell? ⟨gb111, 0, none⟩ = some (.int .i64 x112000_1) := (blk_cell BK111.out 0).trans rfl; have hcz22_1 : w21.cell? ⟨gb111, 1, none⟩ = some (.int .i64 x112001_1) := (blk_cell BK111.out 1).trans rfl; have hcz22_2 : w21.cell? ⟨gb111, 2, none⟩ = some (.int .i64 x112002_1) := (blk_cell BK111.out 2).trans rfl; have hcz22_3 : w21.cell? ⟨gb111, 3, none⟩ = some (.int .i64 x112003_1) := (blk_cell BK111.out 3).trans rfl; have hcz22_4 : w21.cell? ⟨gb111, 4, none⟩ = some (.int .i64 x112004_1) := (blk_cell BK111.out 4).trans rfl; have hcz22_5 : w21.cell? ⟨gb111, 5, none⟩ = some (.int .i64 x112005_1) := (blk_cell BK111.out 5).trans rfl; have hcz22_6 : w21.cell? ⟨gb111, 6, none⟩ = some (.int .i64 x112006_1) := (blk_cell BK111.out 6).trans rfl; have hcz22_7 : w21.cell? ⟨gb111, 7, none⟩ = some (.int .i64 x112007_1) := (blk_cell BK111.out 7).trans rfl; have hcz22_8 : w21.cell? ⟨gb111, 8, none⟩ = some (.int .i64 x112008_1) := (blk_cell BK111.out 8).trans rfl; have hcz22_9 : w21.cell? ⟨gb111, 9, none⟩ = some (.int .i64 x112009_1) := (blk_cell BK111.out 9).trans rfl; have hfz22_0 := blk_frozen BK111.out 0; have hfz22_1 := blk_frozen BK111.out 1; have hfz22_2 := blk_frozen BK111.out 2; have hfz22_3 := blk_frozen BK111.out 3; have hfz22_4 := blk_frozen BK111.out 4; have hfz22_5 := blk_frozen BK111.out 5; have hfz22_6 := blk_frozen BK111.out 6; have hfz22_7 := blk_frozen BK111.out 7; have hfz22_8 := blk_frozen BK111.out 8; have hfz22_9 := blk_frozen BK111.out 9))
         go_roundg k1
         case measure => have := HK1.out; omega
         case rel => exact ⟨(wrap64 (x9_1 + 1)), (x112000_1), (x112001_1), (wrap64 (x112002_1 + 1)), (x112003_1), (x112004_1), (x112005_1), (x112006_1), (x112007_1), (x112008_1), (x112009_1), (by first | rfl | (simp; done) | (simp [*]; done)), H', ⟨by have := HK1.out; omega⟩, ⟨by (with_reducible repeat (first | refine blk_drewN ?_ _ | refine blk_drew ?_ | refine blk_alloc ?_ _)); refine blk_put (cs := #[.int .i64 x112000_1, .int .i64 x112001_1, .int .i64 x112002_1, .int .i64 x112003_1, .int .i64 x112004_1, .int .i64 x112005_1, .int .i64 x112006_1, .int .i64 x112007_1, .int .i64 x112008_1, .int .i64 x112009_1]) ?_ 2 _ rfl; (with_reducible repeat (first | refine blk_drewN ?_ _ | refine blk_drew ?_ | refine blk_alloc ?_ _)); exact BK111.out⟩, ⟨by repeat (first | (with_reducible first | exact HB.out | apply below_alloc | apply pw_below_drewN | apply below_drew1 | refine below_set ?_ GE111.out) | exact HB.out)⟩⟩
        ·rw [if_neg c20] at H
         have c20b0 : (t112 == 2) = false := beq_eq_false_iff_ne.mpr c20
         have c20b1 : (t112 != 2) = true := bne_iff_ne.mpr c20
         by_cases c23 : t112 = 3
         ·rw [if_pos c23] at H
          have c23b0 : (t112 == 3) = true := beq_iff_eq.mpr c23
          have c23b1 : (t112 != 3) = false := bne_eq_false_iff_eq.mpr c23
          have hixc23 : t112 = 3 := c23
          clear c23
          have H' := Aside0.mk H
          clear H
          go_wp2_with (first | ((with_reducible refine gate_callee (f := 8) rfl ?_); refine goesL_ (some 22) rfl rfl Tryd.func8 (by kernel_rfl) rfl #[.int .u8 ((x9_1) % 256)] rfl (by (try simp only [List.map_toArray, List.map_cons, List.map_nil]); first | done | rfl | (simp only [List.length_drop, List.length_take]; rfl)) ?_; (with_reducible refine (class_Of.calls ((x9_1) % 256) t112 _ ?side1 A9.out).mono ?_); (case side1 => exact Gl.below HG.out (by repeat (first | (with_reducible first | exact HB.out | apply below_alloc | apply pw_below_drewN | apply below_drew1 | refine below_set ?_ GE111.out) | exact HB.out))); rintro e w24 ⟨rfl, hb⟩; refine ⟨_, rfl, ?_⟩; have n0_ := Aside0.mk (blk_below (g := gb111) (o := .cells #[.int .i64 x112000_1, .int .i64 x112001_1, .int .i64 x112002_1, .int .i64 x112003_1, .int .i64 x112004_1, .int .i64 x112005_1, .int .i64 x112006_1, .int .i64 x112007_1, .int .i64 x112008_1, .int .i64 x112009_1] 30 (0, 0)) (by (with_reducible repeat (first | refine blk_drewN ?_ _ | refine blk_drew ?_ | refine blk_alloc ?_ _)); exact BK111.out) hb); have n1_ := Aside0.mk (below_step (by repeat (first | (with_reducible first | exact HB.out | apply below_alloc | apply pw_below_drewN | apply below_drew1 | refine below_set ?_ GE111.out) | exact HB.out)) hb); clear BK111; clear HB; have BK111 := n0_; have HB := n1_; clear n0_ n1_; (try clear hb); (try clear hb2); (try clear hk); (try clear hi); have hcz25_0 : w24.cell? ⟨gb111, 0, none⟩ = some (.int .i64 x112000_1) := (blk_cell BK111.out 0).trans rfl; have hcz25_1 : w24.cell? ⟨gb111, 1, none⟩ = some (.int .i64 x112001_1) := (blk_cell BK111.out 1).trans rfl; have hcz25_2 : w24.cell? ⟨gb111, 2, none⟩ = some (.int .i64 x112002_1) := (blk_cell BK111.out 2).trans rfl; have hcz25_3 : w24.cell? ⟨gb111, 3, none⟩ = some (.int .i64 x112003_1) := (blk_cell BK111.out 3).trans rfl; have hcz25_4 : w24.cell? ⟨gb111, 4, none⟩ = some (.int .i64 x112004_1) := (blk_cell BK111.out 4).trans rfl; have hcz25_5 : w24.cell? ⟨gb111, 5, none⟩ = some (.int .i64 x112005_1) := (blk_cell BK111.out 5).trans rfl; have hcz25_6 : w24.cell? ⟨gb111, 6, none⟩ = some (.int .i64 x112006_1) := (blk_cell BK111.out 6).trans rfl; have hcz25_7 : w24.cell? ⟨gb111, 7, none⟩ = some (.int .i64 x112007_1) := (blk_cell BK111.out 7).trans rfl; have hcz25_8 : w24.cell? ⟨gb111, 8, none⟩ = some (.int .i64 x112008_1) := (blk_cell BK111.out 8).trans rfl; have hcz25_9 : w24.cell? ⟨gb111, 9, none⟩ = some (.int .i64 x112009_1) := (blk_cell BK111.out 9).trans rfl; have hfz25_0 := blk_frozen BK111.out 0; have hfz25_1 := blk_frozen BK111.out 1; have hfz25_2 := blk_frozen BK111.out 2; have hfz25_3 := blk_frozen BK111.out 3; have hfz25_4 := blk_frozen BK111.out 4; have hfz25_5 := blk_frozen BK111.out 5; have hfz25_6 := blk_frozen BK111.out 6; have hfz25_7 := blk_frozen BK111.out 7; have hfz25_8 := blk_frozen BK111.out 8; have hfz25_9 := blk_frozen BK111.out 9))
          go_roundg k1
          case measure => have := HK1.out; omega
          case rel => exact ⟨(wrap64 (x9_1 + 1)), (x112000_1), (x112001_1), (x112002_1), (wrap64 (x112003_1 + 1)), (x112004_1), (x112005_1), (x112006_1), (x112007_1), (x112008_1), (x112009_1), (by first | rfl | (simp; done) | (simp [*]; done)), H', ⟨by have := HK1.out; omega⟩, ⟨by (with_reducible repeat (first | refine blk_drewN ?_ _ | refine blk_drew ?_ | refine blk_alloc ?_ _)); refine blk_put (cs := #[.int .i64 x112000_1, .int .i64 x112001_1, .int .i64 x112002_1, .int .i64 x112003_1, .int .i64 x112004_1, .int .i64 x112005_1, .int .i64 x112006_1, .int .i64 x112007_1, .int .i64 x112008_1, .int .i64 x112009_1]) ?_ 3 _ rfl; (with_reducible repeat (first | refine blk_drewN ?_ _ | refine blk_drew ?_ | refine blk_alloc ?_ _)); exact BK111.out⟩, ⟨by repeat (first | (with_reducible first | exact HB.out | apply below_alloc | apply pw_below_drewN | apply below_drew1 | refine below_set ?_ GE111.out) | exact HB.out)⟩⟩
         ·rw [if_neg c23] at H
          have c23b0 : (t112 == 3) = false := beq_eq_false_iff_ne.mpr c23
          have c23b1 : (t112 != 3) = true := bne_iff_ne.mpr c23
          by_cases c26 : t112 = 4
          ·rw [if_pos c26] at H
           have c26b0 : (t112 == 4) = true := beq_iff_eq.mpr c26
           have c26b1 : (t112 != 4) = false := bne_eq_false_iff_eq.mpr c26
           have hixc26 : t112 = 4 := c26
           clear c26
           have H' := Aside0.mk H
           clear H
           go_wp2_with (first | ((with_reducible refine gate_callee (f := 8) rfl ?_); refine goesL_ (some 22) rfl rfl Tryd.func8 (by kernel_rfl) rfl #[.int .u8 ((x9_1) % 256)] rfl (by (try simp only [List.map_toArray, List.map_cons, List.map_nil]); first | done | rfl | (simp only [List.length_drop, List.length_take]; rfl)) ?_; (with_reducible refine (class_Of.calls ((x9_1) % 256) t112 _ ?side1 A9.out).mono ?_); (case side1 => exact Gl.below HG.out (by repeat (first | (with_reducible first | exact HB.out | apply below_alloc | apply pw_below_drewN | apply below_drew1 | refine below_set ?_ GE111.out) | exact HB.out))); rintro e w27 ⟨rfl, hb⟩; refine ⟨_, rfl, ?_⟩; have n0_ := Aside0.mk (blk_below (g := gb111) (o := .cells #[.int .i64 x112000_1, .int .i64 x112001_1, .int .i64 x112002_1, .int .i64 x112003_1, .int .i64 x112004_1, .int .i64 x112005_1, .int .i64 x112006_1, .int .i64 x112007_1, .int .i64 x112008_1, .int .i64 x112009_1] 30 (0, 0)) (by (with_reducible repeat (first | refine blk_drewN ?_ _ | refine blk_drew ?_ | refine blk_alloc ?_ _)); exact BK111.out) hb); have n1_ := Aside0.mk (below_step (by repeat (first | (with_reducible first | exact HB.out | apply below_alloc | apply pw_below_drewN | apply below_drew1 | refine below_set ?_ GE111.out) | exact HB.out)) hb); clear BK111; clear HB; have BK111 := n0_; have HB := n1_; clear n0_ n1_; (try clear hb); (try clear hb2); (try clear hk); (try clear hi); have hcz28_0 : w27.cell? ⟨gb111, 0, none⟩ = some (.int .i64 x112000_1) := (blk_cell BK111.out 0).trans rfl; have hcz28_1 : w27.cell? ⟨gb111, 1, none⟩ = some (.int .i64 x112001_1) := (blk_cell BK111.out 1).trans rfl; have hcz28_2 : w27.cell? ⟨gb111, 2, none⟩ = some (.int .i64 x112002_1) := (blk_cell BK111.out 2).trans rfl; have hcz28_3 : w27.cell? ⟨gb111, 3, none⟩ = some (.int .i64 x112003_1) := (blk_cell BK111.out 3).trans rfl; have hcz28_4 : w27.cell? ⟨gb111, 4, none⟩ = some (.int .i64 x112004_1) := (blk_cell BK111.out 4).trans rfl; have hcz28_5 : w27.cell? ⟨gb111, 5, none⟩ = some (.int .i64 x112005_1) := (blk_cell BK111.out 5).trans rfl; have hcz28_6 : w27.cell? ⟨gb111, 6, none⟩ = some (.int .i64 x112006_1) := (blk_cell BK111.out 6).trans rfl; have hcz28_7 : w27.cell? ⟨gb111, 7, none⟩ = some (.int .i64 x112007_1) := (blk_cell BK111.out 7).trans rfl; have hcz28_8 : w27.cell? ⟨gb111, 8, none⟩ = some (.int .i64 x112008_1) := (blk_cell BK111.out 8).trans rfl; have hcz28_9 : w27.cell? ⟨gb111, 9, none⟩ = some (.int .i64 x112009_1) := (blk_cell BK111.out 9).trans rfl; have hfz28_0 := blk_frozen BK111.out 0; have hfz28_1 := blk_frozen BK111.out 1; have hfz28_2 := blk_frozen BK111.out 2; have hfz28_3 := blk_frozen BK111.out 3; have hfz28_4 := blk_frozen BK111.out 4; have hfz28_5 := blk_frozen BK111.out 5; have hfz28_6 := blk_frozen BK111.out 6; have hfz28_7 := blk_frozen BK111.out 7; have hfz28_8 := blk_frozen BK111.out 8; have hfz28_9 := blk_frozen BK111.out 9))
           go_roundg k1
           case measure => have := HK1.out; omega
           case rel => exact ⟨(wrap64 (x9_1 + 1)), (x112000_1), (x112001_1), (x112002_1), (x112003_1), (wrap64 (x112004_1 + 1)), (x112005_1), (x112006_1), (x112007_1), (x112008_1), (x112009_1), (by first | rfl | (simp; done) | (simp [*]; done)), H', ⟨by have := HK1.out; omega⟩, ⟨by (with_reducible repeat (first | refine blk_drewN ?_ _ | refine blk_drew ?_ | refine blk_alloc ?_ _)); refine blk_put (cs := #[.int .i64 x112000_1, .int .i64 x112001_1, .int .i64 x112002_1, .int .i64 x112003_1, .int .i64 x112004_1, .int .i64 x112005_1, .int .i64 x112006_1, .int .i64 x112007_1, .int .i64 x112008_1, .int .i64 x112009_1]) ?_ 4 _ rfl; (with_reducible repeat (first | refine blk_drewN ?_ _ | refine blk_drew ?_ | refine blk_alloc ?_ _)); exact BK111.out⟩, ⟨by repeat (first | (with_reducible first | exact HB.out | apply below_alloc | apply pw_below_drewN | apply below_drew1 | refine below_set ?_ GE111.out) | exact HB.out)⟩⟩
          ·rw [if_neg c26] at H
           have c26b0 : (t112 == 4) = false := beq_eq_false_iff_ne.mpr c26
           have c26b1 : (t112 != 4) = true := bne_iff_ne.mpr c26
           by_cases c29 : t112 = 5
           ·rw [if_pos c29] at H
            have c29b0 : (t112 == 5) = true := beq_iff_eq.mpr c29
            have c29b1 : (t112 != 5) = false := bne_eq_false_iff_eq.mpr c29
            have hixc29 : t112 = 5 := c29
            clear c29
            have H' := Aside0.mk H
            clear H
            go_wp2_with (first | ((with_reducible refine gate_callee (f := 8) rfl ?_); refine goesL_ (some 22) rfl rfl Tryd.func8 (by kernel_rfl) rfl #[.int .u8 ((x9_1) % 256)] rfl (by (try simp only [List.map_toArray, List.map_cons, List.map_nil]); first | done | rfl | (simp only [List.length_drop, List.length_take]; rfl)) ?_; (with_reducible refine (class_Of.calls ((x9_1) % 256) t112 _ ?side1 A9.out).mono ?_); (case side1 => exact Gl.below HG.out (by repeat (first | (with_reducible first | exact HB.out | apply below_alloc | apply pw_below_drewN | apply below_drew1 | refine below_set ?_ GE111.out) | exact HB.out))); rintro e w30 ⟨rfl, hb⟩; refine ⟨_, rfl, ?_⟩; have n0_ := Aside0.mk (blk_below (g := gb111) (o := .cells #[.int .i64 x112000_1, .int .i64 x112001_1, .int .i64 x112002_1, .int .i64 x112003_1, .int .i64 x112004_1, .int .i64 x112005_1, .int .i64 x112006_1, .int .i64 x112007_1, .int .i64 x112008_1, .int .i64 x112009_1] 30 (0, 0)) (by (with_reducible repeat (first | refine blk_drewN ?_ _ | refine blk_drew ?_ | refine blk_alloc ?_ _)); exact BK111.out) hb); have n1_ := Aside0.mk (below_step (by repeat (first | (with_reducible first | exact HB.out | apply below_alloc | apply pw_below_drewN | apply below_drew1 | refine below_set ?_ GE111.out) | exact HB.out)) hb); clear BK111; clear HB; have BK111 := n0_; have HB := n1_; clear n0_ n1_; (try clear hb); (try clear hb2); (try clear hk); (try clear hi); have hcz31_0 : w30.cell? ⟨gb111, 0, none⟩ = some (.int .i64 x112000_1) := (blk_cell BK111.out 0).trans rfl; have hcz31_1 : w30.cell? ⟨gb111, 1, none⟩ = some (.int .i64 x112001_1) := (blk_cell BK111.out 1).trans rfl; have hcz31_2 : w30.cell? ⟨gb111, 2, none⟩ = some (.int .i64 x112002_1) := (blk_cell BK111.out 2).trans rfl; have hcz31_3 : w30.cell? ⟨gb111, 3, none⟩ = some (.int .i64 x112003_1) := (blk_cell BK111.out 3).trans rfl; have hcz31_4 : w30.cell? ⟨gb111, 4, none⟩ = some (.int .i64 x112004_1) := (blk_cell BK111.out 4).trans rfl; have hcz31_5 : w30.cell? ⟨gb111, 5, none⟩ = some (.int .i64 x112005_1) := (blk_cell BK111.out 5).trans rfl; have hcz31_6 : w30.cell? ⟨gb111, 6, none⟩ = some (.int .i64 x112006_1) := (blk_cell BK111.out 6).trans rfl; have hcz31_7 : w30.cell? ⟨gb111, 7, none⟩ = some (.int .i64 x112007_1) := (blk_cell BK111.out 7).trans rfl; have hcz31_8 : w30.cell? ⟨gb111, 8, none⟩ = some (.int .i64 x112008_1) := (blk_cell BK111.out 8).trans rfl; have hcz31_9 : w30.cell? ⟨gb111, 9, none⟩ = some (.int .i64 x112009_1) := (blk_cell BK111.out 9).trans rfl; have hfz31_0 := blk_frozen BK111.out 0; have hfz31_1 := blk_frozen BK111.out 1; have hfz31_2 := blk_frozen BK111.out 2; have hfz31_3 := blk_frozen BK111.out 3; have hfz31_4 := blk_frozen BK111.out 4; have hfz31_5 := blk_frozen BK111.out 5; have hfz31_6 := blk_frozen BK111.out 6; have hfz31_7 := blk_frozen BK111.out 7; have hfz31_8 := blk_frozen BK111.out 8; have hfz31_9 := blk_frozen BK111.out 9))
            go_roundg k1
            case measure => have := HK1.out; omega
            case rel => exact ⟨(wrap64 (x9_1 + 1)), (x112000_1), (x112001_1), (x112002_1), (x112003_1), (x112004_1), (wrap64 (x112005_1 + 1)), (x112006_1), (x112007_1), (x112008_1), (x112009_1), (by first | rfl | (simp; done) | (simp [*]; done)), H', ⟨by have := HK1.out; omega⟩, ⟨by (with_reducible repeat (first | refine blk_drewN ?_ _ | refine blk_drew ?_ | refine blk_alloc ?_ _)); refine blk_put (cs := #[.int .i64 x112000_1, .int .i64 x112001_1, .int .i64 x112002_1, .int .i64 x112003_1, .int .i64 x112004_1, .int .i64 x112005_1, .int .i64 x112006_1, .int .i64 x112007_1, .int .i64 x112008_1, .int .i64 x112009_1]) ?_ 5 _ rfl; (with_reducible repeat (first | refine blk_drewN ?_ _ | refine blk_drew ?_ | refine blk_alloc ?_ _)); exact BK111.out⟩, ⟨by repeat (first | (with_reducible first | exact HB.out | apply below_alloc | apply pw_below_drewN | apply below_drew1 | refine below_set ?_ GE111.out) | exact HB.out)⟩⟩
           ·rw [if_neg c29] at H
            have c29b0 : (t112 == 5) = false := beq_eq_false_iff_ne.mpr c29
            have c29b1 : (t112 != 5) = true := bne_iff_ne.mpr c29
            by_cases c32 : t112 = 6
            ·rw [if_pos c32] at H
             have c32b0 : (t112 == 6) = true := beq_iff_eq.mpr c32
             have c32b1 : (t112 != 6) = false := bne_eq_false_iff_eq.mpr c32
             have hixc32 : t112 = 6 := c32
             clear c32
             have H' := Aside0.mk H
             clear H
             go_wp2_with (first | ((with_reducible refine gate_callee (f := 8) rfl ?_); refine goesL_ (some 22) rfl rfl Tryd.func8 (by kernel_rfl) rfl #[.int .u8 ((x9_1) % 256)] rfl (by (try simp only [List.map_toArray, List.map_cons, List.map_nil]); first | done | rfl | (simp only [List.length_drop, List.length_take]; rfl)) ?_; (with_reducible refine (class_Of.calls ((x9_1) % 256) t112 _ ?side1 A9.out).mono ?_); (case side1 => exact Gl.below HG.out (by repeat (first | (with_reducible first | exact HB.out | apply below_alloc | apply pw_below_drewN | apply below_drew1 | refine below_set ?_ GE111.out) | exact HB.out))); rintro e w33 ⟨rfl, hb⟩; refine ⟨_, rfl, ?_⟩; have n0_ := Aside0.mk (blk_below (g := gb111) (o := .cells #[.int .i64 x112000_1, .int .i64 x112001_1, .int .i64 x112002_1, .int .i64 x112003_1, .int .i64 x112004_1, .int .i64 x112005_1, .int .i64 x112006_1, .int .i64 x112007_1, .int .i64 x112008_1, .int .i64 x112009_1] 30 (0, 0)) (by (with_reducible repeat (first | refine blk_drewN ?_ _ | refine blk_drew ?_ | refine blk_alloc ?_ _)); exact BK111.out) hb); have n1_ := Aside0.mk (below_step (by repeat (first | (with_reducible first | exact HB.out | apply below_alloc | apply pw_below_drewN | apply below_drew1 | refine below_set ?_ GE111.out) | exact HB.out)) hb); clear BK111; clear HB; have BK111 := n0_; have HB := n1_; clear n0_ n1_; (try clear hb); (try clear hb2); (try clear hk); (try clear hi); have hcz34_0 : w33.cell? ⟨gb111, 0, none⟩ = some (.int .i64 x112000_1) := (blk_cell BK111.out 0).trans rfl; have hcz34_1 : w33.cell? ⟨gb111, 1, none⟩ = some (.int .i64 x112001_1) := (blk_cell BK111.out 1).trans rfl; have hcz34_2 : w33.cell? ⟨gb111, 2, none⟩ = some (.int .i64 x112002_1) := (blk_cell BK111.out 2).trans rfl; have hcz34_3 : w33.cell? ⟨gb111, 3, none⟩ = some (.int .i64 x112003_1) := (blk_cell BK111.out 3).trans rfl; have hcz34_4 : w33.cell? ⟨gb111, 4, none⟩ = some (.int .i64 x112004_1) := (blk_cell BK111.out 4).trans rfl; have hcz34_5 : w33.cell? ⟨gb111, 5, none⟩ = some (.int .i64 x112005_1) := (blk_cell BK111.out 5).trans rfl; have hcz34_6 : w33.cell? ⟨gb111, 6, none⟩ = some (.int .i64 x112006_1) := (blk_cell BK111.out 6).trans rfl; have hcz34_7 : w33.cell? ⟨gb111, 7, none⟩ = some (.int .i64 x112007_1) := (blk_cell BK111.out 7).trans rfl; have hcz34_8 : w33.cell? ⟨gb111, 8, none⟩ = some (.int .i64 x112008_1) := (blk_cell BK111.out 8).trans rfl; have hcz34_9 : w33.cell? ⟨gb111, 9, none⟩ = some (.int .i64 x112009_1) := (blk_cell BK111.out 9).trans rfl; have hfz34_0 := blk_frozen BK111.out 0; have hfz34_1 := blk_frozen BK111.out 1; have hfz34_2 := blk_frozen BK111.out 2; have hfz34_3 := blk_frozen BK111.out 3; have hfz34_4 := blk_frozen BK111.out 4; have hfz34_5 := blk_frozen BK111.out 5; have hfz34_6 := blk_frozen BK111.out 6; have hfz34_7 := blk_frozen BK111.out 7; have hfz34_8 := blk_frozen BK111.out 8; have hfz34_9 := blk_frozen BK111.out 9))
             go_roundg k1
             case measure => have := HK1.out; omega
             case rel => exact ⟨(wrap64 (x9_1 + 1)), (x112000_1), (x112001_1), (x112002_1), (x112003_1), (x112004_1), (x112005_1), (wrap64 (x112006_1 + 1)), (x112007_1), (x112008_1), (x112009_1), (by first | rfl | (simp; done) | (simp [*]; done)), H', ⟨by have := HK1.out; omega⟩, ⟨by (with_reducible repeat (first | refine blk_drewN ?_ _ | refine blk_drew ?_ | refine blk_alloc ?_ _)); refine blk_put (cs := #[.int .i64 x112000_1, .int .i64 x112001_1, .int .i64 x112002_1, .int .i64 x112003_1, .int .i64 x112004_1, .int .i64 x112005_1, .int .i64 x112006_1, .int .i64 x112007_1, .int .i64 x112008_1, .int .i64 x112009_1]) ?_ 6 _ rfl; (with_reducible repeat (first | refine blk_drewN ?_ _ | refine blk_drew ?_ | refine blk_alloc ?_ _)); exact BK111.out⟩, ⟨by repeat (first | (with_reducible first | exact HB.out | apply below_alloc | apply pw_below_drewN | apply below_drew1 | refine below_set ?_ GE111.out) | exact HB.out)⟩⟩
            ·rw [if_neg c32] at H
             have c32b0 : (t112 == 6) = false := beq_eq_false_iff_ne.mpr c32
             have c32b1 : (t112 != 6) = true := bne_iff_ne.mpr c32
             by_cases c35 : t112 = 7
             ·rw [if_pos c35] at H
              have c35b0 : (t112 == 7) = true := beq_iff_eq.mpr c35
              have c35b1 : (t112 != 7) = false := bne_eq_false_iff_eq.mpr c35
              have hixc35 : t112 = 7 := c35
              clear c35
              have H' := Aside0.mk H
              clear H
              go_wp2_with (first | ((with_reducible refine gate_callee (f := 8) rfl ?_); refine goesL_ (some 22) rfl rfl Tryd.func8 (by kernel_rfl) rfl #[.int .u8 ((x9_1) % 256)] rfl (by (try simp only [List.map_toArray, List.map_cons, List.map_nil]); first | done | rfl | (simp only [List.length_drop, List.length_take]; rfl)) ?_; (with_reducible refine (class_Of.calls ((x9_1) % 256) t112 _ ?side1 A9.out).mono ?_); (case side1 => exact Gl.below HG.out (by repeat (first | (with_reducible first | exact HB.out | apply below_alloc | apply pw_below_drewN | apply below_drew1 | refine below_set ?_ GE111.out) | exact HB.out))); rintro e w36 ⟨rfl, hb⟩; refine ⟨_, rfl, ?_⟩; have n0_ := Aside0.mk (blk_below (g := gb111) (o := .cells #[.int .i64 x112000_1, .int .i64 x112001_1, .int .i64 x112002_1, .int .i64 x112003_1, .int .i64 x112004_1, .int .i64 x112005_1, .int .i64 x112006_1, .int .i64 x112007_1, .int .i64 x112008_1, .int .i64 x112009_1] 30 (0, 0)) (by (with_reducible repeat (first | refine blk_drewN ?_ _ | refine blk_drew ?_ | refine blk_alloc ?_ _)); exact BK111.out) hb); have n1_ := Aside0.mk (below_step (by repeat (first | (with_reducible first | exact HB.out | apply below_alloc | apply pw_below_drewN | apply below_drew1 | refine below_set ?_ GE111.out) | exact HB.out)) hb); clear BK111; clear HB; have BK111 := n0_; have HB := n1_; clear n0_ n1_; (try clear hb); (try clear hb2); (try clear hk); (try clear hi); have hcz37_0 : w36.cell? ⟨gb111, 0, none⟩ = some (.int .i64 x112000_1) := (blk_cell BK111.out 0).trans rfl; have hcz37_1 : w36.cell? ⟨gb111, 1, none⟩ = some (.int .i64 x112001_1) := (blk_cell BK111.out 1).trans rfl; have hcz37_2 : w36.cell? ⟨gb111, 2, none⟩ = some (.int .i64 x112002_1) := (blk_cell BK111.out 2).trans rfl; have hcz37_3 : w36.cell? ⟨gb111, 3, none⟩ = some (.int .i64 x112003_1) := (blk_cell BK111.out 3).trans rfl; have hcz37_4 : w36.cell? ⟨gb111, 4, none⟩ = some (.int .i64 x112004_1) := (blk_cell BK111.out 4).trans rfl; have hcz37_5 : w36.cell? ⟨gb111, 5, none⟩ = some (.int .i64 x112005_1) := (blk_cell BK111.out 5).trans rfl; have hcz37_6 : w36.cell? ⟨gb111, 6, none⟩ = some (.int .i64 x112006_1) := (blk_cell BK111.out 6).trans rfl; have hcz37_7 : w36.cell? ⟨gb111, 7, none⟩ = some (.int .i64 x112007_1) := (blk_cell BK111.out 7).trans rfl; have hcz37_8 : w36.cell? ⟨gb111, 8, none⟩ = some (.int .i64 x112008_1) := (blk_cell BK111.out 8).trans rfl; have hcz37_9 : w36.cell? ⟨gb111, 9, none⟩ = some (.int .i64 x112009_1) := (blk_cell BK111.out 9).trans rfl; have hfz37_0 := blk_frozen BK111.out 0; have hfz37_1 := blk_frozen BK111.out 1; have hfz37_2 := blk_frozen BK111.out 2; have hfz37_3 := blk_frozen BK111.out 3; have hfz37_4 := blk_frozen BK111.out 4; have hfz37_5 := blk_frozen BK111.out 5; have hfz37_6 := blk_frozen BK111.out 6; have hfz37_7 := blk_frozen BK111.out 7; have hfz37_8 := blk_frozen BK111.out 8; have hfz37_9 := blk_frozen BK111.out 9))
              go_roundg k1
              case measure => have := HK1.out; omega
              case rel => exact ⟨(wrap64 (x9_1 + 1)), (x112000_1), (x112001_1), (x112002_1), (x112003_1), (x112004_1), (x112005_1), (x112006_1), (wrap64 (x112007_1 + 1)), (x112008_1), (x112009_1), (by first | rfl | (simp; done) | (simp [*]; done)), H', ⟨by have := HK1.out; omega⟩, ⟨by (with_reducible repeat (first | refine blk_drewN ?_ _ | refine blk_drew ?_ | refine blk_alloc ?_ _)); refine blk_put (cs := #[.int .i64 x112000_1, .int .i64 x112001_1, .int .i64 x112002_1, .int .i64 x112003_1, .int .i64 x112004_1, .int .i64 x112005_1, .int .i64 x112006_1, .int .i64 x112007_1, .int .i64 x112008_1, .int .i64 x112009_1]) ?_ 7 _ rfl; (with_reducible repeat (first | refine blk_drewN ?_ _ | refine blk_drew ?_ | refine blk_alloc ?_ _)); exact BK111.out⟩, ⟨by repeat (first | (with_reducible first | exact HB.out | apply below_alloc | apply pw_below_drewN | apply below_drew1 | refine below_set ?_ GE111.out) | exact HB.out)⟩⟩
             ·rw [if_neg c35] at H
              have c35b0 : (t112 == 7) = false := beq_eq_false_iff_ne.mpr c35
              have c35b1 : (t112 != 7) = true := bne_iff_ne.mpr c35
              by_cases c38 : t112 = 8
              ·rw [if_pos c38] at H
               have c38b0 : (t112 == 8) = true := beq_iff_eq.mpr c38
               have c38b1 : (t112 != 8) = false := bne_eq_false_iff_eq.mpr c38
               have hixc38 : t112 = 8 := c38
               clear c38
               have H' := Aside0.mk H
               clear H
               go_wp2_with (first | ((with_reducible refine gate_callee (f := 8) rfl ?_); refine goesL_ (some 22) rfl rfl Tryd.func8 (by kernel_rfl) rfl #[.int .u8 ((x9_1) % 256)] rfl (by (try simp only [List.map_toArray, List.map_cons, List.map_nil]); first | done | rfl | (simp only [List.length_drop, List.length_take]; rfl)) ?_; (with_reducible refine (class_Of.calls ((x9_1) % 256) t112 _ ?side1 A9.out).mono ?_); (case side1 => exact Gl.below HG.out (by repeat (first | (with_reducible first | exact HB.out | apply below_alloc | apply pw_below_drewN | apply below_drew1 | refine below_set ?_ GE111.out) | exact HB.out))); rintro e w39 ⟨rfl, hb⟩; refine ⟨_, rfl, ?_⟩; have n0_ := Aside0.mk (blk_below (g := gb111) (o := .cells #[.int .i64 x112000_1, .int .i64 x112001_1, .int .i64 x112002_1, .int .i64 x112003_1, .int .i64 x112004_1, .int .i64 x112005_1, .int .i64 x112006_1, .int .i64 x112007_1, .int .i64 x112008_1, .int .i64 x112009_1] 30 (0, 0)) (by (with_reducible repeat (first | refine blk_drewN ?_ _ | refine blk_drew ?_ | refine blk_alloc ?_ _)); exact BK111.out) hb); have n1_ := Aside0.mk (below_step (by repeat (first | (with_reducible first | exact HB.out | apply below_alloc | apply pw_below_drewN | apply below_drew1 | refine below_set ?_ GE111.out) | exact HB.out)) hb); clear BK111; clear HB; have BK111 := n0_; have HB := n1_; clear n0_ n1_; (try clear hb); (try clear hb2); (try clear hk); (try clear hi); have hcz40_0 : w39.cell? ⟨gb111, 0, none⟩ = some (.int .i64 x112000_1) := (blk_cell BK111.out 0).trans rfl; have hcz40_1 : w39.cell? ⟨gb111, 1, none⟩ = some (.int .i64 x112001_1) := (blk_cell BK111.out 1).trans rfl; have hcz40_2 : w39.cell? ⟨gb111, 2, none⟩ = some (.int .i64 x112002_1) := (blk_cell BK111.out 2).trans rfl; have hcz40_3 : w39.cell? ⟨gb111, 3, none⟩ = some (.int .i64 x112003_1) := (blk_cell BK111.out 3).trans rfl; have hcz40_4 : w39.cell? ⟨gb111, 4, none⟩ = some (.int .i64 x112004_1) := (blk_cell BK111.out 4).trans rfl; have hcz40_5 : w39.cell? ⟨gb111, 5, none⟩ = some (.int .i64 x112005_1) := (blk_cell BK111.out 5).trans rfl; have hcz40_6 : w39.cell? ⟨gb111, 6, none⟩ = some (.int .i64 x112006_1) := (blk_cell BK111.out 6).trans rfl; have hcz40_7 : w39.cell? ⟨gb111, 7, none⟩ = some (.int .i64 x112007_1) := (blk_cell BK111.out 7).trans rfl; have hcz40_8 : w39.cell? ⟨gb111, 8, none⟩ = some (.int .i64 x112008_1) := (blk_cell BK111.out 8).trans rfl; have hcz40_9 : w39.cell? ⟨gb111, 9, none⟩ = some (.int .i64 x112009_1) := (blk_cell BK111.out 9).trans rfl; have hfz40_0 := blk_frozen BK111.out 0; have hfz40_1 := blk_frozen BK111.out 1; have hfz40_2 := blk_frozen BK111.out 2; have hfz40_3 := blk_frozen BK111.out 3; have hfz40_4 := blk_frozen BK111.out 4; have hfz40_5 := blk_frozen BK111.out 5; have hfz40_6 := blk_frozen BK111.out 6; have hfz40_7 := blk_frozen BK111.out 7; have hfz40_8 := blk_frozen BK111.out 8; have hfz40_9 := blk_frozen BK111.out 9))
               go_roundg k1
               case measure => have := HK1.out; omega
               case rel => exact ⟨(wrap64 (x9_1 + 1)), (x112000_1), (x112001_1), (x112002_1), (x112003_1), (x112004_1), (x112005_1), (x112006_1), (x112007_1), (wrap64 (x112008_1 + 1)), (x112009_1), (by first | rfl | (simp; done) | (simp [*]; done)), H', ⟨by have := HK1.out; omega⟩, ⟨by (with_reducible repeat (first | refine blk_drewN ?_ _ | refine blk_drew ?_ | refine blk_alloc ?_ _)); refine blk_put (cs := #[.int .i64 x112000_1, .int .i64 x112001_1, .int .i64 x112002_1, .int .i64 x112003_1, .int .i64 x112004_1, .int .i64 x112005_1, .int .i64 x112006_1, .int .i64 x112007_1, .int .i64 x112008_1, .int .i64 x112009_1]) ?_ 8 _ rfl; (with_reducible repeat (first | refine blk_drewN ?_ _ | refine blk_drew ?_ | refine blk_alloc ?_ _)); exact BK111.out⟩, ⟨by repeat (first | (with_reducible first | exact HB.out | apply below_alloc | apply pw_below_drewN | apply below_drew1 | refine below_set ?_ GE111.out) | exact HB.out)⟩⟩
              ·rw [if_neg c38] at H
               have c38b0 : (t112 == 8) = false := beq_eq_false_iff_ne.mpr c38
               have c38b1 : (t112 != 8) = true := bne_iff_ne.mpr c38
               by_cases c41 : t112 = 9
               ·rw [if_pos c41] at H
                have c41b0 : (t112 == 9) = true := beq_iff_eq.mpr c41
                have c41b1 : (t112 != 9) = false := bne_eq_false_iff_eq.mpr c41
                have hixc41 : t112 = 9 := c41
                clear c41
                have H' := Aside0.mk H
                clear H
                go_wp2_with (first | ((with_reducible refine gate_callee (f := 8) rfl ?_); refine goesL_ (some 22) rfl rfl Tryd.func8 (by kernel_rfl) rfl #[.int .u8 ((x9_1) % 256)] rfl (by (try simp only [List.map_toArray, List.map_cons, List.map_nil]); first | done | rfl | (simp only [List.length_drop, List.length_take]; rfl)) ?_; (with_reducible refine (class_Of.calls ((x9_1) % 256) t112 _ ?side1 A9.out).mono ?_); (case side1 => exact Gl.below HG.out (by repeat (first | (with_reducible first | exact HB.out | apply below_alloc | apply pw_below_drewN | apply below_drew1 | refine below_set ?_ GE111.out) | exact HB.out))); rintro e w42 ⟨rfl, hb⟩; refine ⟨_, rfl, ?_⟩; have n0_ := Aside0.mk (blk_below (g := gb111) (o := .cells #[.int .i64 x112000_1, .int .i64 x112001_1, .int .i64 x112002_1, .int .i64 x112003_1, .int .i64 x112004_1, .int .i64 x112005_1, .int .i64 x112006_1, .int .i64 x112007_1, .int .i64 x112008_1, .int .i64 x112009_1] 30 (0, 0)) (by (with_reducible repeat (first | refine blk_drewN ?_ _ | refine blk_drew ?_ | refine blk_alloc ?_ _)); exact BK111.out) hb); have n1_ := Aside0.mk (below_step (by repeat (first | (with_reducible first | exact HB.out | apply below_alloc | apply pw_below_drewN | apply below_drew1 | refine below_set ?_ GE111.out) | exact HB.out)) hb); clear BK111; clear HB; have BK111 := n0_; have HB := n1_; clear n0_ n1_; (try clear hb); (try clear hb2); (try clear hk); (try clear hi); have hcz43_0 : w42.cell? ⟨gb111, 0, none⟩ = some (.int .i64 x112000_1) := (blk_cell BK111.out 0).trans rfl; have hcz43_1 : w42.cell? ⟨gb111, 1, none⟩ = some (.int .i64 x112001_1) := (blk_cell BK111.out 1).trans rfl; have hcz43_2 : w42.cell? ⟨gb111, 2, none⟩ = some (.int .i64 x112002_1) := (blk_cell BK111.out 2).trans rfl; have hcz43_3 : w42.cell? ⟨gb111, 3, none⟩ = some (.int .i64 x112003_1) := (blk_cell BK111.out 3).trans rfl; have hcz43_4 : w42.cell? ⟨gb111, 4, none⟩ = some (.int .i64 x112004_1) := (blk_cell BK111.out 4).trans rfl; have hcz43_5 : w42.cell? ⟨gb111, 5, none⟩ = some (.int .i64 x112005_1) := (blk_cell BK111.out 5).trans rfl; have hcz43_6 : w42.cell? ⟨gb111, 6, none⟩ = some (.int .i64 x112006_1) := (blk_cell BK111.out 6).trans rfl; have hcz43_7 : w42.cell? ⟨gb111, 7, none⟩ = some (.int .i64 x112007_1) := (blk_cell BK111.out 7).trans rfl; have hcz43_8 : w42.cell? ⟨gb111, 8, none⟩ = some (.int .i64 x112008_1) := (blk_cell BK111.out 8).trans rfl; have hcz43_9 : w42.cell? ⟨gb111, 9, none⟩ = some (.int .i64 x112009_1) := (blk_cell BK111.out 9).trans rfl; have hfz43_0 := blk_frozen BK111.out 0; have hfz43_1 := blk_frozen BK111.out 1; have hfz43_2 := blk_frozen BK111.out 2; have hfz43_3 := blk_frozen BK111.out 3; have hfz43_4 := blk_frozen BK111.out 4; have hfz43_5 := blk_frozen BK111.out 5; have hfz43_6 := blk_frozen BK111.out 6; have hfz43_7 := blk_frozen BK111.out 7; have hfz43_8 := blk_frozen BK111.out 8; have hfz43_9 := blk_frozen BK111.out 9))
                go_roundg k1
                case measure => have := HK1.out; omega
                case rel => exact ⟨(wrap64 (x9_1 + 1)), (x112000_1), (x112001_1), (x112002_1), (x112003_1), (x112004_1), (x112005_1), (x112006_1), (x112007_1), (x112008_1), (wrap64 (x112009_1 + 1)), (by first | rfl | (simp; done) | (simp [*]; done)), H', ⟨by have := HK1.out; omega⟩, ⟨by (with_reducible repeat (first | refine blk_drewN ?_ _ | refine blk_drew ?_ | refine blk_alloc ?_ _)); refine blk_put (cs := #[.int .i64 x112000_1, .int .i64 x112001_1, .int .i64 x112002_1, .int .i64 x112003_1, .int .i64 x112004_1, .int .i64 x112005_1, .int .i64 x112006_1, .int .i64 x112007_1, .int .i64 x112008_1, .int .i64 x112009_1]) ?_ 9 _ rfl; (with_reducible repeat (first | refine blk_drewN ?_ _ | refine blk_drew ?_ | refine blk_alloc ?_ _)); exact BK111.out⟩, ⟨by repeat (first | (with_reducible first | exact HB.out | apply below_alloc | apply pw_below_drewN | apply below_drew1 | refine below_set ?_ GE111.out) | exact HB.out)⟩⟩
               ·rw [if_neg c41] at H
                exact absurd H (by simp)
   ·rw [if_neg c8] at H
    have c8b0 : decide (x9_1 < 256) = false := decide_eq_false c8
    clear c8
    obtain ⟨ji44, hji44⟩ : ∃ j_ : Int, (Int.tmod (wrap64 (a1)) 64) = j_ := ⟨_, rfl⟩
    replace H : (if 0 ≤ (ji44) then (if (ji44 : Int).toNat ≤ 281474976710656 then (tmesislaw02_ClassCount.l1 k1 a0 a2 t110 (List.replicate (ji44 : Int).toNat 0) 0 x112000_1 x112001_1 x112002_1 x112003_1 x112004_1 x112005_1 x112006_1 x112007_1 x112008_1 x112009_1) else (none)) else (none)) = some r := by first | (rw [hji44] at H; exact H) | (simp only [hji44] at H ⊢; exact H)
    by_cases c45 : 0 ≤ (ji44)
    ·rw [if_pos c45] at H
     have c45b0 := eq_true c45
     have c45b1 : decide (0 ≤ (ji44)) = true := decide_eq_true c45
     clear c45
     by_cases c46 : (ji44 : Int).toNat ≤ 281474976710656
     ·rw [if_pos c46] at H
      have c46b0 := eq_true c46
      have c46b1 : decide ((ji44 : Int).toNat ≤ 281474976710656) = true := decide_eq_true c46
      clear c46
      obtain ⟨y113, hy113⟩ : ∃ y_ : List Int, y_ = (List.replicate (ji44 : Int).toNat 0) := ⟨_, rfl⟩
      replace H : (tmesislaw02_ClassCount.l1 k1 a0 a2 t110 y113 0 x112000_1 x112001_1 x112002_1 x112003_1 x112004_1 x112005_1 x112006_1 x112007_1 x112008_1 x112009_1) = some r := by first | (rw [hy113]; with_reducible exact H) | (have H2_ := (Option.bind_some _ _).symm.trans H; rw [hy113]; with_reducible exact H2_) | (have H2_ := (Option.bind_some _ _).symm.trans H; with_reducible exact H2_) | with_reducible exact H | (rw [hy113]; exact H) | exact H
      have Ny113 := Aside0.mk hy113
      clear hy113
      have H' := Aside0.mk H
      clear H
      go_wp2_with (first | ((with_reducible refine gate_dst (N := 37) rfl ?_); refine Kd.R_make (Kd.int .u8) _ 5 rfl (N := 37) rfl 22 _ _ rfl ji44 rfl rfl Tryd.underlying22 (.int .u8 0) 1 info5 rfl (by decide) (by omega) 0 (ok := fun _ => True) (okp := fun _ => True) rfl (fun _ hk => hk) trivial (of_decide_eq_true (by first | (with_reducible assumption) | assumption)) (Nat.le_trans (Nat.mul_le_mul_right _ (of_decide_eq_true (by first | (with_reducible assumption) | assumption) : ji44.toNat ≤ 281474976710656)) (by omega)) (Below.refl _ _) (Nat.le_refl _) ?_; intro v114 w47 ho48 hb hg_ hnew_; clear hg_ hnew_; (first | rw [← Ny113.out] at ho48 | (simp only [Int.reduceToNat] at ho48; rw [← Ny113.out] at ho48)); have n0_ := Aside0.mk (Kd.R_lower ho48 (below_size (by repeat (first | (with_reducible first | exact HB.out | apply below_alloc | apply pw_below_drewN | apply below_drew1 | refine below_set ?_ GE111.out) | exact HB.out)))); have n1_ := Aside0.mk (blk_below (g := gb111) (o := .cells #[.int .i64 x112000_1, .int .i64 x112001_1, .int .i64 x112002_1, .int .i64 x112003_1, .int .i64 x112004_1, .int .i64 x112005_1, .int .i64 x112006_1, .int .i64 x112007_1, .int .i64 x112008_1, .int .i64 x112009_1] 30 (0, 0)) (by (with_reducible repeat (first | refine blk_drewN ?_ _ | refine blk_drew ?_ | refine blk_alloc ?_ _)); exact BK111.out) hb); have n2_ := Aside0.mk (below_step (by repeat (first | (with_reducible first | exact HB.out | apply below_alloc | apply pw_below_drewN | apply below_drew1 | refine below_set ?_ GE111.out) | exact HB.out)) hb); clear BK111; clear HB; have HO115 := n0_; have BK111 := n1_; have HB := n2_; clear n0_ n1_ n2_; clear hb ho48))
      go_loopg [12] k1 (fun kq v12 w' => ∃ (x11_2 : List Int) (x12_2 : Int), v12 = .int .i64 x12_2 ∧ Aside0 (tmesislaw02_ClassCount.l1 kq a0 a2 t110 x11_2 x12_2 x112000_1 x112001_1 x112002_1 x112003_1 x112004_1 x112005_1 x112006_1 x112007_1 x112008_1 x112009_1 = some r) ∧ Aside0 (kq ≤ k1) ∧ Aside0 (Kd.R (Kd.int .u8) 5 w' w.heap.size (fun _ => True) v114 x11_2) ∧ Aside0 (w'.heap[gb111]? = some (.cells #[.int .i64 x112000_1, .int .i64 x112001_1, .int .i64 x112002_1, .int .i64 x112003_1, .int .i64 x112004_1, .int .i64 x112005_1, .int .i64 x112006_1, .int .i64 x112007_1, .int .i64 x112008_1, .int .i64 x112009_1] 30 (0, 0))) ∧ Aside0 (Below w.heap.size w w'))
      case atStart => exact ⟨(y113), (0), (by first | rfl | (simp; done) | (simp [*]; done)), H', ⟨Nat.le_refl _⟩, ⟨by (with_reducible repeat (first | apply Kd.R_alloc | apply Kd.R_drewN | apply Kd.R_drew)); exact HO115.out⟩, ⟨by (with_reducible repeat (first | refine blk_drewN ?_ _ | refine blk_drew ?_ | refine blk_alloc ?_ _)); exact BK111.out⟩, ⟨by repeat (first | (with_reducible first | exact HB.out | apply below_alloc | apply pw_below_drewN | apply below_drew1 | refine below_set ?_ GE111.out) | exact HB.out)⟩⟩
      case round =>
       clear H'
       try clear c1
       try clear c2
       try clear p2
       try clear c3
       try clear c4
       try clear c6
       try clear p6
       try clear c7
       try clear c8
       try clear c8b0
       try clear c10
       try clear c10b0
       try clear c12
       try clear c12b0
       try clear c14
       try clear c14b0
       try clear c14b1
       try clear c17
       try clear c17b0
       try clear c17b1
       try clear c20
       try clear c20b0
       try clear c20b1
       try clear c23
       try clear c23b0
       try clear c23b1
       try clear c26
       try clear c26b0
       try clear c26b1
       try clear c29
       try clear c29b0
       try clear c29b1
       try clear c32
       try clear c32b0
       try clear c32b1
       try clear c35
       try clear c35b0
       try clear c35b1
       try clear c38
       try clear c38b0
       try clear c38b1
       try clear c41
       try clear c41b0
       try clear c41b1
       try clear c45
       try clear c45b0
       try clear c45b1
       try clear c46
       try clear c46b0
       try clear c46b1
       try clear hcz16_0
       try clear hcz16_1
       try clear hcz16_2
       try clear hcz16_3
       try clear hcz16_4
       try clear hcz16_5
       try clear hcz16_6
       try clear hcz16_7
       try clear hcz16_8
       try clear hcz16_9
       try clear hcz19_0
       try clear hcz19_1
       try clear hcz19_2
       try clear hcz19_3
       try clear hcz19_4
       try clear hcz19_5
       try clear hcz19_6
       try clear hcz19_7
       try clear hcz19_8
       try clear hcz19_9
       try clear hcz22_0
       try clear hcz22_1
       try clear hcz22_2
       try clear hcz22_3
       try clear hcz22_4
       try clear hcz22_5
       try clear hcz22_6
       try clear hcz22_7
       try clear hcz22_8
       try clear hcz22_9
       try clear hcz25_0
       try clear hcz25_1
       try clear hcz25_2
       try clear hcz25_3
       try clear hcz25_4
       try clear hcz25_5
       try clear hcz25_6
       try clear hcz25_7
       try clear hcz25_8
       try clear hcz25_9
       try clear hcz28_0
       try clear hcz28_1
       try clear hcz28_2
       try clear hcz28_3
       try clear hcz28_4
       try clear hcz28_5
       try clear hcz28_6
       try clear hcz28_7
       try clear hcz28_8
       try clear hcz28_9
       try clear hcz31_0
       try clear hcz31_1
       try clear hcz31_2
       try clear hcz31_3
       try clear hcz31_4
       try clear hcz31_5
       try clear hcz31_6
       try clear hcz31_7
       try clear hcz31_8
       try clear hcz31_9
       try clear hcz34_0
       try clear hcz34_1
       try clear hcz34_2
       try clear hcz34_3
       try clear hcz34_4
       try clear hcz34_5
       try clear hcz34_6
       try clear hcz34_7
       try clear hcz34_8
       try clear hcz34_9
       try clear hcz37_0
       try clear hcz37_1
       try clear hcz37_2
       try clear hcz37_3
       try clear hcz37_4
       try clear hcz37_5
       try clear hcz37_6
       try clear hcz37_7
       try clear hcz37_8
       try clear hcz37_9
       try clear hcz40_0
       try clear hcz40_1
       try clear hcz40_2
       try clear hcz40_3
       try clear hcz40_4
       try clear hcz40_5
       try clear hcz40_6
       try clear hcz40_7
       try clear hcz40_8
       try clear hcz40_9
       try clear hcz43_0
       try clear hcz43_1
       try clear hcz43_2
       try clear hcz43_3
       try clear hcz43_4
       try clear hcz43_5
       try clear hcz43_6
       try clear hcz43_7
       try clear hcz43_8
       try clear hcz43_9
       try clear hcz7_0
       try clear hcz7_1
       try clear hcz7_2
       try clear hcz7_3
       try clear hcz7_4
       try clear hcz7_5
       try clear hcz7_6
       try clear hcz7_7
       try clear hcz7_8
       try clear hcz7_9
       try clear hfz16_0
       try clear hfz16_1
       try clear hfz16_2
       try clear hfz16_3
       try clear hfz16_4
       try clear hfz16_5
       try clear hfz16_6
       try clear hfz16_7
       try clear hfz16_8
       try clear hfz16_9
       try clear hfz19_0
       try clear hfz19_1
       try clear hfz19_2
       try clear hfz19_3
       try clear hfz19_4
       try clear hfz19_5
       try clear hfz19_6
       try clear hfz19_7
       try clear hfz19_8
       try clear hfz19_9
       try clear hfz22_0
       try clear hfz22_1
       try clear hfz22_2
       try clear hfz22_3
       try clear hfz22_4
       try clear hfz22_5
       try clear hfz22_6
       try clear hfz22_7
       try clear hfz22_8
       try clear hfz22_9
       try clear hfz25_0
       try clear hfz25_1
       try clear hfz25_2
       try clear hfz25_3
       try clear hfz25_4
       try clear hfz25_5
       try clear hfz25_6
       try clear hfz25_7
       try clear hfz25_8
       try clear hfz25_9
       try clear hfz28_0
       try clear hfz28_1
       try clear hfz28_2
       try clear hfz28_3
       try clear hfz28_4
       try clear hfz28_5
       try clear hfz28_6
       try clear hfz28_7
       try clear hfz28_8
       try clear hfz28_9
       try clear hfz31_0
       try clear hfz31_1
       try clear hfz31_2
       try clear hfz31_3
       try clear hfz31_4
       try clear hfz31_5
       try clear hfz31_6
       try clear hfz31_7
       try clear hfz31_8
       try clear hfz31_9
       try clear hfz34_0
       try clear hfz34_1
       try clear hfz34_2
       try clear hfz34_3
       try clear hfz34_4
       try clear hfz34_5
       try clear hfz34_6
       try clear hfz34_7
       try clear hfz34_8
       try clear hfz34_9
       try clear hfz37_0
       try clear hfz37_1
       try clear hfz37_2
       try clear hfz37_3
       try clear hfz37_4
       try clear hfz37_5
       try clear hfz37_6
       try clear hfz37_7
       try clear hfz37_8
       try clear hfz37_9
       try clear hfz40_0
       try clear hfz40_1
       try clear hfz40_2
       try clear hfz40_3
       try clear hfz40_4
       try clear hfz40_5
       try clear hfz40_6
       try clear hfz40_7
       try clear hfz40_8
       try clear hfz40_9
       try clear hfz43_0
       try clear hfz43_1
       try clear hfz43_2
       try clear hfz43_3
       try clear hfz43_4
       try clear hfz43_5
       try clear hfz43_6
       try clear hfz43_7
       try clear hfz43_8
       try clear hfz43_9
       try clear hfz7_0
       try clear hfz7_1
       try clear hfz7_2
       try clear hfz7_3
       try clear hfz7_4
       try clear hfz7_5
       try clear hfz7_6
       try clear hfz7_7
       try clear hfz7_8
       try clear hfz7_9
       try clear p2
       obtain ⟨x11_2, x12_2, rfl, HA, HK2, HO_11, BK111, HB⟩ := hrel
       cases gk with
       | zero => exact absurd HA.out (by simp [tmesislaw02_ClassCount.l1])
       | succ k2 =>
        have H := HA.out
        clear HA
        simp only [tmesislaw02_ClassCount.l1] at H
        by_cases c49 : x12_2 < (x11_2.length : Int)
        ·rw [if_pos c49] at H
         have c49b0 : decide (x12_2 < (x11_2.length : Int)) = true := decide_eq_true c49
         clear c49
         by_cases c50 : 0 ≤ x12_2
         ·rw [if_pos c50] at H
          have c50b0 : decide (0 ≤ x12_2) = true := decide_eq_true c50
          clear c50
          obtain ⟨y116, hy116⟩ : ∃ y_ : List Int, y_ = (x11_2.set (x12_2 : Int).toNat a0) := ⟨_, rfl⟩
          replace H : (tmesislaw02_ClassCount.l1 k2 a0 a2 t110 y116 (wrap64 (x12_2 + 1)) x112000_1 x112001_1 x112002_1 x112003_1 x112004_1 x112005_1 x112006_1 x112007_1 x112008_1 x112009_1) = some r := by first | (rw [hy116]; with_reducible exact H) | (have H2_ := (Option.bind_some _ _).symm.trans H; rw [hy116]; with_reducible exact H2_) | (have H2_ := (Option.bind_some _ _).symm.trans H; with_reducible exact H2_) | with_reducible exact H | (rw [hy116]; exact H) | exact H
          have Ny116 := Aside0.mk hy116
          clear hy116
          have H' := Aside0.mk H
          clear H
          obtain ⟨Ao52, co52, eo52⟩ := Kd.R_slice HO_11.out
          subst eo52
          have p51 : 0 ≤ (x12_2 : Int) := of_decide_eq_true (by first | (with_reducible assumption) | assumption)
          have q51 : (x12_2 : Int) < ((x11_2.length : Int) : Int) := of_decide_eq_true (by first | (with_reducible assumption) | assumption)
          obtain ⟨go51, co51, eo51, gb51, gl51, cl51, HG51⟩ := Kd.R_form HO_11.out (by omega)
          (first | cases eo51 | (injection eo51 with ea_ en_ ec_; (first | subst ea_ | (injection ea_ with ea_; subst ea_)); subst ec_; clear en_))
          have GB51 := Aside0.mk gb51
          have GG51 := Aside0.mk HG51
          clear gb51 gl51 HG51
          obtain ⟨hx51_0, hf51_0⟩ := Kd.R_celln 0 HO_11.out (x12_2 : Int) p51 q51
          replace p51 := eq_true p51
          replace q51 := eq_true q51
          have HP53 := Kd.R_putg HO_11.out (x12_2 : Int) a0
          go_wp2_with (first | ((with_reducible refine gate_store (t := 5) (p := 47) rfl ?_); refine store_event (t := 5) (p := 47) (v := ?vo_w54) (w1 := (wr.setCell ⟨go51, (x12_2 : Int).toNat, none⟩ (.int .u8 a0))) ?hg ?ho ?hn ?hr ?_; (case ho => rfl); (case hg => rfl); (case hn => rfl); (case hr => first | (go_simp; done) | (go_simp; rfl)); intro w54 hw; have hg : wr.grownBy w54 (some go51) := (by rw [hw]; exact HP53.2); have hp_ : Kd.R (Kd.int .u8) 5 w54 w.heap.size (fun _ => True) (.slice (some ⟨go51, 0, none⟩) x11_2.length co52) y116 := (by rw [hw, Ny116.out]; exact HP53.1); clear HP53; have n0_ := Aside0.mk (hp_); have n1_ := Aside0.mk (blk_grown (g := gb111) (o := .cells #[.int .i64 x112000_1, .int .i64 x112001_1, .int .i64 x112002_1, .int .i64 x112003_1, .int .i64 x112004_1, .int .i64 x112005_1, .int .i64 x112006_1, .int .i64 x112007_1, .int .i64 x112008_1, .int .i64 x112009_1] 30 (0, 0)) (by (with_reducible repeat (first | refine blk_drewN ?_ _ | refine blk_drew ?_ | refine blk_alloc ?_ _)); exact BK111.out) hg (Kd.R_ne HO_11.out BK111.out (by decide))); have n2_ := Aside0.mk ((by rw [hw]; exact below_set (HB.out) GB51.out : Below w.heap.size w w54)); clear HO_11; clear BK111; clear HB; have HO_11 := n0_; have BK111 := n1_; have HB := n2_; clear n0_ n1_ n2_; clear hg hw hp_))
          go_roundg k2
          case measure => have := HK1.out; have := HK2.out; omega
          case rel => exact ⟨(y116), (wrap64 (x12_2 + 1)), (by first | rfl | (simp; done) | (simp [*]; done)), H', ⟨by have := HK1.out; have := HK2.out; omega⟩, ⟨by (with_reducible repeat (first | apply Kd.R_alloc | apply Kd.R_drewN | apply Kd.R_drew)); exact HO_11.out⟩, ⟨by (with_reducible repeat (first | refine blk_drewN ?_ _ | refine blk_drew ?_ | refine blk_alloc ?_ _)); exact BK111.out⟩, ⟨by repeat (first | (with_reducible first | exact HB.out | apply below_alloc | apply pw_below_drewN | apply below_drew1 | refine below_set ?_ GE111.out) | exact HB.out)⟩⟩
         ·rw [if_neg c50] at H
          exact absurd H (by simp)
        ·rw [if_neg c49] at H
         have c49b0 : decide (x12_2 < (x11_2.length : Int)) = false := decide_eq_false c49
         clear c49
         replace H := Option.bind_eq_some_iff.mp H
         obtain ⟨t117, A550, H⟩ := H
         replace H : (if t117 = (wrap64 (Int.tmod a2 10)) then (if t110 = true then (if (x112000_1 == 32 && (x112001_1 == 4 && (x112002_1 == 26 && (x112003_1 == 27 && (x112004_1 == 10 && (x112005_1 == 18 && (x112006_1 == 9 && (x112007_1 == 1 && (x112008_1 == 1 && (x112009_1 == 128)))))))))) = true then ((class_Run.f k2 x11_2 (wrap64 (Int.tmod a2 10))).bind fun t118 => (if t118 = (x11_2.length : Int) then (some (x112006_1 == 9)) else (some false))) else (some false)) else (some false)) else (if t110 = true then (if (x112000_1 == 32 && (x112001_1 == 4 && (x112002_1 == 26 && (x112003_1 == 27 && (x112004_1 == 10 && (x112005_1 == 18 && (x112006_1 == 9 && (x112007_1 == 1 && (x112008_1 == 1 && (x112009_1 == 128)))))))))) = true then ((class_Run.f k2 x11_2 (wrap64 (Int.tmod a2 10))).bind fun t119 => (if t119 = 0 then (some (x112006_1 == 9)) else (some false))) else (some false)) else (some false))) = some r := H
         have A55 := Aside0.mk A550
         clear A550
         by_cases c56 : t117 = (wrap64 (Int.tmod a2 10))
         ·rw [if_pos c56] at H
          have c56b0 : (t117 == (wrap64 (Int.tmod a2 10))) = true := beq_iff_eq.mpr c56
          have c56b1 : (t117 != (wrap64 (Int.tmod a2 10))) = false := bne_eq_false_iff_eq.mpr c56
          clear c56
          by_cases c57 : t110 = true
          ·subst c57
           have H1 : (if (x112000_1 == 32 && (x112001_1 == 4 && (x112002_1 == 26 && (x112003_1 == 27 && (x112004_1 == 10 && (x112005_1 == 18 && (x112006_1 == 9 && (x112007_1 == 1 && (x112008_1 == 1 && (x112009_1 == 128)))))))))) = true then ((class_Run.f k2 x11_2 (wrap64 (Int.tmod a2 10))).bind fun t118 => (if t118 = (x11_2.length : Int) then (some (x112006_1 == 9)) else (some false))) else (some false)) = some r := by rw [if_pos rfl] at H; exact H
           clear H
           have H := H1
           clear H1
           by_cases c58 : (x112000_1 == 32 && (x112001_1 == 4 && (x112002_1 == 26 && (x112003_1 == 27 && (x112004_1 == 10 && (x112005_1 == 18 && (x112006_1 == 9 && (x112007_1 == 1 && (x112008_1 == 1 && (x112009_1 == 128)))))))))) = true
           ·rw [if_pos c58] at H
            have c58b0 : (x112000_1 == 32 && (x112001_1 == 4 && (x112002_1 == 26 && (x112003_1 == 27 && (x112004_1 == 10 && (x112005_1 == 18 && (x112006_1 == 9 && (x112007_1 == 1 && (x112008_1 == 1 && (x112009_1 == 128)))))))))) = true := c58
            (try (have c58b1 : decide (x112000_1 = 32 && (x112001_1 == 4 && (x112002_1 == 26 && (x112003_1 == 27 && (x112004_1 == 10 && (x112005_1 == 18 && (x112006_1 == 9 && (x112007_1 == 1 && (x112008_1 == 1 && (x112009_1 == 128)))))))))) = true := by simpa using c58))
            (try (have c58b2 : (x112000_1 == 32 && (x112001_1 == 4 && (x112002_1 == 26 && (x112003_1 == 27 && (x112004_1 == 10 && (x112005_1 == 18 && (x112006_1 == 9 && (x112007_1 == 1 && (x112008_1 == 1 && (x112009_1 == 128)))))))))) = true := by simpa using c58))
            clear c58
            replace H := Option.bind_eq_some_iff.mp H
            obtain ⟨t118, A590, H⟩ := H
            replace H : (if t118 = (x11_2.length : Int) then (some (x112006_1 == 9)) else (some false)) = some r := H
            have A59 := Aside0.mk A590
            clear A590
            by_cases c60 : t118 = (x11_2.length : Int)
            ·rw [if_pos c60] at H
             have c60b0 : (t118 == (x11_2.length : Int)) = true := beq_iff_eq.mpr c60
             have c60b1 : (t118 != (x11_2.length : Int)) = false := bne_eq_false_iff_eq.mpr c60
             clear c60
             obtain rfl := Option.some.inj H
             obtain ⟨Ao61, co61, eo61⟩ := Kd.R_slice HO_11.out
             subst eo61
             go_wp2_with (first | ((with_reducible refine gate_callee (f := 8) rfl ?_); refine goesL_ (some 49) rfl rfl Tryd.func8 (by kernel_rfl) rfl #[.int .u8 a0] rfl (by (try simp only [List.map_toArray, List.map_cons, List.map_nil]); first | done | rfl | (simp only [List.length_drop, List.length_take]; rfl)) ?_; (with_reducible refine (class_Of.calls a0 t117 _ ?side1 A55.out).mono ?_); (case side1 => exact Gl.below HG.out (by repeat (first | (with_reducible first | exact HB.out | apply below_alloc | apply pw_below_drewN | apply below_drew1 | refine below_set ?_ GE111.out) | exact HB.out))); rintro e w62 ⟨rfl, hb⟩; refine ⟨_, rfl, ?_⟩; have n0_ := Aside0.mk (Kd.R_below (by (with_reducible repeat (first | apply Kd.R_alloc | apply Kd.R_drewN | apply Kd.R_drew)); exact HO_11.out) hb); have n1_ := Aside0.mk (blk_below (g := gb111) (o := .cells #[.int .i64 x112000_1, .int .i64 x112001_1, .int .i64 x112002_1, .int .i64 x112003_1, .int .i64 x112004_1, .int .i64 x112005_1, .int .i64 x112006_1, .int .i64 x112007_1, .int .i64 x112008_1, .int .i64 x112009_1] 30 (0, 0)) (by (with_reducible repeat (first | refine blk_drewN ?_ _ | refine blk_drew ?_ | refine blk_alloc ?_ _)); exact BK111.out) hb); have n2_ := Aside0.mk (below_step (by repeat (first | (with_reducible first | exact HB.out | apply below_alloc | apply pw_below_drewN | apply below_drew1 | refine below_set ?_ GE111.out) | exact HB.out)) hb); clear HO_11; clear BK111; clear HB; have HO_11 := n0_; have BK111 := n1_; have HB := n2_; clear n0_ n1_ n2_; (try clear hb); (try clear hb2); (try clear hk); (try clear hi); have hcz63_0 : w62.cell? ⟨gb111, 0, none⟩ = some (.int .i64 x112000_1) := (blk_cell BK111.out 0).trans rfl; have hcz63_1 : w62.cell? ⟨gb111, 1, none⟩ = some (.int .i64 x112001_1) := (blk_cell BK111.out 1).trans rfl; have hcz63_2 : w62.cell? ⟨gb111, 2, none⟩ = some (.int .i64 x112002_1) := (blk_cell BK111.out 2).trans rfl; have hcz63_3 : w62.cell? ⟨gb111, 3, none⟩ = some (.int .i64 x112003_1) := (blk_cell BK111.out 3).trans rfl; have hcz63_4 : w62.cell? ⟨gb111, 4, none⟩ = some (.int .i64 x112004_1) := (blk_cell BK111.out 4).trans rfl; have hcz63_5 : w62.cell? ⟨gb111, 5, none⟩ = some (.int .i64 x112005_1) := (blk_cell BK111.out 5).trans rfl; have hcz63_6 : w62.cell? ⟨gb111, 6, none⟩ = some (.int .i64 x112006_1) := (blk_cell BK111.out 6).trans rfl; have hcz63_7 : w62.cell? ⟨gb111, 7, none⟩ = some (.int .i64 x112007_1) := (blk_cell BK111.out 7).trans rfl; have hcz63_8 : w62.cell? ⟨gb111, 8, none⟩ = some (.int .i64 x112008_1) := (blk_cell BK111.out 8).trans rfl; have hcz63_9 : w62.cell? ⟨gb111, 9, none⟩ = some (.int .i64 x112009_1) := (blk_cell BK111.out 9).trans rfl; have hfz63_0 := blk_frozen BK111.out 0; have hfz63_1 := blk_frozen BK111.out 1; have hfz63_2 := blk_frozen BK111.out 2; have hfz63_3 := blk_frozen BK111.out 3; have hfz63_4 := blk_frozen BK111.out 4; have hfz63_5 := blk_frozen BK111.out 5; have hfz63_6 := blk_frozen BK111.out 6; have hfz63_7 := blk_frozen BK111.out 7; have hfz63_8 := blk_frozen BK111.out 8; have hfz63_9 := blk_frozen BK111.out 9) | ((with_reducible refine gate_callee (f := 12) rfl ?_); (try (refine gate_guard (by rfl) ?_; dsimp only)); refine goesL_ (some 67) rfl rfl Tryd.func12 (by kernel_rfl) rfl #[.slice Ao61 x11_2.length co61, .int .i64 (wrap64 (Int.tmod a2 10))] rfl (by (try simp only [List.map_toArray, List.map_cons, List.map_nil]); first | done | rfl | (simp only [List.length_drop, List.length_take]; rfl)) ?_; (with_reducible refine (class_Run.calls k2 _ _ x11_2 (wrap64 (Int.tmod a2 10)) t118 _ ?side1 ?side2 ?side3 A59.out).mono ?_); (case side1 => exact Gl.below HG.out (by repeat (first | (with_reducible first | exact HB.out | apply below_alloc | apply pw_below_drewN | apply below_drew1 | refine below_set ?_ GE111.out) | exact HB.out))); (case side2 => repeat (first | exact (Kd.R_reads' HO_11.out).2.2 | (with_reducible refine Kd.C_alloc ?_ _) | (with_reducible refine Kd.C_drewN ?_ _) | (with_reducible refine Kd.C_drew ?_))); (case side3 => exact (Kd.R_reads' HO_11.out).2.1); rintro e w64 ⟨rfl, hb⟩; refine ⟨_, rfl, ?_⟩; have n0_ := Aside0.mk (Kd.R_below (by (with_reducible repeat (first | apply Kd.R_alloc | apply Kd.R_drewN | apply Kd.R_drew)); exact HO_11.out) hb); have n1_ := Aside0.mk (blk_below (g := gb111) (o := .cells #[.int .i64 x112000_1, .int .i64 x112001_1, .int .i64 x112002_1, .int .i64 x112003_1, .int .i64 x112004_1, .int .i64 x112005_1, .int .i64 x112006_1, .int .i64 x112007_1, .int .i64 x112008_1, .int .i64 x112009_1] 30 (0, 0)) (by (with_reducible repeat (first | refine blk_drewN ?_ _ | refine blk_drew ?_ | refine blk_alloc ?_ _)); exact BK111.out) hb); have n2_ := Aside0.mk (below_step (by repeat (first | (with_reducible first | exact HB.out | apply below_alloc | apply pw_below_drewN | apply below_drew1 | refine below_set ?_ GE111.out) | exact HB.out)) hb); clear HO_11; clear BK111; clear HB; have HO_11 := n0_; have BK111 := n1_; have HB := n2_; clear n0_ n1_ n2_; (try clear hb); (try clear hb2); (try clear hk); (try clear hi); have hcz65_0 : w64.cell? ⟨gb111, 0, none⟩ = some (.int .i64 x112000_1) := (blk_cell BK111.out 0).trans rfl; have hcz65_1 : w64.cell? ⟨gb111, 1, none⟩ = some (.int .i64 x112001_1) := (blk_cell BK111.out 1).trans rfl; have hcz65_2 : w64.cell? ⟨gb111, 2, none⟩ = some (.int .i64 x112002_1) := (blk_cell BK111.out 2).trans rfl; have hcz65_3 : w64.cell? ⟨gb111, 3, none⟩ = some (.int .i64 x112003_1) := (blk_cell BK111.out 3).trans rfl; have hcz65_4 : w64.cell? ⟨gb111, 4, none⟩ = some (.int .i64 x112004_1) := (blk_cell BK111.out 4).trans rfl; have hcz65_5 : w64.cell? ⟨gb111, 5, none⟩ = some (.int .i64 x112005_1) := (blk_cell BK111.out 5).trans rfl; have hcz65_6 : w64.cell? ⟨gb111, 6, none⟩ = some (.int .i64 x112006_1) := (blk_cell BK111.out 6).trans rfl; have hcz65_7 : w64.cell? ⟨gb111, 7, none⟩ = some (.int .i64 x112007_1) := (blk_cell BK111.out 7).trans rfl; have hcz65_8 : w64.cell? ⟨gb111, 8, none⟩ = some (.int .i64 x112008_1) := (blk_cell BK111.out 8).trans rfl; have hcz65_9 : w64.cell? ⟨gb111, 9, none⟩ = some (.int .i64 x112009_1) := (blk_cell BK111.out 9).trans rfl; have hfz65_0 := blk_frozen BK111.out 0; have hfz65_1 := blk_frozen BK111.out 1; have hfz65_2 := blk_frozen BK111.out 2; have hfz65_3 := blk_frozen BK111.out 3; have hfz65_4 := blk_frozen BK111.out 4; have hfz65_5 := blk_frozen BK111.out 5; have hfz65_6 := blk_frozen BK111.out 6; have hfz65_7 := blk_frozen BK111.out 7; have hfz65_8 := blk_frozen BK111.out 8; have hfz65_9 := blk_frozen BK111.out 9))
             go_ret
             exact ⟨by first | rfl | (simp [errW_none, errW_some] <;> rfl) | (simp only [← hji44]; first | rfl | (simp [errW_none, errW_some] <;> rfl)) | (simp [*, errW_none, errW_some] <;> rfl), by repeat (first | (with_reducible first | exact HB.out | apply below_alloc | apply pw_below_drewN | apply below_drew1 | refine below_set ?_ GE111.out) | exact HB.out)⟩
            ·rw [if_neg c60] at H
             have c60b0 : (t118 == (x11_2.length : Int)) = false := beq_eq_false_iff_ne.mpr c60
             have c60b1 : (t118 != (x11_2.length : Int)) = true := bne_iff_ne.mpr c60
             obtain rfl := Option.some.inj H
             obtain ⟨Ao66, co66, eo66⟩ := Kd.R_slice HO_11.out
             subst eo66
             go_wp2_with (first | ((with_reducible refine gate_callee (f := 8) rfl ?_); refine goesL_ (some 49) rfl rfl Tryd.func8 (by kernel_rfl) rfl #[.int .u8 a0] rfl (by (try simp only [List.map_toArray, List.map_cons, List.map_nil]); first | done | rfl | (simp only [List.length_drop, List.length_take]; rfl)) ?_; (with_reducible refine (class_Of.calls a0 t117 _ ?side1 A55.out).mono ?_); (case side1 => exact Gl.below HG.out (by repeat (first | (with_reducible first | exact HB.out | apply below_alloc | apply pw_below_drewN | apply below_drew1 | refine below_set ?_ GE111.out) | exact HB.out))); rintro e w67 ⟨rfl, hb⟩; refine ⟨_, rfl, ?_⟩; have n0_ := Aside0.mk (Kd.R_below (by (with_reducible repeat (first | apply Kd.R_alloc | apply Kd.R_drewN | apply Kd.R_drew)); exact HO_11.out) hb); have n1_ := Aside0.mk (blk_below (g := gb111) (o := .cells #[.int .i64 x112000_1, .int .i64 x112001_1, .int .i64 x112002_1, .int .i64 x112003_1, .int .i64 x112004_1, .int .i64 x112005_1, .int .i64 x112006_1, .int .i64 x112007_1, .int .i64 x112008_1, .int .i64 x112009_1] 30 (0, 0)) (by (with_reducible repeat (first | refine blk_drewN ?_ _ | refine blk_drew ?_ | refine blk_alloc ?_ _)); exact BK111.out) hb); have n2_ := Aside0.mk (below_step (by repeat (first | (with_reducible first | exact HB.out | apply below_alloc | apply pw_below_drewN | apply below_drew1 | refine below_set ?_ GE111.out) | exact HB.out)) hb); clear HO_11; clear BK111; clear HB; have HO_11 := n0_; have BK111 := n1_; have HB := n2_; clear n0_ n1_ n2_; (try clear hb); (try clear hb2); (try clear hk); (try clear hi); have hcz68_0 : w67.cell? ⟨gb111, 0, none⟩ = some (.int .i64 x112000_1) := (blk_cell BK111.out 0).trans rfl; have hcz68_1 : w67.cell? ⟨gb111, 1, none⟩ = some (.int .i64 x112001_1) := (blk_cell BK111.out 1).trans rfl; have hcz68_2 : w67.cell? ⟨gb111, 2, none⟩ = some (.int .i64 x112002_1) := (blk_cell BK111.out 2).trans rfl; have hcz68_3 : w67.cell? ⟨gb111, 3, none⟩ = some (.int .i64 x112003_1) := (blk_cell BK111.out 3).trans rfl; have hcz68_4 : w67.cell? ⟨gb111, 4, none⟩ = some (.int .i64 x112004_1) := (blk_cell BK111.out 4).trans rfl; have hcz68_5 : w67.cell? ⟨gb111, 5, none⟩ = some (.int .i64 x112005_1) := (blk_cell BK111.out 5).trans rfl; have hcz68_6 : w67.cell? ⟨gb111, 6, none⟩ = some (.int .i64 x112006_1) := (blk_cell BK111.out 6).trans rfl; have hcz68_7 : w67.cell? ⟨gb111, 7, none⟩ = some (.int .i64 x112007_1) := (blk_cell BK111.out 7).trans rfl; have hcz68_8 : w67.cell? ⟨gb111, 8, none⟩ = some (.int .i64 x112008_1) := (blk_cell BK111.out 8).trans rfl; have hcz68_9 : w67.cell? ⟨gb111, 9, none⟩ = some (.int .i64 x112009_1) := (blk_cell BK111.out 9).trans rfl; have hfz68_0 := blk_frozen BK111.out 0; have hfz68_1 := blk_frozen BK111.out 1; have hfz68_2 := blk_frozen BK111.out 2; have hfz68_3 := blk_frozen BK111.out 3; have hfz68_4 := blk_frozen BK111.out 4; have hfz68_5 := blk_frozen BK111.out 5; have hfz68_6 := blk_frozen BK111.out 6; have hfz68_7 := blk_frozen BK111.out 7; have hfz68_8 := blk_frozen BK111.out 8; have hfz68_9 := blk_frozen BK111.out 9) | ((with_reducible refine gate_callee (f := 12) rfl ?_); (try (refine gate_guard (by rfl) ?_; dsimp only)); refine goesL_ (some 67) rfl rfl Tryd.func12 (by kernel_rfl) rfl #[.slice Ao66 x11_2.length co66, .int .i64 (wrap64 (Int.tmod a2 10))] rfl (by (try simp only [List.map_toArray, List.map_cons, List.map_nil]); first | done | rfl | (simp only [List.length_drop, List.length_take]; rfl)) ?_; (with_reducible refine (class_Run.calls k2 _ _ x11_2 (wrap64 (Int.tmod a2 10)) t118 _ ?side1 ?side2 ?side3 A59.out).mono ?_); (case side1 => exact Gl.below HG.out (by repeat (first | (with_reducible first | exact HB.out | apply below_alloc | apply pw_below_drewN | apply below_drew1 | refine below_set ?_ GE111.out) | exact HB.out))); (case side2 => repeat (first | exact (Kd.R_reads' HO_11.out).2.2 | (with_reducible refine Kd.C_alloc ?_ _) | (with_reducible refine Kd.C_drewN ?_ _) | (with_reducible refine Kd.C_drew ?_))); (case side3 => exact (Kd.R_reads' HO_11.out).2.1); rintro e w69 ⟨rfl, hb⟩; refine ⟨_, rfl, ?_⟩; have n0_ := Aside0.mk (Kd.R_below (by (with_reducible repeat (first | apply Kd.R_alloc | apply Kd.R_drewN | apply Kd.R_drew)); exact HO_11.out) hb); have n1_ := Aside0.mk (blk_below (g := gb111) (o := .cells #[.int .i64 x112000_1, .int .i64 x112001_1, .int .i64 x112002_1, .int .i64 x112003_1, .int .i64 x112004_1, .int .i64 x112005_1, .int .i64 x112006_1, .int .i64 x112007_1, .int .i64 x112008_1, .int .i64 x112009_1] 30 (0, 0)) (by (with_reducible repeat (first | refine blk_drewN ?_ _ | refine blk_drew ?_ | refine blk_alloc ?_ _)); exact BK111.out) hb); have n2_ := Aside0.mk (below_step (by repeat (first | (with_reducible first | exact HB.out | apply below_alloc | apply pw_below_drewN | apply below_drew1 | refine below_set ?_ GE111.out) | exact HB.out)) hb); clear HO_11; clear BK111; clear HB; have HO_11 := n0_; have BK111 := n1_; have HB := n2_; clear n0_ n1_ n2_; (try clear hb); (try clear hb2); (try clear hk); (try clear hi)))
             go_ret
             exact ⟨by first | rfl | (simp [errW_none, errW_some] <;> rfl) | (simp only [← hji44]; first | rfl | (simp [errW_none, errW_some] <;> rfl)) | (simp [*, errW_none, errW_some] <;> rfl), by repeat (first | (with_reducible first | exact HB.out | apply below_alloc | apply pw_below_drewN | apply below_drew1 | refine below_set ?_ GE111.out) | exact HB.out)⟩
           ·rw [if_neg c58] at H
            have c58b0 : (x112000_1 == 32 && (x112001_1 == 4 && (x112002_1 == 26 && (x112003_1 == 27 && (x112004_1 == 10 && (x112005_1 == 18 && (x112006_1 == 9 && (x112007_1 == 1 && (x112008_1 == 1 && (x112009_1 == 128)))))))))) = false := by simpa using c58
            (try (have c58b1 : decide (x112000_1 = 32 && (x112001_1 == 4 && (x112002_1 == 26 && (x112003_1 == 27 && (x112004_1 == 10 && (x112005_1 == 18 && (x112006_1 == 9 && (x112007_1 == 1 && (x112008_1 == 1 && (x112009_1 == 128)))))))))) = false := by simpa using c58))
            (try (have c58b2 : (x112000_1 == 32 && (x112001_1 == 4 && (x112002_1 == 26 && (x112003_1 == 27 && (x112004_1 == 10 && (x112005_1 == 18 && (x112006_1 == 9 && (x112007_1 == 1 && (x112008_1 == 1 && (x112009_1 == 128)))))))))) = false := by simpa using c58))
            (try (have c58b3 : ¬ (x112000_1 = 32 && (x112001_1 == 4 && (x112002_1 == 26 && (x112003_1 == 27 && (x112004_1 == 10 && (x112005_1 == 18 && (x112006_1 == 9 && (x112007_1 == 1 && (x112008_1 == 1 && (x112009_1 == 128)))))))))) := by simpa using c58))
            clear c58
            obtain rfl := Option.some.inj H
            obtain ⟨Ao70, co70, eo70⟩ := Kd.R_slice HO_11.out
            subst eo70
            go_wp2_with (first | ((with_reducible refine gate_callee (f := 8) rfl ?_); refine goesL_ (some 49) rfl rfl Tryd.func8 (by kernel_rfl) rfl #[.int .u8 a0] rfl (by (try simp only [List.map_toArray, List.map_cons, List.map_nil]); first | done | rfl | (simp only [List.length_drop, List.length_take]; rfl)) ?_; (with_reducible refine (class_Of.calls a0 t117 _ ?side1 A55.out).mono ?_); (case side1 => exact Gl.below HG.out (by repeat (first | (with_reducible first | exact HB.out | apply below_alloc | apply pw_below_drewN | apply below_drew1 | refine below_set ?_ GE111.out) | exact HB.out))); rintro e w71 ⟨rfl, hb⟩; refine ⟨_, rfl, ?_⟩; have n0_ := Aside0.mk (Kd.R_below (by (with_reducible repeat (first | apply Kd.R_alloc | apply Kd.R_drewN | apply Kd.R_drew)); exact HO_11.out) hb); have n1_ := Aside0.mk (blk_below (g := gb111) (o := .cells #[.int .i64 x112000_1, .int .i64 x112001_1, .int .i64 x112002_1, .int .i64 x112003_1, .int .i64 x112004_1, .int .i64 x112005_1, .int .i64 x112006_1, .int .i64 x112007_1, .int .i64 x112008_1, .int .i64 x112009_1] 30 (0, 0)) (by (with_reducible repeat (first | refine blk_drewN ?_ _ | refine blk_drew ?_ | refine blk_alloc ?_ _)); exact BK111.out) hb); have n2_ := Aside0.mk (below_step (by repeat (first | (with_reducible first | exact HB.out | apply below_alloc | apply pw_below_drewN | apply below_drew1 | refine below_set ?_ GE111.out) | exact HB.out)) hb); clear HO_11; clear BK111; clear HB; have HO_11 := n0_; have BK111 := n1_; have HB := n2_; clear n0_ n1_ n2_; (try clear hb); (try clear hb2); (try clear hk); (try clear hi); have hcz72_0 : w71.cell? ⟨gb111, 0, none⟩ = some (.int .i64 x112000_1) := (blk_cell BK111.out 0).trans rfl; have hcz72_1 : w71.cell? ⟨gb111, 1, none⟩ = some (.int .i64 x112001_1) := (blk_cell BK111.out 1).trans rfl; have hcz72_2 : w71.cell? ⟨gb111, 2, none⟩ = some (.int .i64 x112002_1) := (blk_cell BK111.out 2).trans rfl; have hcz72_3 : w71.cell? ⟨gb111, 3, none⟩ = some (.int .i64 x112003_1) := (blk_cell BK111.out 3).trans rfl; have hcz72_4 : w71.cell? ⟨gb111, 4, none⟩ = some (.int .i64 x112004_1) := (blk_cell BK111.out 4).trans rfl; have hcz72_5 : w71.cell? ⟨gb111, 5, none⟩ = some (.int .i64 x112005_1) := (blk_cell BK111.out 5).trans rfl; have hcz72_6 : w71.cell? ⟨gb111, 6, none⟩ = some (.int .i64 x112006_1) := (blk_cell BK111.out 6).trans rfl; have hcz72_7 : w71.cell? ⟨gb111, 7, none⟩ = some (.int .i64 x112007_1) := (blk_cell BK111.out 7).trans rfl; have hcz72_8 : w71.cell? ⟨gb111, 8, none⟩ = some (.int .i64 x112008_1) := (blk_cell BK111.out 8).trans rfl; have hcz72_9 : w71.cell? ⟨gb111, 9, none⟩ = some (.int .i64 x112009_1) := (blk_cell BK111.out 9).trans rfl; have hfz72_0 := blk_frozen BK111.out 0; have hfz72_1 := blk_frozen BK111.out 1; have hfz72_2 := blk_frozen BK111.out 2; have hfz72_3 := blk_frozen BK111.out 3; have hfz72_4 := blk_frozen BK111.out 4; have hfz72_5 := blk_frozen BK111.out 5; have hfz72_6 := blk_frozen BK111.out 6; have hfz72_7 := blk_frozen BK111.out 7; have hfz72_8 := blk_frozen BK111.out 8; have hfz72_9 := blk_frozen BK111.out 9))
            go_ret
            exact ⟨by first | rfl | (simp [errW_none, errW_some] <;> rfl) | (simp only [← hji44]; first | rfl | (simp [errW_none, errW_some] <;> rfl)) | (simp [*, errW_none, errW_some] <;> rfl), by repeat (first | (with_reducible first | exact HB.out | apply below_alloc | apply pw_below_drewN | apply below_drew1 | refine below_set ?_ GE111.out) | exact HB.out)⟩
          ·replace c57 := Bool.eq_false_iff.mpr c57
           subst c57
           have H1 : (some false) = some r := by rw [if_neg (show ¬ (false = true) by decide)] at H; exact H
           clear H
           have H := H1
           clear H1
           obtain rfl := Option.some.inj H
           obtain ⟨Ao73, co73, eo73⟩ := Kd.R_slice HO_11.out
           subst eo73
           go_wp2_with (first | ((with_reducible refine gate_callee (f := 8) rfl ?_); refine goesL_ (some 49) rfl rfl Tryd.func8 (by kernel_rfl) rfl #[.int .u8 a0] rfl (by (try simp only [List.map_toArray, List.map_cons, List.map_nil]); first | done | rfl | (simp only [List.length_drop, List.length_take]; rfl)) ?_; (with_reducible refine (class_Of.calls a0 t117 _ ?side1 A55.out).mono ?_); (case side1 => exact Gl.below HG.out (by repeat (first | (with_reducible first | exact HB.out | apply below_alloc | apply pw_below_drewN | apply below_drew1 | refine below_set ?_ GE111.out) | exact HB.out))); rintro e w74 ⟨rfl, hb⟩; refine ⟨_, rfl, ?_⟩; have n0_ := Aside0.mk (Kd.R_below (by (with_reducible repeat (first | apply Kd.R_alloc | apply Kd.R_drewN | apply Kd.R_drew)); exact HO_11.out) hb); have n1_ := Aside0.mk (blk_below (g := gb111) (o := .cells #[.int .i64 x112000_1, .int .i64 x112001_1, .int .i64 x112002_1, .int .i64 x112003_1, .int .i64 x112004_1, .int .i64 x112005_1, .int .i64 x112006_1, .int .i64 x112007_1, .int .i64 x112008_1, .int .i64 x112009_1] 30 (0, 0)) (by (with_reducible repeat (first | refine blk_drewN ?_ _ | refine blk_drew ?_ | refine blk_alloc ?_ _)); exact BK111.out) hb); have n2_ := Aside0.mk (below_step (by repeat (first | (with_reducible first | exact HB.out | apply below_alloc | apply pw_below_drewN | apply below_drew1 | refine below_set ?_ GE111.out) | exact HB.out)) hb); clear HO_11; clear BK111; clear HB; have HO_11 := n0_; have BK111 := n1_; have HB := n2_; clear n0_ n1_ n2_; (try clear hb); (try clear hb2); (try clear hk); (try clear hi)))
           go_ret
           exact ⟨by first | rfl | (simp [errW_none, errW_some] <;> rfl) | (simp only [← hji44]; first | rfl | (simp [errW_none, errW_some] <;> rfl)) | (simp [*, errW_none, errW_some] <;> rfl), by repeat (first | (with_reducible first | exact HB.out | apply below_alloc | apply pw_below_drewN | apply below_drew1 | refine below_set ?_ GE111.out) | exact HB.out)⟩
         ·rw [if_neg c56] at H
          have c56b0 : (t117 == (wrap64 (Int.tmod a2 10))) = false := beq_eq_false_iff_ne.mpr c56
          have c56b1 : (t117 != (wrap64 (Int.tmod a2 10))) = true := bne_iff_ne.mpr c56
          by_cases c75 : t110 = true
          ·subst c75
           have H1 : (if (x112000_1 == 32 && (x112001_1 == 4 && (x112002_1 == 26 && (x112003_1 == 27 && (x112004_1 == 10 && (x112005_1 == 18 && (x112006_1 == 9 && (x112007_1 == 1 && (x112008_1 == 1 && (x112009_1 == 128)))))))))) = true then ((class_Run.f k2 x11_2 (wrap64 (Int.tmod a2 10))).bind fun t119 => (if t119 = 0 then (some (x112006_1 == 9)) else (some false))) else (some false)) = some r := by rw [if_pos rfl] at H; exact H
           clear H
           have H := H1
           clear H1
           by_cases c76 : (x112000_1 == 32 && (x112001_1 == 4 && (x112002_1 == 26 && (x112003_1 == 27 && (x112004_1 == 10 && (x112005_1 == 18 && (x112006_1 == 9 && (x112007_1 == 1 && (x112008_1 == 1 && (x112009_1 == 128)))))))))) = true
           ·rw [if_pos c76] at H
            have c76b0 : (x112000_1 == 32 && (x112001_1 == 4 && (x112002_1 == 26 && (x112003_1 == 27 && (x112004_1 == 10 && (x112005_1 == 18 && (x112006_1 == 9 && (x112007_1 == 1 && (x112008_1 == 1 && (x112009_1 == 128)))))))))) = true := c76
            (try (have c76b1 : decide (x112000_1 = 32 && (x112001_1 == 4 && (x112002_1 == 26 && (x112003_1 == 27 && (x112004_1 == 10 && (x112005_1 == 18 && (x112006_1 == 9 && (x112007_1 == 1 && (x112008_1 == 1 && (x112009_1 == 128)))))))))) = true := by simpa using c76))
            (try (have c76b2 : (x112000_1 == 32 && (x112001_1 == 4 && (x112002_1 == 26 && (x112003_1 == 27 && (x112004_1 == 10 && (x112005_1 == 18 && (x112006_1 == 9 && (x112007_1 == 1 && (x112008_1 == 1 && (x112009_1 == 128)))))))))) = true := by simpa using c76))
            clear c76
            replace H := Option.bind_eq_some_iff.mp H
            obtain ⟨t119, A770, H⟩ := H
            replace H : (if t119 = 0 then (some (x112006_1 == 9)) else (some false)) = some r := H
            have A77 := Aside0.mk A770
            clear A770
            by_cases c78 : t119 = 0
            ·rw [if_pos c78] at H
             have c78b0 : (t119 == 0) = true := beq_iff_eq.mpr c78
             have c78b1 : (t119 != 0) = false := bne_eq_false_iff_eq.mpr c78
             clear c78
             obtain rfl := Option.some.inj H
             obtain ⟨Ao79, co79, eo79⟩ := Kd.R_slice HO_11.out
             subst eo79
             go_wp2_with (first | ((with_reducible refine gate_callee (f := 8) rfl ?_); refine goesL_ (some 49) rfl rfl Tryd.func8 (by kernel_rfl) rfl #[.int .u8 a0] rfl (by (try simp only [List.map_toArray, List.map_cons, List.map_nil]); first | done | rfl | (simp only [List.length_drop, List.length_take]; rfl)) ?_; (with_reducible refine (class_Of.calls a0 t117 _ ?side1 A55.out).mono ?_); (case side1 => exact Gl.below HG.out (by repeat (first | (with_reducible first | exact HB.out | apply below_alloc | apply pw_below_drewN | apply below_drew1 | refine below_set ?_ GE111.out) | exact HB.out))); rintro e w80 ⟨rfl, hb⟩; refine ⟨_, rfl, ?_⟩; have n0_ := Aside0.mk (Kd.R_below (by (with_reducible repeat (first | apply Kd.R_alloc | apply Kd.R_drewN | apply Kd.R_drew)); exact HO_11.out) hb); have n1_ := Aside0.mk (blk_below (g := gb111) (o := .cells #[.int .i64 x112000_1, .int .i64 x112001_1, .int .i64 x112002_1, .int .i64 x112003_1, .int .i64 x112004_1, .int .i64 x112005_1, .int .i64 x112006_1, .int .i64 x112007_1, .int .i64 x112008_1, .int .i64 x112009_1] 30 (0, 0)) (by (with_reducible repeat (first | refine blk_drewN ?_ _ | refine blk_drew ?_ | refine blk_alloc ?_ _)); exact BK111.out) hb); have n2_ := Aside0.mk (below_step (by repeat (first | (with_reducible first | exact HB.out | apply below_alloc | apply pw_below_drewN | apply below_drew1 | refine below_set ?_ GE111.out) | exact HB.out)) hb); clear HO_11; clear BK111; clear HB; have HO_11 := n0_; have BK111 := n1_; have HB := n2_; clear n0_ n1_ n2_; (try clear hb); (try clear hb2); (try clear hk); (try clear hi); have hcz81_0 : w80.cell? ⟨gb111, 0, none⟩ = some (.int .i64 x112000_1) := (blk_cell BK111.out 0).trans rfl; have hcz81_1 : w80.cell? ⟨gb111, 1, none⟩ = some (.int .i64 x112001_1) := (blk_cell BK111.out 1).trans rfl; have hcz81_2 : w80.cell? ⟨gb111, 2, none⟩ = some (.int .i64 x112002_1) := (blk_cell BK111.out 2).trans rfl; have hcz81_3 : w80.cell? ⟨gb111, 3, none⟩ = some (.int .i64 x112003_1) := (blk_cell BK111.out 3).trans rfl; have hcz81_4 : w80.cell? ⟨gb111, 4, none⟩ = some (.int .i64 x112004_1) := (blk_cell BK111.out 4).trans rfl; have hcz81_5 : w80.cell? ⟨gb111, 5, none⟩ = some (.int .i64 x112005_1) := (blk_cell BK111.out 5).trans rfl; have hcz81_6 : w80.cell? ⟨gb111, 6, none⟩ = some (.int .i64 x112006_1) := (blk_cell BK111.out 6).trans rfl; have hcz81_7 : w80.cell? ⟨gb111, 7, none⟩ = some (.int .i64 x112007_1) := (blk_cell BK111.out 7).trans rfl; have hcz81_8 : w80.cell? ⟨gb111, 8, none⟩ = some (.int .i64 x112008_1) := (blk_cell BK111.out 8).trans rfl; have hcz81_9 : w80.cell? ⟨gb111, 9, none⟩ = some (.int .i64 x112009_1) := (blk_cell BK111.out 9).trans rfl; have hfz81_0 := blk_frozen BK111.out 0; have hfz81_1 := blk_frozen BK111.out 1; have hfz81_2 := blk_frozen BK111.out 2; have hfz81_3 := blk_frozen BK111.out 3; have hfz81_4 := blk_frozen BK111.out 4; have hfz81_5 := blk_frozen BK111.out 5; have hfz81_6 := blk_frozen BK111.out 6; have hfz81_7 := blk_frozen BK111.out 7; have hfz81_8 := blk_frozen BK111.out 8; have hfz81_9 := blk_frozen BK111.out 9) | ((with_reducible refine gate_callee (f := 12) rfl ?_); (try (refine gate_guard (by rfl) ?_; dsimp only)); refine goesL_ (some 67) rfl rfl Tryd.func12 (by kernel_rfl) rfl #[.slice Ao79 x11_2.length co79, .int .i64 (wrap64 (Int.tmod a2 10))] rfl (by (try simp only [List.map_toArray, List.map_cons, List.map_nil]); first | done | rfl | (simp only [List.length_drop, List.length_take]; rfl)) ?_; (with_reducible refine (class_Run.calls k2 _ _ x11_2 (wrap64 (Int.tmod a2 10)) t119 _ ?side1 ?side2 ?side3 A77.out).mono ?_); (case side1 => exact Gl.below HG.out (by repeat (first | (with_reducible first | exact HB.out | apply below_alloc | apply pw_below_drewN | apply below_drew1 | refine below_set ?_ GE111.out) | exact HB.out))); (case side2 => repeat (first | exact (Kd.R_reads' HO_11.out).2.2 | (with_reducible refine Kd.C_alloc ?_ _) | (with_reducible refine Kd.C_drewN ?_ _) | (with_reducible refine Kd.C_drew ?_))); (case side3 => exact (Kd.R_reads' HO_11.out).2.1); rintro e w82 ⟨rfl, hb⟩; refine ⟨_, rfl, ?_⟩; have n0_ := Aside0.mk (Kd.R_below (by (with_reducible repeat (first | apply Kd.R_alloc | apply Kd.R_drewN | apply Kd.R_drew)); exact HO_11.out) hb); have n1_ := Aside0.mk (blk_below (g := gb111) (o := .cells #[.int .i64 x112000_1, .int .i64 x112001_1, .int .i64 x112002_1, .int .i64 x112003_1, .int .i64 x112004_1, .int .i64 x112005_1, .int .i64 x112006_1, .int .i64 x112007_1, .int .i64 x112008_1, .int .i64 x112009_1] 30 (0, 0)) (by (with_reducible repeat (first | refine blk_drewN ?_ _ | refine blk_drew ?_ | refine blk_alloc ?_ _)); exact BK111.out) hb); have n2_ := Aside0.mk (below_step (by repeat (first | (with_reducible first | exact HB.out | apply below_alloc | apply pw_below_drewN | apply below_drew1 | refine below_set ?_ GE111.out) | exact HB.out)) hb); clear HO_11; clear BK111; clear HB; have HO_11 := n0_; have BK111 := n1_; have HB := n2_; clear n0_ n1_ n2_; (try clear hb); (try clear hb2); (try clear hk); (try clear hi); have hcz83_0 : w82.cell? ⟨gb111, 0, none⟩ = some (.int .i64 x112000_1) := (blk_cell BK111.out 0).trans rfl; have hcz83_1 : w82.cell? ⟨gb111, 1, none⟩ = some (.int .i64 x112001_1) := (blk_cell BK111.out 1).trans rfl; have hcz83_2 : w82.cell? ⟨gb111, 2, none⟩ = some (.int .i64 x112002_1) := (blk_cell BK111.out 2).trans rfl; have hcz83_3 : w82.cell? ⟨gb111, 3, none⟩ = some (.int .i64 x112003_1) := (blk_cell BK111.out 3).trans rfl; have hcz83_4 : w82.cell? ⟨gb111, 4, none⟩ = some (.int .i64 x112004_1) := (blk_cell BK111.out 4).trans rfl; have hcz83_5 : w82.cell? ⟨gb111, 5, none⟩ = some (.int .i64 x112005_1) := (blk_cell BK111.out 5).trans rfl; have hcz83_6 : w82.cell? ⟨gb111, 6, none⟩ = some (.int .i64 x112006_1) := (blk_cell BK111.out 6).trans rfl; have hcz83_7 : w82.cell? ⟨gb111, 7, none⟩ = some (.int .i64 x112007_1) := (blk_cell BK111.out 7).trans rfl; have hcz83_8 : w82.cell? ⟨gb111, 8, none⟩ = some (.int .i64 x112008_1) := (blk_cell BK111.out 8).trans rfl; have hcz83_9 : w82.cell? ⟨gb111, 9, none⟩ = some (.int .i64 x112009_1) := (blk_cell BK111.out 9).trans rfl; have hfz83_0 := blk_frozen BK111.out 0; have hfz83_1 := blk_frozen BK111.out 1; have hfz83_2 := blk_frozen BK111.out 2; have hfz83_3 := blk_frozen BK111.out 3; have hfz83_4 := blk_frozen BK111.out 4; have hfz83_5 := blk_frozen BK111.out 5; have hfz83_6 := blk_frozen BK111.out 6; have hfz83_7 := blk_frozen BK111.out 7; have hfz83_8 := blk_frozen BK111.out 8; have hfz83_9 := blk_frozen BK111.out 9))
             go_ret
             exact ⟨by first | rfl | (simp [errW_none, errW_some] <;> rfl) | (simp only [← hji44]; first | rfl | (simp [errW_none, errW_some] <;> rfl)) | (simp [*, errW_none, errW_some] <;> rfl), by repeat (first | (with_reducible first | exact HB.out | apply below_alloc | apply pw_below_drewN | apply below_drew1 | refine below_set ?_ GE111.out) | exact HB.out)⟩
            ·rw [if_neg c78] at H
             have c78b0 : (t119 == 0) = false := beq_eq_false_iff_ne.mpr c78
             have c78b1 : (t119 != 0) = true := bne_iff_ne.mpr c78
             obtain rfl := Option.some.inj H
             obtain ⟨Ao84, co84, eo84⟩ := Kd.R_slice HO_11.out
             subst eo84
             go_wp2_with (first | ((with_reducible refine gate_callee (f := 8) rfl ?_); refine goesL_ (some 49) rfl rfl Tryd.func8 (by kernel_rfl) rfl #[.int .u8 a0] rfl (by (try simp only [List.map_toArray, List.map_cons, List.map_nil]); first | done | rfl | (simp only [List.length_drop, List.length_take]; rfl)) ?_; (with_reducible refine (class_Of.calls a0 t117 _ ?side1 A55.out).mono ?_); (case side1 => exact Gl.below HG.out (by repeat (first | (with_reducible first | exact HB.out | apply below_alloc | apply pw_below_drewN | apply below_drew1 | refine below_set ?_ GE111.out) | exact HB.out))); rintro e w85 ⟨rfl, hb⟩; refine ⟨_, rfl, ?_⟩; have n0_ := Aside0.mk (Kd.R_below (by (with_reducible repeat (first | apply Kd.R_alloc | apply Kd.R_drewN | apply Kd.R_drew)); exact HO_11.out) hb); have n1_ := Aside0.mk (blk_below (g := gb111) (o := .cells #[.int .i64 x112000_1, .int .i64 x112001_1, .int .i64 x112002_1, .int .i64 x112003_1, .int .i64 x112004_1, .int .i64 x112005_1, .int .i64 x112006_1, .int .i64 x112007_1, .int .i64 x112008_1, .int .i64 x112009_1] 30 (0, 0)) (by (with_reducible repeat (first | refine blk_drewN ?_ _ | refine blk_drew ?_ | refine blk_alloc ?_ _)); exact BK111.out) hb); have n2_ := Aside0.mk (below_step (by repeat (first | (with_reducible first | exact HB.out | apply below_alloc | apply pw_below_drewN | apply below_drew1 | refine below_set ?_ GE111.out) | exact HB.out)) hb); clear HO_11; clear BK111; clear HB; have HO_11 := n0_; have BK111 := n1_; have HB := n2_; clear n0_ n1_ n2_; (try clear hb); (try clear hb2); (try clear hk); (try clear hi); have hcz86_0 : w85.cell? ⟨gb111, 0, none⟩ = some (.int .i64 x112000_1) := (blk_cell BK111.out 0).trans rfl; have hcz86_1 : w85.cell? ⟨gb111, 1, none⟩ = some (.int .i64 x112001_1) := (blk_cell BK111.out 1).trans rfl; have hcz86_2 : w85.cell? ⟨gb111, 2, none⟩ = some (.int .i64 x112002_1) := (blk_cell BK111.out 2).trans rfl; have hcz86_3 : w85.cell? ⟨gb111, 3, none⟩ = some (.int .i64 x112003_1) := (blk_cell BK111.out 3).trans rfl; have hcz86_4 : w85.cell? ⟨gb111, 4, none⟩ = some (.int .i64 x112004_1) := (blk_cell BK111.out 4).trans rfl; have hcz86_5 : w85.cell? ⟨gb111, 5, none⟩ = some (.int .i64 x112005_1) := (blk_cell BK111.out 5).trans rfl; have hcz86_6 : w85.cell? ⟨gb111, 6, none⟩ = some (.int .i64 x112006_1) := (blk_cell BK111.out 6).trans rfl; have hcz86_7 : w85.cell? ⟨gb111, 7, none⟩ = some (.int .i64 x112007_1) := (blk_cell BK111.out 7).trans rfl; have hcz86_8 : w85.cell? ⟨gb111, 8, none⟩ = some (.int .i64 x112008_1) := (blk_cell BK111.out 8).trans rfl; have hcz86_9 : w85.cell? ⟨gb111, 9, none⟩ = some (.int .i64 x112009_1) := (blk_cell BK111.out 9).trans rfl; have hfz86_0 := blk_frozen BK111.out 0; have hfz86_1 := blk_frozen BK111.out 1; have hfz86_2 := blk_frozen BK111.out 2; have hfz86_3 := blk_frozen BK111.out 3; have hfz86_4 := blk_frozen BK111.out 4; have hfz86_5 := blk_frozen BK111.out 5; have hfz86_6 := blk_frozen BK111.out 6; have hfz86_7 := blk_frozen BK111.out 7; have hfz86_8 := blk_frozen BK111.out 8; have hfz86_9 := blk_frozen BK111.out 9) | ((with_reducible refine gate_callee (f := 12) rfl ?_); (try (refine gate_guard (by rfl) ?_; dsimp only)); refine goesL_ (some 67) rfl rfl Tryd.func12 (by kernel_rfl) rfl #[.slice Ao84 x11_2.length co84, .int .i64 (wrap64 (Int.tmod a2 10))] rfl (by (try simp only [List.map_toArray, List.map_cons, List.map_nil]); first | done | rfl | (simp only [List.length_drop, List.length_take]; rfl)) ?_; (with_reducible refine (class_Run.calls k2 _ _ x11_2 (wrap64 (Int.tmod a2 10)) t119 _ ?side1 ?side2 ?side3 A77.out).mono ?_); (case side1 => exact Gl.below HG.out (by repeat (first | (with_reducible first | exact HB.out | apply below_alloc | apply pw_below_drewN | apply below_drew1 | refine below_set ?_ GE111.out) | exact HB.out))); (case side2 => repeat (first | exact (Kd.R_reads' HO_11.out).2.2 | (with_reducible refine Kd.C_alloc ?_ _) | (with_reducible refine Kd.C_drewN ?_ _) | (with_reducible refine Kd.C_drew ?_))); (case side3 => exact (Kd.R_reads' HO_11.out).2.1); rintro e w87 ⟨rfl, hb⟩; refine ⟨_, rfl, ?_⟩; have n0_ := Aside0.mk (Kd.R_below (by (with_reducible repeat (first | apply Kd.R_alloc | apply Kd.R_drewN | apply Kd.R_drew)); exact HO_11.out) hb); have n1_ := Aside0.mk (blk_below (g := gb111) (o := .cells #[.int .i64 x112000_1, .int .i64 x112001_1, .int .i64 x112002_1, .int .i64 x112003_1, .int .i64 x112004_1, .int .i64 x112005_1, .int .i64 x112006_1, .int .i64 x112007_1, .int .i64 x112008_1, .int .i64 x112009_1] 30 (0, 0)) (by (with_reducible repeat (first | refine blk_drewN ?_ _ | refine blk_drew ?_ | refine blk_alloc ?_ _)); exact BK111.out) hb); have n2_ := Aside0.mk (below_step (by repeat (first | (with_reducible first | exact HB.out | apply below_alloc | apply pw_below_drewN | apply below_drew1 | refine below_set ?_ GE111.out) | exact HB.out)) hb); clear HO_11; clear BK111; clear HB; have HO_11 := n0_; have BK111 := n1_; have HB := n2_; clear n0_ n1_ n2_; (try clear hb); (try clear hb2); (try clear hk); (try clear hi)))
             go_ret
             exact ⟨by first | rfl | (simp [errW_none, errW_some] <;> rfl) | (simp only [← hji44]; first | rfl | (simp [errW_none, errW_some] <;> rfl)) | (simp [*, errW_none, errW_some] <;> rfl), by repeat (first | (with_reducible first | exact HB.out | apply below_alloc | apply pw_below_drewN | apply below_drew1 | refine below_set ?_ GE111.out) | exact HB.out)⟩
           ·rw [if_neg c76] at H
            have c76b0 : (x112000_1 == 32 && (x112001_1 == 4 && (x112002_1 == 26 && (x112003_1 == 27 && (x112004_1 == 10 && (x112005_1 == 18 && (x112006_1 == 9 && (x112007_1 == 1 && (x112008_1 == 1 && (x112009_1 == 128)))))))))) = false := by simpa using c76
            (try (have c76b1 : decide (x112000_1 = 32 && (x112001_1 == 4 && (x112002_1 == 26 && (x112003_1 == 27 && (x112004_1 == 10 && (x112005_1 == 18 && (x112006_1 == 9 && (x112007_1 == 1 && (x112008_1 == 1 && (x112009_1 == 128)))))))))) = false := by simpa using c76))
            (try (have c76b2 : (x112000_1 == 32 && (x112001_1 == 4 && (x112002_1 == 26 && (x112003_1 == 27 && (x112004_1 == 10 && (x112005_1 == 18 && (x112006_1 == 9 && (x112007_1 == 1 && (x112008_1 == 1 && (x112009_1 == 128)))))))))) = false := by simpa using c76))
            (try (have c76b3 : ¬ (x112000_1 = 32 && (x112001_1 == 4 && (x112002_1 == 26 && (x112003_1 == 27 && (x112004_1 == 10 && (x112005_1 == 18 && (x112006_1 == 9 && (x112007_1 == 1 && (x112008_1 == 1 && (x112009_1 == 128)))))))))) := by simpa using c76))
            clear c76
            obtain rfl := Option.some.inj H
            obtain ⟨Ao88, co88, eo88⟩ := Kd.R_slice HO_11.out
            subst eo88
            go_wp2_with (first | ((with_reducible refine gate_callee (f := 8) rfl ?_); refine goesL_ (some 49) rfl rfl Tryd.func8 (by kernel_rfl) rfl #[.int .u8 a0] rfl (by (try simp only [List.map_toArray, List.map_cons, List.map_nil]); first | done | rfl | (simp only [List.length_drop, List.length_take]; rfl)) ?_; (with_reducible refine (class_Of.calls a0 t117 _ ?side1 A55.out).mono ?_); (case side1 => exact Gl.below HG.out (by repeat (first | (with_reducible first | exact HB.out | apply below_alloc | apply pw_below_drewN | apply below_drew1 | refine below_set ?_ GE111.out) | exact HB.out))); rintro e w89 ⟨rfl, hb⟩; refine ⟨_, rfl, ?_⟩; have n0_ := Aside0.mk (Kd.R_below (by (with_reducible repeat (first | apply Kd.R_alloc | apply Kd.R_drewN | apply Kd.R_drew)); exact HO_11.out) hb); have n1_ := Aside0.mk (blk_below (g := gb111) (o := .cells #[.int .i64 x112000_1, .int .i64 x112001_1, .int .i64 x112002_1, .int .i64 x112003_1, .int .i64 x112004_1, .int .i64 x112005_1, .int .i64 x112006_1, .int .i64 x112007_1, .int .i64 x112008_1, .int .i64 x112009_1] 30 (0, 0)) (by (with_reducible repeat (first | refine blk_drewN ?_ _ | refine blk_drew ?_ | refine blk_alloc ?_ _)); exact BK111.out) hb); have n2_ := Aside0.mk (below_step (by repeat (first | (with_reducible first | exact HB.out | apply below_alloc | apply pw_below_drewN | apply below_drew1 | refine below_set ?_ GE111.out) | exact HB.out)) hb); clear HO_11; clear BK111; clear HB; have HO_11 := n0_; have BK111 := n1_; have HB := n2_; clear n0_ n1_ n2_; (try clear hb); (try clear hb2); (try clear hk); (try clear hi); have hcz90_0 : w89.cell? ⟨gb111, 0, none⟩ = some (.int .i64 x112000_1) := (blk_cell BK111.out 0).trans rfl; have hcz90_1 : w89.cell? ⟨gb111, 1, none⟩ = some (.int .i64 x112001_1) := (blk_cell BK111.out 1).trans rfl; have hcz90_2 : w89.cell? ⟨gb111, 2, none⟩ = some (.int .i64 x112002_1) := (blk_cell BK111.out 2).trans rfl; have hcz90_3 : w89.cell? ⟨gb111, 3, none⟩ = some (.int .i64 x112003_1) := (blk_cell BK111.out 3).trans rfl; have hcz90_4 : w89.cell? ⟨gb111, 4, none⟩ = some (.int .i64 x112004_1) := (blk_cell BK111.out 4).trans rfl; have hcz90_5 : w89.cell? ⟨gb111, 5, none⟩ = some (.int .i64 x112005_1) := (blk_cell BK111.out 5).trans rfl; have hcz90_6 : w89.cell? ⟨gb111, 6, none⟩ = some (.int .i64 x112006_1) := (blk_cell BK111.out 6).trans rfl; have hcz90_7 : w89.cell? ⟨gb111, 7, none⟩ = some (.int .i64 x112007_1) := (blk_cell BK111.out 7).trans rfl; have hcz90_8 : w89.cell? ⟨gb111, 8, none⟩ = some (.int .i64 x112008_1) := (blk_cell BK111.out 8).trans rfl; have hcz90_9 : w89.cell? ⟨gb111, 9, none⟩ = some (.int .i64 x112009_1) := (blk_cell BK111.out 9).trans rfl; have hfz90_0 := blk_frozen BK111.out 0; have hfz90_1 := blk_frozen BK111.out 1; have hfz90_2 := blk_frozen BK111.out 2; have hfz90_3 := blk_frozen BK111.out 3; have hfz90_4 := blk_frozen BK111.out 4; have hfz90_5 := blk_frozen BK111.out 5; have hfz90_6 := blk_frozen BK111.out 6; have hfz90_7 := blk_frozen BK111.out 7; have hfz90_8 := blk_frozen BK111.out 8; have hfz90_9 := blk_frozen BK111.out 9))
            go_ret
            exact ⟨by first | rfl | (simp [errW_none, errW_some] <;> rfl) | (simp only [← hji44]; first | rfl | (simp [errW_none, errW_some] <;> rfl)) | (simp [*, errW_none, errW_some] <;> rfl), by repeat (first | (with_reducible first | exact HB.out | apply below_alloc | apply pw_below_drewN | apply below_drew1 | refine below_set ?_ GE111.out) | exact HB.out)⟩
          ·replace c75 := Bool.eq_false_iff.mpr c75
           subst c75
           have H1 : (some false) = some r := by rw [if_neg (show ¬ (false = true) by decide)] at H; exact H
           clear H
           have H := H1
           clear H1
           obtain rfl := Option.some.inj H
           obtain ⟨Ao91, co91, eo91⟩ := Kd.R_slice HO_11.out
           subst eo91
           go_wp2_with (first | ((with_reducible refine gate_callee (f := 8) rfl ?_); refine goesL_ (some 49) rfl rfl Tryd.func8 (by kernel_rfl) rfl #[.int .u8 a0] rfl (by (try simp only [List.map_toArray, List.map_cons, List.map_nil]); first | done | rfl | (simp only [List.length_drop, List.length_take]; rfl)) ?_; (with_reducible refine (class_Of.calls a0 t117 _ ?side1 A55.out).mono ?_); (case side1 => exact Gl.below HG.out (by repeat (first | (with_reducible first | exact HB.out | apply below_alloc | apply pw_below_drewN | apply below_drew1 | refine below_set ?_ GE111.out) | exact HB.out))); rintro e w92 ⟨rfl, hb⟩; refine ⟨_, rfl, ?_⟩; have n0_ := Aside0.mk (Kd.R_below (by (with_reducible repeat (first | apply Kd.R_alloc | apply Kd.R_drewN | apply Kd.R_drew)); exact HO_11.out) hb); have n1_ := Aside0.mk (blk_below (g := gb111) (o := .cells #[.int .i64 x112000_1, .int .i64 x112001_1, .int .i64 x112002_1, .int .i64 x112003_1, .int .i64 x112004_1, .int .i64 x112005_1, .int .i64 x112006_1, .int .i64 x112007_1, .int .i64 x112008_1, .int .i64 x112009_1] 30 (0, 0)) (by (with_reducible repeat (first | refine blk_drewN ?_ _ | refine blk_drew ?_ | refine blk_alloc ?_ _)); exact BK111.out) hb); have n2_ := Aside0.mk (below_step (by repeat (first | (with_reducible first | exact HB.out | apply below_alloc | apply pw_below_drewN | apply below_drew1 | refine below_set ?_ GE111.out) | exact HB.out)) hb); clear HO_11; clear BK111; clear HB; have HO_11 := n0_; have BK111 := n1_; have HB := n2_; clear n0_ n1_ n2_; (try clear hb); (try clear hb2); (try clear hk); (try clear hi)))
           go_ret
           exact ⟨by first | rfl | (simp [errW_none, errW_some] <;> rfl) | (simp only [← hji44]; first | rfl | (simp [errW_none, errW_some] <;> rfl)) | (simp [*, errW_none, errW_some] <;> rfl), by repeat (first | (with_reducible first | exact HB.out | apply below_alloc | apply pw_below_drewN | apply below_drew1 | refine below_set ?_ GE111.out) | exact HB.out)⟩
     ·rw [if_neg c46] at H
      exact absurd H (by simp)
    ·rw [if_neg c45] at H
     exact absurd H (by simp)
/-- THE ONE PURE STATEMENT of tmesislaw02_ClassCount: yours. -/
def tmesislaw02_ClassCount.Pure : Prop := ∀ (a0 : Int) (a1 : Int) (a2 : Int), (Lit.int .u8 a0).wf = true → (Lit.int .u8 a1).wf = true → (Lit.int .u8 a2).wf = true → ∃ k, tmesislaw02_ClassCount.f k a0 a1 a2 = some true
theorem tmesislaw02_ClassCount.walk (P : tmesislaw02_ClassCount.Pure) (a0 : Int) (a1 : Int) (a2 : Int) (w : World) (hG : Gl w) (w0 : (Lit.int .u8 a0).wf = true) (w1 : (Lit.int .u8 a1).wf = true) (w2 : (Lit.int .u8 a2).wf = true) :
  Calls Tryd.prog 6 #[.int .u8 a0, .int .u8 a1, .int .u8 a2] w fun e w' => e = .returned (.bool true) ∧ Below w.heap.size w w' := by
 obtain ⟨k, h⟩ := P a0 a1 a2 w0 w1 w2
 refine (tmesislaw02_ClassCount.calls k a0 a1 a2 true w hG h).mono ?_
 rintro e w' ⟨rfl, hd⟩
 exact ⟨rfl, hd⟩
end Go.Proofs.YtihgfoekjelkbaaDoor.P
