/- Part of the proof: what the theorem needs of this text. -/
import Derived.Test.YtflekegjmjjdmaaDoorKHG
import Derived.Test.YtflekegjmjjdmaaDoorKHTX
import Derived.Test.YtflekegjmjjdmaaDoorKPx0
import Derived.Test.YtflekegjmjjdmaaDoorKPx1
import Derived.Test.YtflekegjmjjdmaaDoorKPx13
import Derived.Test.YtflekegjmjjdmaaDoorKPx8
namespace Go.Proofs.YtflekegjmjjdmaaDoor.P
open Go.RowKit Go.Proofs.YtflekegjmjjdmaaDoorW.PrintWords Go.Proofs.YtflekegjmjjdmaaDoorW.PrintLast Go.Proofs.YtflekegjmjjdmaaDoorW.PrintMore
attribute [local go_sem] max2_int min2_int max_two min_two max_three min_three max_four min_four   -- for this text's walks alone
set_option linter.unusedVariables false
set_option linter.unusedSimpArgs false
attribute [local go_sem high] eqA27
def tmesislaw06_TokenAll.j0 : Nat → Bool → Option (Bool)
 | 0, _ => none
 | k + 1, x4 => some x4
def tmesislaw06_TokenAll.f (k : Nat) (l0 : List Int) (a1 : Int) : Option (Bool) := (tmesislaw06_shown.f k).bind fun t296 => ((tmesislaw06_few.f l0).bind fun t297 => ((token_Next.f k t297 a1).bind fun bt300 => ((tmesisref06_Next.f k t297 a1).bind fun bt307 => ((token_Next.f k t297 (Go.bits .and .i64 a1 127)).bind fun bt314 => ((tmesisref06_Next.f k t297 (Go.bits .and .i64 a1 127)).bind fun bt321 => (if t296 = true then (if (bt300.1 == bt307.1 && (bt300.2.1 == bt307.2.1 && (bt300.2.2.1 == bt307.2.2.1 && (bt300.2.2.2.1.toList == bt307.2.2.2.1.toList && (bt300.2.2.2.2.1 == bt307.2.2.2.2.1))))) = true then (if (bt300.2.2.2.2.2 == bt307.2.2.2.2.2) = true then (if (bt314.1 == bt321.1 && (bt314.2.1 == bt321.2.1 && (bt314.2.2.1 == bt321.2.2.1 && (bt314.2.2.2.1.toList == bt321.2.2.2.1.toList && (bt314.2.2.2.2.1 == bt321.2.2.2.2.1))))) = true then (tmesislaw06_TokenAll.j0 k (bt314.2.2.2.2.2 == bt321.2.2.2.2.2)) else (tmesislaw06_TokenAll.j0 k false)) else (tmesislaw06_TokenAll.j0 k false)) else (tmesislaw06_TokenAll.j0 k false)) else (tmesislaw06_TokenAll.j0 k false)))))))
theorem tmesislaw06_TokenAll.mono_l : ∀ k, (∀ y0, LeO (tmesislaw06_TokenAll.j0 k y0) (tmesislaw06_TokenAll.j0 (k + 1) y0))
 | 0 => fun _ r h => by simp [tmesislaw06_TokenAll.j0] at h
 | k + 1 => by
  have ih0 := tmesislaw06_TokenAll.mono_l k
  ·intro y0
   unfold tmesislaw06_TokenAll.j0
   repeat' first
   | (with_reducible exact ih0 _)
   | (with_reducible exact tmesislaw06_shown.mono _)
   | (with_reducible exact tmesisref06_Next.mono _ _ _)
   | (with_reducible exact token_Next.mono _ _ _)
   | (with_reducible exact LeO.refl _)
   | (with_reducible exact LeO.none _)
   | (with_reducible refine LeO.ite ?_ ?_)
   | (with_reducible refine LeO.bind ?_ (fun _ => ?_))
   | exact ih0 _
   | exact tmesislaw06_shown.mono _
   | exact tmesisref06_Next.mono _ _ _
   | exact token_Next.mono _ _ _
   | exact LeO.none _
   | refine LeO.ite ?_ ?_
   | refine LeO.bind ?_ (fun _ => ?_)
theorem tmesislaw06_TokenAll.mono : ∀ a0 a1 k, LeO (tmesislaw06_TokenAll.f k a0 a1) (tmesislaw06_TokenAll.f (k + 1) a0 a1) := by
 intro a0 a1 k
 have ih0 := tmesislaw06_TokenAll.mono_l k
 unfold tmesislaw06_TokenAll.f
 repeat' first
   | (with_reducible exact ih0 _)
   | (with_reducible exact tmesislaw06_shown.mono _)
   | (with_reducible exact tmesisref06_Next.mono _ _ _)
   | (with_reducible exact token_Next.mono _ _ _)
   | (with_reducible exact LeO.refl _)
   | (with_reducible exact LeO.none _)
   | (with_reducible refine LeO.ite ?_ ?_)
   | (with_reducible refine LeO.bind ?_ (fun _ => ?_))
   | exact ih0 _
   | exact tmesislaw06_shown.mono _
   | exact tmesisref06_Next.mono _ _ _
   | exact token_Next.mono _ _ _
   | exact LeO.none _
   | refine LeO.ite ?_ ?_
   | refine LeO.bind ?_ (fun _ => ?_)
set_option maxHeartbeats 8000000 in
set_option maxRecDepth 100000 in
theorem tmesislaw06_TokenAll.calls (k : Nat) (A0 : Option Addr) (c0 : Nat) (l0 : List Int) (a1 : Int) (r : Bool) (w : World) (hG : Gl w) (hr0 : Kd.C (Kd.int .u8) w A0 l0.length l0) (hc0 : l0.length ≤ c0) (h : tmesislaw06_TokenAll.f k l0 a1 = some r) :
  Calls Tryd.prog 3 #[.slice A0 l0.length c0, .int .i64 a1] w fun e w' => e = .returned (.bool r) ∧ Below w.heap.size w w' := by
 have hu27 := Tryd.underlying27
 have HR0 := Aside0.mk hr0
 have HC0 := Aside0.mk hc0
 clear hr0 hc0
 have HB := Aside0.mk (Below.refl w.heap.size w)
 have HG := Aside0.mk hG
 clear hG
 have H : ((tmesislaw06_shown.f k).bind fun t296 => ((tmesislaw06_few.f l0).bind fun t297 => ((token_Next.f k t297 a1).bind fun bt300 => ((tmesisref06_Next.f k t297 a1).bind fun bt307 => ((token_Next.f k t297 (Go.bits .and .i64 a1 127)).bind fun bt314 => ((tmesisref06_Next.f k t297 (Go.bits .and .i64 a1 127)).bind fun bt321 => (if t296 = true then (if (bt300.1 == bt307.1 && (bt300.2.1 == bt307.2.1 && (bt300.2.2.1 == bt307.2.2.1 && (bt300.2.2.2.1.toList == bt307.2.2.2.1.toList && (bt300.2.2.2.2.1 == bt307.2.2.2.2.1))))) = true then (if (bt300.2.2.2.2.2 == bt307.2.2.2.2.2) = true then (if (bt314.1 == bt321.1 && (bt314.2.1 == bt321.2.1 && (bt314.2.2.1 == bt321.2.2.1 && (bt314.2.2.2.1.toList == bt321.2.2.2.1.toList && (bt314.2.2.2.2.1 == bt321.2.2.2.2.1))))) = true then (tmesislaw06_TokenAll.j0 k (bt314.2.2.2.2.2 == bt321.2.2.2.2.2)) else (tmesislaw06_TokenAll.j0 k false)) else (tmesislaw06_TokenAll.j0 k false)) else (tmesislaw06_TokenAll.j0 k false)) else (tmesislaw06_TokenAll.j0 k false)))))))) = some r := h
 clear h
 replace H := Option.bind_eq_some_iff.mp H
 obtain ⟨t296, A30, H⟩ := H
 replace H : ((tmesislaw06_few.f l0).bind fun t297 => ((token_Next.f k t297 a1).bind fun bt300 => ((tmesisref06_Next.f k t297 a1).bind fun bt307 => ((token_Next.f k t297 (Go.bits .and .i64 a1 127)).bind fun bt314 => ((tmesisref06_Next.f k t297 (Go.bits .and .i64 a1 127)).bind fun bt321 => (if t296 = true then (if (bt300.1 == bt307.1 && (bt300.2.1 == bt307.2.1 && (bt300.2.2.1 == bt307.2.2.1 && (bt300.2.2.2.1.toList == bt307.2.2.2.1.toList && (bt300.2.2.2.2.1 == bt307.2.2.2.2.1))))) = true then (if (bt300.2.2.2.2.2 == bt307.2.2.2.2.2) = true then (if (bt314.1 == bt321.1 && (bt314.2.1 == bt321.2.1 && (bt314.2.2.1 == bt321.2.2.1 && (bt314.2.2.2.1.toList == bt321.2.2.2.1.toList && (bt314.2.2.2.2.1 == bt321.2.2.2.2.1))))) = true then (tmesislaw06_TokenAll.j0 k (bt314.2.2.2.2.2 == bt321.2.2.2.2.2)) else (tmesislaw06_TokenAll.j0 k false)) else (tmesislaw06_TokenAll.j0 k false)) else (tmesislaw06_TokenAll.j0 k false)) else (tmesislaw06_TokenAll.j0 k false))))))) = some r := H
 have A3 := Aside0.mk A30
 clear A30
 replace H := Option.bind_eq_some_iff.mp H
 obtain ⟨t297, A40, H⟩ := H
 replace H : ((token_Next.f k t297 a1).bind fun bt300 => ((tmesisref06_Next.f k t297 a1).bind fun bt307 => ((token_Next.f k t297 (Go.bits .and .i64 a1 127)).bind fun bt314 => ((tmesisref06_Next.f k t297 (Go.bits .and .i64 a1 127)).bind fun bt321 => (if t296 = true then (if (bt300.1 == bt307.1 && (bt300.2.1 == bt307.2.1 && (bt300.2.2.1 == bt307.2.2.1 && (bt300.2.2.2.1.toList == bt307.2.2.2.1.toList && (bt300.2.2.2.2.1 == bt307.2.2.2.2.1))))) = true then (if (bt300.2.2.2.2.2 == bt307.2.2.2.2.2) = true then (if (bt314.1 == bt321.1 && (bt314.2.1 == bt321.2.1 && (bt314.2.2.1 == bt321.2.2.1 && (bt314.2.2.2.1.toList == bt321.2.2.2.1.toList && (bt314.2.2.2.2.1 == bt321.2.2.2.2.1))))) = true then (tmesislaw06_TokenAll.j0 k (bt314.2.2.2.2.2 == bt321.2.2.2.2.2)) else (tmesislaw06_TokenAll.j0 k false)) else (tmesislaw06_TokenAll.j0 k false)) else (tmesislaw06_TokenAll.j0 k false)) else (tmesislaw06_TokenAll.j0 k false)))))) = some r := H
 have A4 := Aside0.mk A40
 clear A40
 replace H := Option.bind_eq_some_iff.mp H
 obtain ⟨⟨t300, t301, t302, t303, t304, t305⟩, A50, H⟩ := H
 replace H : ((tmesisref06_Next.f k t297 a1).bind fun bt307 => ((token_Next.f k t297 (Go.bits .and .i64 a1 127)).bind fun bt314 => ((tmesisref06_Next.f k t297 (Go.bits .and .i64 a1 127)).bind fun bt321 => (if t296 = true then (if (t300 == bt307.1 && (t301 == bt307.2.1 && (t302 == bt307.2.2.1 && (t303.toList == bt307.2.2.2.1.toList && (t304 == bt307.2.2.2.2.1))))) = true then (if (t305 == bt307.2.2.2.2.2) = true then (if (bt314.1 == bt321.1 && (bt314.2.1 == bt321.2.1 && (bt314.2.2.1 == bt321.2.2.1 && (bt314.2.2.2.1.toList == bt321.2.2.2.1.toList && (bt314.2.2.2.2.1 == bt321.2.2.2.2.1))))) = true then (tmesislaw06_TokenAll.j0 k (bt314.2.2.2.2.2 == bt321.2.2.2.2.2)) else (tmesislaw06_TokenAll.j0 k false)) else (tmesislaw06_TokenAll.j0 k false)) else (tmesislaw06_TokenAll.j0 k false)) else (tmesislaw06_TokenAll.j0 k false))))) = some r := H
 have A5 := Aside0.mk A50
 clear A50
 replace H := Option.bind_eq_some_iff.mp H
 obtain ⟨⟨t307, t308, t309, t310, t311, t312⟩, A60, H⟩ := H
 replace H : ((token_Next.f k t297 (Go.bits .and .i64 a1 127)).bind fun bt314 => ((tmesisref06_Next.f k t297 (Go.bits .and .i64 a1 127)).bind fun bt321 => (if t296 = true then (if (t300 == t307 && (t301 == t308 && (t302 == t309 && (t303.toList == t310.toList && (t304 == t311))))) = true then (if (t305 == t312) = true then (if (bt314.1 == bt321.1 && (bt314.2.1 == bt321.2.1 && (bt314.2.2.1 == bt321.2.2.1 && (bt314.2.2.2.1.toList == bt321.2.2.2.1.toList && (bt314.2.2.2.2.1 == bt321.2.2.2.2.1))))) = true then (tmesislaw06_TokenAll.j0 k (bt314.2.2.2.2.2 == bt321.2.2.2.2.2)) else (tmesislaw06_TokenAll.j0 k false)) else (tmesislaw06_TokenAll.j0 k false)) else (tmesislaw06_TokenAll.j0 k false)) else (tmesislaw06_TokenAll.j0 k false)))) = some r := H
 have A6 := Aside0.mk A60
 clear A60
 replace H := Option.bind_eq_some_iff.mp H
 obtain ⟨⟨t314, t315, t316, t317, t318, t319⟩, A70, H⟩ := H
 replace H : ((tmesisref06_Next.f k t297 (Go.bits .and .i64 a1 127)).bind fun bt321 => (if t296 = true then (if (t300 == t307 && (t301 == t308 && (t302 == t309 && (t303.toList == t310.toList && (t304 == t311))))) = true then (if (t305 == t312) = true then (if (t314 == bt321.1 && (t315 == bt321.2.1 && (t316 == bt321.2.2.1 && (t317.toList == bt321.2.2.2.1.toList && (t318 == bt321.2.2.2.2.1))))) = true then (tmesislaw06_TokenAll.j0 k (t319 == bt321.2.2.2.2.2)) else (tmesislaw06_TokenAll.j0 k false)) else (tmesislaw06_TokenAll.j0 k false)) else (tmesislaw06_TokenAll.j0 k false)) else (tmesislaw06_TokenAll.j0 k false))) = some r := H
 have A7 := Aside0.mk A70
 clear A70
 replace H := Option.bind_eq_some_iff.mp H
 obtain ⟨⟨t321, t322, t323, t324, t325, t326⟩, A80, H⟩ := H
 replace H : (if t296 = true then (if (t300 == t307 && (t301 == t308 && (t302 == t309 && (t303.toList == t310.toList && (t304 == t311))))) = true then (if (t305 == t312) = true then (if (t314 == t321 && (t315 == t322 && (t316 == t323 && (t317.toList == t324.toList && (t318 == t325))))) = true then (tmesislaw06_TokenAll.j0 k (t319 == t326)) else (tmesislaw06_TokenAll.j0 k false)) else (tmesislaw06_TokenAll.j0 k false)) else (tmesislaw06_TokenAll.j0 k false)) else (tmesislaw06_TokenAll.j0 k false)) = some r := H
 have A8 := Aside0.mk A80
 clear A80
 have HC9 := Aside0.mk H
 clear H
 go_enter Tryd.func3, Tryd.ntmps3
 go_upto_region 7 with (first | ((with_reducible refine gate_callee (f := 9) rfl ?_); refine goesL_ (some 15) rfl rfl Tryd.func9 (by kernel_rfl) rfl #[] rfl (by (try simp only [List.map_toArray, List.map_cons, List.map_nil]); first | done | rfl | (simp only [List.length_drop, List.length_take]; rfl)) ?_; (with_reducible refine (tmesislaw06_shown.calls k  t296 _ ?side1 A3.out).mono ?_); (case side1 => exact Gl.below HG.out (by repeat (first | (with_reducible first | exact HB.out | apply below_alloc | apply pw_below_drewN | apply below_drew1) | exact HB.out))); rintro e w10 ⟨rfl, hb⟩; refine ⟨_, rfl, ?_⟩; have n0_ := Aside0.mk (below_step (by repeat (first | (with_reducible first | exact HB.out | apply below_alloc | apply pw_below_drewN | apply below_drew1) | exact HB.out)) hb); clear HB; have HB := n0_; clear n0_; (try clear hb); (try clear hb2); (try clear hk); (try clear hi)) | ((with_reducible refine gate_callee (f := 10) rfl ?_); refine goesL_ (some 17) rfl rfl Tryd.func10 (by kernel_rfl) rfl #[.slice A0 l0.length c0] rfl (by (try simp only [List.map_toArray, List.map_cons, List.map_nil]); first | done | rfl | (simp only [List.length_drop, List.length_take]; rfl)) ?_; (with_reducible refine (tmesislaw06_few.calls (fun k_ => k_ < w.heap.size) _ _ l0 t297 _ ?side1 A4.out).mono ?_); (case side1 => exact Kd.V_mk HC0.out (Kd.F_below (Kd.C_F (Kd.heap_int .u8) HR0.out) (by repeat (first | (with_reducible first | exact HB.out | apply below_alloc | apply pw_below_drewN | apply below_drew1) | exact HB.out)))); rintro e w11 ⟨v298, rfl, ho0, hb⟩; refine ⟨_, rfl, ?_⟩; have n0_ := Aside0.mk (Kd.V_lower (Kd.V_mono (ok' := fun k_ => True) ho0 (fun k_ hk_ => trivial)) (below_size (by repeat (first | (with_reducible first | exact HB.out | apply below_alloc | apply pw_below_drewN | apply below_drew1) | exact HB.out)))); have n1_ := Aside0.mk (below_step (by repeat (first | (with_reducible first | exact HB.out | apply below_alloc | apply pw_below_drewN | apply below_drew1) | exact HB.out)) hb); clear HB; have HO299 := n0_; have HB := n1_; clear n0_ n1_; (try clear hb); (try clear hb2); (try clear hk); (try clear hi); (try clear ho0); obtain ⟨Ao12, co12, eo12⟩ := Kd.V_slice HO299.out; subst eo12) | ((with_reducible refine gate_callee (f := 11) rfl ?_); refine goesL_ (some 21) rfl rfl Tryd.func11 (by kernel_rfl) rfl #[.slice Ao12 t297.length co12, .int .i64 a1] rfl (by (try simp only [List.map_toArray, List.map_cons, List.map_nil]); first | done | rfl | (simp only [List.length_drop, List.length_take]; rfl)) ?_; (with_reducible refine (token_Next.calls k _ _ t297 a1 t300 t301 t302 t303 t304 t305 _ ?side1 ?side2 ?side3 A5.out).mono ?_); (case side1 => exact Gl.below HG.out (by repeat (first | (with_reducible first | exact HB.out | apply below_alloc | apply pw_below_drewN | apply below_drew1) | exact HB.out))); (case side2 => repeat (first | exact (Kd.V_reads' HO299.out).2.2 | (with_reducible refine Kd.C_alloc ?_ _) | (with_reducible refine Kd.C_drewN ?_ _) | (with_reducible refine Kd.C_drew ?_))); (case side3 => exact (Kd.V_reads' HO299.out).2.1); rintro e w13 ⟨rfl, hb⟩; refine ⟨_, rfl, ?_⟩; have n0_ := Aside0.mk (Kd.V_below (by (with_reducible repeat (first | apply Kd.V_alloc | apply Kd.V_drewN | apply Kd.V_drew)); exact HO299.out) hb); have n1_ := Aside0.mk (below_step (by repeat (first | (with_reducible first | exact HB.out | apply below_alloc | apply pw_below_drewN | apply below_drew1) | exact HB.out)) hb); clear HO299; clear HB; have HO299 := n0_; have HB := n1_; clear n0_ n1_; (try clear hb); (try clear hb2); (try clear hk); (try clear hi)) | ((with_reducible refine gate_dst (N := 7) rfl ?_); refine box_event ?hg (N := 7) ?hd (cs := #[.int .i64 0, .int .i64 0, .int .i64 0, .string (⟨#[]⟩ : ByteArray), .int .i64 0]) (t := 27) ?hr ?_; (case hd => rfl); (case hg => rfl); (case hr => first | (go_simp; done) | (go_simp; rfl)); intro gb306 hg w14 hbox hb; have n0_ := Aside0.mk (Kd.V_below (Kd.V_elderB (by (with_reducible repeat (first | apply Kd.V_alloc | apply Kd.V_drewN | apply Kd.V_drew)); exact HO299.out) gb306 (Nat.le_of_eq hg.symm)) hb); have n1_ := Aside0.mk (below_step (by repeat (first | (with_reducible first | exact HB.out | apply below_alloc | apply pw_below_drewN | apply below_drew1) | exact HB.out)) hb); have n2_ := Aside0.mk (hbox); have n3_ := Aside0.mk ((by rw [hg]; exact (below_size (by repeat (first | (with_reducible first | exact HB.out | apply below_alloc | apply pw_below_drewN | apply below_drew1) | exact HB.out))) : w.heap.size ≤ gb306)); have n4_ := Aside0.mk ((by rw [hg]; exact (below_size (by repeat (first | (with_reducible first | exact HB.out | apply below_alloc | apply pw_below_drewN | apply below_drew1) | exact HB.out))) : w.heap.size ≤ gb306)); clear HO299; clear HB; have HO299 := n0_; have HB := n1_; have BK306 := n2_; have GW306 := n3_; have GE306 := n4_; clear n0_ n1_ n2_ n3_ n4_; clear hb hbox hg; have hcz15_0 : w14.cell? ⟨gb306, 0, none⟩ = some (.int .i64 0) := (blk_cell BK306.out 0).trans rfl; have hcz15_1 : w14.cell? ⟨gb306, 1, none⟩ = some (.int .i64 0) := (blk_cell BK306.out 1).trans rfl; have hcz15_2 : w14.cell? ⟨gb306, 2, none⟩ = some (.int .i64 0) := (blk_cell BK306.out 2).trans rfl; have hcz15_3 : w14.cell? ⟨gb306, 3, none⟩ = some (.string (⟨#[]⟩ : ByteArray)) := (blk_cell BK306.out 3).trans rfl; have hcz15_4 : w14.cell? ⟨gb306, 4, none⟩ = some (.int .i64 0) := (blk_cell BK306.out 4).trans rfl; have hfz15_0 := blk_frozen BK306.out 0; have hfz15_1 := blk_frozen BK306.out 1; have hfz15_2 := blk_frozen BK306.out 2; have hfz15_3 := blk_frozen BK306.out 3; have hfz15_4 := blk_frozen BK306.out 4) | ((with_reducible refine gate_callee (f := 12) rfl ?_); refine goesL_ (some 27) rfl rfl Tryd.func12 (by kernel_rfl) rfl #[.slice Ao12 t297.length co12, .int .i64 a1] rfl (by (try simp only [List.map_toArray, List.map_cons, List.map_nil]); first | done | rfl | (simp only [List.length_drop, List.length_take]; rfl)) ?_; (with_reducible refine (tmesisref06_Next.calls k _ _ t297 a1 t307 t308 t309 t310 t311 t312 _ ?side1 ?side2 A6.out).mono ?_); (case side1 => refine (Kd.V_reads' (e := 5) (base := w.heap.size) (ok := fun k_ => (True ∧ k_ ≠ gb306)) (n := t297.length) (c := co12) ?_).2.2; exact (by (with_reducible repeat (first | apply Kd.V_alloc | apply Kd.V_drewN | apply Kd.V_drew)); exact (Kd.V_mono (Kd.V_far (p := ⟨gb306, 4, none⟩) (Kd.V_far (p := ⟨gb306, 3, none⟩) (Kd.V_far (p := ⟨gb306, 2, none⟩) (Kd.V_far (p := ⟨gb306, 1, none⟩) (Kd.V_far (p := ⟨gb306, 0, none⟩) (Kd.V_mono HO299.out (fun k_ hk => (⟨hk, hk.2⟩ : _ ∧ k_ ≠ gb306))) (fun _ hk => hk.2) (.int .i64 t300)) (fun _ hk => hk.2) (.int .i64 t301)) (fun _ hk => hk.2) (.int .i64 t302)) (fun _ hk => hk.2) (.string t303)) (fun _ hk => hk.2) (.int .i64 t304)) (fun _ h_ => h_.1)))); (case side2 => exact (Kd.V_reads' HO299.out).2.1); rintro e w16 ⟨rfl, hb⟩; refine ⟨_, rfl, ?_⟩; have n0_ := Aside0.mk (Kd.V_below (by (with_reducible repeat (first | apply Kd.V_alloc | apply Kd.V_drewN | apply Kd.V_drew)); exact (Kd.V_mono (Kd.V_far (p := ⟨gb306, 4, none⟩) (Kd.V_far (p := ⟨gb306, 3, none⟩) (Kd.V_far (p := ⟨gb306, 2, none⟩) (Kd.V_far (p := ⟨gb306, 1, none⟩) (Kd.V_far (p := ⟨gb306, 0, none⟩) (Kd.V_mono HO299.out (fun k_ hk => (⟨hk, hk.2⟩ : _ ∧ k_ ≠ gb306))) (fun _ hk => hk.2) (.int .i64 t300)) (fun _ hk => hk.2) (.int .i64 t301)) (fun _ hk => hk.2) (.int .i64 t302)) (fun _ hk => hk.2) (.string t303)) (fun _ hk => hk.2) (.int .i64 t304)) (fun _ h_ => h_.1))) hb); have n1_ := Aside0.mk (blk_below (g := gb306) (o := .cells #[.int .i64 t300, .int .i64 t301, .int .i64 t302, .string t303, .int .i64 t304] 27 (0, 0)) (by (with_reducible repeat (first | refine blk_drewN ?_ _ | refine blk_drew ?_ | refine blk_alloc ?_ _)); refine blk_put (cs := #[.int .i64 t300, .int .i64 t301, .int .i64 t302, .string t303, .int .i64 0]) ?_ 4 _ rfl; (with_reducible repeat (first | refine blk_drewN ?_ _ | refine blk_drew ?_ | refine blk_alloc ?_ _)); refine blk_put (cs := #[.int .i64 t300, .int .i64 t301, .int .i64 t302, .string (⟨#[]⟩ : ByteArray), .int .i64 0]) ?_ 3 _ rfl; (with_reducible repeat (first | refine blk_drewN ?_ _ | refine blk_drew ?_ | refine blk_alloc ?_ _)); refine blk_put (cs := #[.int .i64 t300, .int .i64 t301, .int .i64 0, .string (⟨#[]⟩ : ByteArray), .int .i64 0]) ?_ 2 _ rfl; (with_reducible repeat (first | refine blk_drewN ?_ _ | refine blk_drew ?_ | refine blk_alloc ?_ _)); refine blk_put (cs := #[.int .i64 t300, .int .i64 0, .int .i64 0, .string (⟨#[]⟩ : ByteArray), .int .i64 0]) ?_ 1 _ rfl; (with_reducible repeat (first | refine blk_drewN ?_ _ | refine blk_drew ?_ | refine blk_alloc ?_ _)); refine blk_put (cs := #[.int .i64 0, .int .i64 0, .int .i64 0, .string (⟨#[]⟩ : ByteArray), .int .i64 0]) ?_ 0 _ rfl; (with_reducible repeat (first | refine blk_drewN ?_ _ | refine blk_drew ?_ | refine blk_alloc ?_ _)); exact BK306.out) hb); have n2_ := Aside0.mk (below_step (by repeat (first | (with_reducible first | exact HB.out | apply below_alloc | apply pw_below_drewN | apply below_drew1 | refine below_set ?_ GE306.out) | exact HB.out)) hb); clear HO299; clear BK306; clear HB; have HO299 := n0_; have BK306 := n1_; have HB := n2_; clear n0_ n1_ n2_; (try clear hb); (try clear hb2); (try clear hk); (try clear hi)) | ((with_reducible refine gate_dst (N := 9) rfl ?_); refine box_event ?hg (N := 9) ?hd (cs := #[.int .i64 0, .int .i64 0, .int .i64 0, .string (⟨#[]⟩ : ByteArray), .int .i64 0]) (t := 27) ?hr ?_; (case hd => rfl); (case hg => rfl); (case hr => first | (go_simp; done) | (go_simp; rfl)); intro gb313 hg w17 hbox hb; have n0_ := Aside0.mk (Kd.V_below (Kd.V_elderB (by (with_reducible repeat (first | apply Kd.V_alloc | apply Kd.V_drewN | apply Kd.V_drew)); exact HO299.out) gb313 (Nat.le_of_eq hg.symm)) hb); have n1_ := Aside0.mk (blk_below (g := gb306) (o := .cells #[.int .i64 t300, .int .i64 t301, .int .i64 t302, .string t303, .int .i64 t304] 27 (0, 0)) (by (with_reducible repeat (first | refine blk_drewN ?_ _ | refine blk_drew ?_ | refine blk_alloc ?_ _)); exact BK306.out) hb); have n2_ := Aside0.mk (below_step (by repeat (first | (with_reducible first | exact HB.out | apply below_alloc | apply pw_below_drewN | apply below_drew1 | refine below_set ?_ GE306.out) | exact HB.out)) hb); have n3_ := Aside0.mk (hbox); have n4_ := Aside0.mk ((by rw [hg]; exact (below_size (by repeat (first | (with_reducible first | exact HB.out | apply below_alloc | apply pw_below_drewN | apply below_drew1 | refine below_set ?_ GE306.out) | exact HB.out))) : w.heap.size ≤ gb313)); have n5_ := Aside0.mk ((by rw [hg]; exact (below_size (by repeat (first | (with_reducible first | exact HB.out | apply below_alloc | apply pw_below_drewN | apply below_drew1 | refine below_set ?_ GE306.out) | exact HB.out))) : w.heap.size ≤ gb313)); have n6_ := Aside0.mk ((by rw [hg]; exact Nat.ne_of_lt (blk_lt (g := gb306) (o := .cells #[.int .i64 t300, .int .i64 t301, .int .i64 t302, .string t303, .int .i64 t304] 27 (0, 0)) (by (with_reducible repeat (first | refine blk_drewN ?_ _ | refine blk_drew ?_ | refine blk_alloc ?_ _)); exact BK306.out)) : gb306 ≠ gb313)); have n7_ := Aside0.mk ((by rw [hg]; exact Nat.ne_of_gt (blk_lt (g := gb306) (o := .cells #[.int .i64 t300, .int .i64 t301, .int .i64 t302, .string t303, .int .i64 t304] 27 (0, 0)) (by (with_reducible repeat (first | refine blk_drewN ?_ _ | refine blk_drew ?_ | refine blk_alloc ?_ _)); exact BK306.out)) : gb313 ≠ gb306)); clear HO299; clear BK306; clear HB; have HO299 := n0_; have BK306 := n1_; have HB := n2_; have BK313 := n3_; have GW313 := n4_; have GE313 := n5_; have NB306_313 := n6_; have NB313_306 := n7_; clear n0_ n1_ n2_ n3_ n4_ n5_ n6_ n7_; clear hb hbox hg; have hnb18 := NB313_306.out; have hnc18 := NB306_313.out; have hcz19_0 : w17.cell? ⟨gb313, 0, none⟩ = some (.int .i64 0) := (blk_cell BK313.out 0).trans rfl; have hcz19_1 : w17.cell? ⟨gb313, 1, none⟩ = some (.int .i64 0) := (blk_cell BK313.out 1).trans rfl; have hcz19_2 : w17.cell? ⟨gb313, 2, none⟩ = some (.int .i64 0) := (blk_cell BK313.out 2).trans rfl; have hcz19_3 : w17.cell? ⟨gb313, 3, none⟩ = some (.string (⟨#[]⟩ : ByteArray)) := (blk_cell BK313.out 3).trans rfl; have hcz19_4 : w17.cell? ⟨gb313, 4, none⟩ = some (.int .i64 0) := (blk_cell BK313.out 4).trans rfl; have hfz19_0 := blk_frozen BK313.out 0; have hfz19_1 := blk_frozen BK313.out 1; have hfz19_2 := blk_frozen BK313.out 2; have hfz19_3 := blk_frozen BK313.out 3; have hfz19_4 := blk_frozen BK313.out 4) | ((with_reducible refine gate_callee (f := 11) rfl ?_); refine goesL_ (some 34) rfl rfl Tryd.func11 (by kernel_rfl) rfl #[.slice Ao12 t297.length co12, .int .i64 (Go.bits .and .i64 a1 127)] rfl (by (try simp only [List.map_toArray, List.map_cons, List.map_nil]); first | done | rfl | (simp only [List.length_drop, List.length_take]; rfl)) ?_; (with_reducible refine (token_Next.calls k _ _ t297 (Go.bits .and .i64 a1 127) t314 t315 t316 t317 t318 t319 _ ?side1 ?side2 ?side3 A7.out).mono ?_); (case side1 => exact Gl.below HG.out (by repeat (first | (with_reducible first | exact HB.out | apply below_alloc | apply pw_below_drewN | apply below_drew1 | refine below_set ?_ GE306.out | refine below_set ?_ GE313.out) | exact HB.out))); (case side2 => refine (Kd.V_reads' (e := 5) (base := w.heap.size) (ok := fun k_ => ((True ∧ k_ ≠ gb306) ∧ k_ ≠ gb313)) (n := t297.length) (c := co12) ?_).2.2; exact (by (with_reducible repeat (first | apply Kd.V_alloc | apply Kd.V_drewN | apply Kd.V_drew)); exact (Kd.V_mono (Kd.V_far (p := ⟨gb313, 4, none⟩) (Kd.V_far (p := ⟨gb313, 3, none⟩) (Kd.V_far (p := ⟨gb313, 2, none⟩) (Kd.V_far (p := ⟨gb313, 1, none⟩) (Kd.V_far (p := ⟨gb313, 0, none⟩) (Kd.V_mono HO299.out (fun k_ hk => (⟨hk, hk.2⟩ : _ ∧ k_ ≠ gb313))) (fun _ hk => hk.2) (.int .i64 t307)) (fun _ hk => hk.2) (.int .i64 t308)) (fun _ hk => hk.2) (.int .i64 t309)) (fun _ hk => hk.2) (.string t310)) (fun _ hk => hk.2) (.int .i64 t311)) (fun _ h_ => h_.1)))); (case side3 => exact (Kd.V_reads' HO299.out).2.1); rintro e w20 ⟨rfl, hb⟩; refine ⟨_, rfl, ?_⟩; have n0_ := Aside0.mk (Kd.V_below (by (with_reducible repeat (first | apply Kd.V_alloc | apply Kd.V_drewN | apply Kd.V_drew)); exact (Kd.V_mono (Kd.V_far (p := ⟨gb313, 4, none⟩) (Kd.V_far (p := ⟨gb313, 3, none⟩) (Kd.V_far (p := ⟨gb313, 2, none⟩) (Kd.V_far (p := ⟨gb313, 1, none⟩) (Kd.V_far (p := ⟨gb313, 0, none⟩) (Kd.V_mono HO299.out (fun k_ hk => (⟨hk, hk.2⟩ : _ ∧ k_ ≠ gb313))) (fun _ hk => hk.2) (.int .i64 t307)) (fun _ hk => hk.2) (.int .i64 t308)) (fun _ hk => hk.2) (.int .i64 t309)) (fun _ hk => hk.2) (.string t310)) (fun _ hk => hk.2) (.int .i64 t311)) (fun _ h_ => h_.1))) hb); have n1_ := Aside0.mk (blk_below (g := gb306) (o := .cells #[.int .i64 t300, .int .i64 t301, .int .i64 t302, .string t303, .int .i64 t304] 27 (0, 0)) (by (with_reducible repeat (first | refine blk_drewN ?_ _ | refine blk_drew ?_ | refine blk_alloc ?_ _)); refine blk_far ?_ NB306_313.out _; (with_reducible repeat (first | refine blk_drewN ?_ _ | refine blk_drew ?_ | refine blk_alloc ?_ _)); refine blk_far ?_ NB306_313.out _; (with_reducible repeat (first | refine blk_drewN ?_ _ | refine blk_drew ?_ | refine blk_alloc ?_ _)); refine blk_far ?_ NB306_313.out _; (with_reducible repeat (first | refine blk_drewN ?_ _ | refine blk_drew ?_ | refine blk_alloc ?_ _)); refine blk_far ?_ NB306_313.out _; (with_reducible repeat (first | refine blk_drewN ?_ _ | refine blk_drew ?_ | refine blk_alloc ?_ _)); refine blk_far ?_ NB306_313.out _; (with_reducible repeat (first | refine blk_drewN ?_ _ | refine blk_drew ?_ | refine blk_alloc ?_ _)); exact BK306.out) hb); have n2_ := Aside0.mk (blk_below (g := gb313) (o := .cells #[.int .i64 t307, .int .i64 t308, .int .i64 t309, .string t310, .int .i64 t311] 27 (0, 0)) (by (with_reducible repeat (first | refine blk_drewN ?_ _ | refine blk_drew ?_ | refine blk_alloc ?_ _)); refine blk_put (cs := #[.int .i64 t307, .int .i64 t308, .int .i64 t309, .string t310, .int .i64 0]) ?_ 4 _ rfl; (with_reducible repeat (first | refine blk_drewN ?_ _ | refine blk_drew ?_ | refine blk_alloc ?_ _)); refine blk_put (cs := #[.int .i64 t307, .int .i64 t308, .int .i64 t309, .string (⟨#[]⟩ : ByteArray), .int .i64 0]) ?_ 3 _ rfl; (with_reducible repeat (first | refine blk_drewN ?_ _ | refine blk_drew ?_ | refine blk_alloc ?_ _)); refine blk_put (cs := #[.int .i64 t307, .int .i64 t308, .int .i64 0, .string (⟨#[]⟩ : ByteArray), .int .i64 0]) ?_ 2 _ rfl; (with_reducible repeat (first | refine blk_drewN ?_ _ | refine blk_drew ?_ | refine blk_alloc ?_ _)); refine blk_put (cs := #[.int .i64 t307, .int .i64 0, .int .i64 0, .string (⟨#[]⟩ : ByteArray), .int .i64 0]) ?_ 1 _ rfl; (with_reducible repeat (first | refine blk_drewN ?_ _ | refine blk_drew ?_ | refine blk_alloc ?_ _)); refine blk_put (cs := #[.int .i64 0, .int .i64 0, .int .i64 0, .string (⟨#[]⟩ : ByteArray), .int .i64 0]) ?_ 0 _ rfl; (with_reducible repeat (first | refine blk_drewN ?_ _ | refine blk_drew ?_ | refine blk_alloc ?_ _)); exact BK313.out) hb); have n3_ := Aside0.mk (below_step (by repeat (first | (with_reducible first | exact HB.out | apply below_alloc | apply pw_below_drewN | apply below_drew1 | refine below_set ?_ GE306.out | refine below_set ?_ GE313.out) | exact HB.out)) hb); clear HO299; clear BK306; clear BK313; clear HB; have HO299 := n0_; have BK306 := n1_; have BK313 := n2_; have HB := n3_; clear n0_ n1_ n2_ n3_; (try clear hb); (try clear hb2); (try clear hk); (try clear hi)) | ((with_reducible refine gate_dst (N := 11) rfl ?_); refine box_event ?hg (N := 11) ?hd (cs := #[.int .i64 0, .int .i64 0, .int .i64 0, .string (⟨#[]⟩ : ByteArray), .int .i64 0]) (t := 27) ?hr ?_; (case hd => rfl); (case hg => rfl); (case hr => first | (go_simp; done) | (go_simp; rfl)); intro gb320 hg w21 hbox hb; have n0_ := Aside0.mk (Kd.V_below (Kd.V_elderB (by (with_reducible repeat (first | apply Kd.V_alloc | apply Kd.V_drewN | apply Kd.V_drew)); exact HO299.out) gb320 (Nat.le_of_eq hg.symm)) hb); have n1_ := Aside0.mk (blk_below (g := gb306) (o := .cells #[.int .i64 t300, .int .i64 t301, .int .i64 t302, .string t303, .int .i64 t304] 27 (0, 0)) (by (with_reducible repeat (first | refine blk_drewN ?_ _ | refine blk_drew ?_ | refine blk_alloc ?_ _)); exact BK306.out) hb); have n2_ := Aside0.mk (blk_below (g := gb313) (o := .cells #[.int .i64 t307, .int .i64 t308, .int .i64 t309, .string t310, .int .i64 t311] 27 (0, 0)) (by (with_reducible repeat (first | refine blk_drewN ?_ _ | refine blk_drew ?_ | refine blk_alloc ?_ _)); exact BK313.out) hb); have n3_ := Aside0.mk (below_step (by repeat (first | (with_reducible first | exact HB.out | apply below_alloc | apply pw_below_drewN | apply below_drew1 | refine below_set ?_ GE306.out | refine below_set ?_ GE313.out) | exact HB.out)) hb); have n4_ := Aside0.mk (hbox); have n5_ := Aside0.mk ((by rw [hg]; exact (below_size (by repeat (first | (with_reducible first | exact HB.out | apply below_alloc | apply pw_below_drewN | apply below_drew1 | refine below_set ?_ GE306.out | refine below_set ?_ GE313.out) | exact HB.out))) : w.heap.size ≤ gb320)); have n6_ := Aside0.mk ((by rw [hg]; exact (below_size (by repeat (first | (with_reducible first | exact HB.out | apply below_alloc | apply pw_below_drewN | apply below_drew1 | refine below_set ?_ GE306.out | refine below_set ?_ GE313.out) | exact HB.out))) : w.heap.size ≤ gb320)); have n7_ := Aside0.mk ((by rw [hg]; exact Nat.ne_of_lt (blk_lt (g := gb306) (o := .cells #[.int .i64 t300, .int .i64 t301, .int .i64 t302, .string t303, .int .i64 t304] 27 (0, 0)) (by (with_reducible repeat (first | refine blk_drewN ?_ _ | refine blk_drew ?_ | refine blk_alloc ?_ _)); exact BK306.out)) : gb306 ≠ gb320)); have n8_ := Aside0.mk ((by rw [hg]; exact Nat.ne_of_gt (blk_lt (g := gb306) (o := .cells #[.int .i64 t300, .int .i64 t301, .int .i64 t302, .string t303, .int .i64 t304] 27 (0, 0)) (by (with_reducible repeat (first | refine blk_drewN ?_ _ | refine blk_drew ?_ | refine blk_alloc ?_ _)); exact BK306.out)) : gb320 ≠ gb306)); have n9_ := Aside0.mk ((by rw [hg]; exact Nat.ne_of_lt (blk_lt (g := gb313) (o := .cells #[.int .i64 t307, .int .i64 t308, .int .i64 t309, .string t310, .int .i64 t311] 27 (0, 0)) (by (with_reducible repeat (first | refine blk_drewN ?_ _ | refine blk_drew ?_ | refine blk_alloc ?_ _)); exact BK313.out)) : gb313 ≠ gb320)); have n10_ := Aside0.mk ((by rw [hg]; exact Nat.ne_of_gt (blk_lt (g := gb313) (o := .cells #[.int .i64 t307, .int .i64 t308, .int .i64 t309, .string t310, .int .i64 t311] 27 (0, 0)) (by (with_reducible repeat (first | refine blk_drewN ?_ _ | refine blk_drew ?_ | refine blk_alloc ?_ _)); exact BK313.out)) : gb320 ≠ gb313)); clear HO299; clear BK306; clear BK313; clear HB; have HO299 := n0_; have BK306 := n1_; have BK313 := n2_; have HB := n3_; have BK320 := n4_; have GW320 := n5_; have GE320 := n6_; have NB306_320 := n7_; have NB320_306 := n8_; have NB313_320 := n9_; have NB320_313 := n10_; clear n0_ n1_ n2_ n3_ n4_ n5_ n6_ n7_ n8_ n9_ n10_; clear hb hbox hg; have hnb22 := NB320_306.out; have hnc22 := NB306_320.out; have hnb23 := NB320_313.out; have hnc23 := NB313_320.out; have hcz24_0 : w21.cell? ⟨gb320, 0, none⟩ = some (.int .i64 0) := (blk_cell BK320.out 0).trans rfl; have hcz24_1 : w21.cell? ⟨gb320, 1, none⟩ = some (.int .i64 0) := (blk_cell BK320.out 1).trans rfl; have hcz24_2 : w21.cell? ⟨gb320, 2, none⟩ = some (.int .i64 0) := (blk_cell BK320.out 2).trans rfl; have hcz24_3 : w21.cell? ⟨gb320, 3, none⟩ = some (.string (⟨#[]⟩ : ByteArray)) := (blk_cell BK320.out 3).trans rfl; have hcz24_4 : w21.cell? ⟨gb320, 4, none⟩ = some (.int .i64 0) := (blk_cell BK320.out 4).trans rfl; have hfz24_0 := blk_frozen BK320.out 0; have hfz24_1 := blk_frozen BK320.out 1; have hfz24_2 := blk_frozen BK320.out 2; have hfz24_3 := blk_frozen BK320.out 3; have hfz24_4 := blk_frozen BK320.out 4) | ((with_reducible refine gate_callee (f := 12) rfl ?_); refine goesL_ (some 41) rfl rfl Tryd.func12 (by kernel_rfl) rfl #[.slice Ao12 t297.length co12, .int .i64 (Go.bits .and .i64 a1 127)] rfl (by (try simp only [List.map_toArray, List.map_cons, List.map_nil]); first | done | rfl | (simp only [List.length_drop, List.length_take]; rfl)) ?_; (with_reducible refine (tmesisref06_Next.calls k _ _ t297 (Go.bits .and .i64 a1 127) t321 t322 t323 t324 t325 t326 _ ?side1 ?side2 A8.out).mono ?_); (case side1 => refine (Kd.V_reads' (e := 5) (base := w.heap.size) (ok := fun k_ => (((True ∧ k_ ≠ gb306) ∧ k_ ≠ gb313) ∧ k_ ≠ gb320)) (n := t297.length) (c := co12) ?_).2.2; exact (by (with_reducible repeat (first | apply Kd.V_alloc | apply Kd.V_drewN | apply Kd.V_drew)); exact (Kd.V_mono (Kd.V_far (p := ⟨gb320, 4, none⟩) (Kd.V_far (p := ⟨gb320, 3, none⟩) (Kd.V_far (p := ⟨gb320, 2, none⟩) (Kd.V_far (p := ⟨gb320, 1, none⟩) (Kd.V_far (p := ⟨gb320, 0, none⟩) (Kd.V_mono HO299.out (fun k_ hk => (⟨hk, hk.2⟩ : _ ∧ k_ ≠ gb320))) (fun _ hk => hk.2) (.int .i64 t314)) (fun _ hk => hk.2) (.int .i64 t315)) (fun _ hk => hk.2) (.int .i64 t316)) (fun _ hk => hk.2) (.string t317)) (fun _ hk => hk.2) (.int .i64 t318)) (fun _ h_ => h_.1)))); (case side2 => exact (Kd.V_reads' HO299.out).2.1); rintro e w25 ⟨rfl, hb⟩; refine ⟨_, rfl, ?_⟩; have n0_ := Aside0.mk (Kd.V_below (by (with_reducible repeat (first | apply Kd.V_alloc | apply Kd.V_drewN | apply Kd.V_drew)); exact (Kd.V_mono (Kd.V_far (p := ⟨gb320, 4, none⟩) (Kd.V_far (p := ⟨gb320, 3, none⟩) (Kd.V_far (p := ⟨gb320, 2, none⟩) (Kd.V_far (p := ⟨gb320, 1, none⟩) (Kd.V_far (p := ⟨gb320, 0, none⟩) (Kd.V_mono HO299.out (fun k_ hk => (⟨hk, hk.2⟩ : _ ∧ k_ ≠ gb320))) (fun _ hk => hk.2) (.int .i64 t314)) (fun _ hk => hk.2) (.int .i64 t315)) (fun _ hk => hk.2) (.int .i64 t316)) (fun _ hk => hk.2) (.string t317)) (fun _ hk => hk.2) (.int .i64 t318)) (fun _ h_ => h_.1))) hb); have n1_ := Aside0.mk (blk_below (g := gb306) (o := .cells #[.int .i64 t300, .int .i64 t301, .int .i64 t302, .string t303, .int .i64 t304] 27 (0, 0)) (by (with_reducible repeat (first | refine blk_drewN ?_ _ | refine blk_drew ?_ | refine blk_alloc ?_ _)); refine blk_far ?_ NB306_320.out _; (with_reducible repeat (first | refine blk_drewN ?_ _ | refine blk_drew ?_ | refine blk_alloc ?_ _)); refine blk_far ?_ NB306_320.out _; (with_reducible repeat (first | refine blk_drewN ?_ _ | refine blk_drew ?_ | refine blk_alloc ?_ _)); refine blk_far ?_ NB306_320.out _; (with_reducible repeat (first | refine blk_drewN ?_ _ | refine blk_drew ?_ | refine blk_alloc ?_ _)); refine blk_far ?_ NB306_320.out _; (with_reducible repeat (first | refine blk_drewN ?_ _ | refine blk_drew ?_ | refine blk_alloc ?_ _)); refine blk_far ?_ NB306_320.out _; (with_reducible repeat (first | refine blk_drewN ?_ _ | refine blk_drew ?_ | refine blk_alloc ?_ _)); exact BK306.out) hb); have n2_ := Aside0.mk (blk_below (g := gb313) (o := .cells #[.int .i64 t307, .int .i64 t308, .int .i64 t309, .string t310, .int .i64 t311] 27 (0, 0)) (by (with_reducible repeat (first | refine blk_drewN ?_ _ | refine blk_drew ?_ | refine blk_alloc ?_ _)); refine blk_far ?_ NB313_320.out _; (with_reducible repeat (first | refine blk_drewN ?_ _ | refine blk_drew ?_ | refine blk_alloc ?_ _)); refine blk_far ?_ NB313_320.out _; (with_reducible repeat (first | refine blk_drewN ?_ _ | refine blk_drew ?_ | refine blk_alloc ?_ _)); refine blk_far ?_ NB313_320.out _; (with_reducible repeat (first | refine blk_drewN ?_ _ | refine blk_drew ?_ | refine blk_alloc ?_ _)); refine blk_far ?_ NB313_320.out _; (with_reducible repeat (first | refine blk_drewN ?_ _ | refine blk_drew ?_ | refine blk_alloc ?_ _)); refine blk_far ?_ NB313_320.out _; (with_reducible repeat (first | refine blk_drewN ?_ _ | refine blk_drew ?_ | refine blk_alloc ?_ _)); exact BK313.out) hb); have n3_ := Aside0.mk (blk_below (g := gb320) (o := .cells #[.int .i64 t314, .int .i64 t315, .int .i64 t316, .string t317, .int .i64 t318] 27 (0, 0)) (by (with_reducible repeat (first | refine blk_drewN ?_ _ | refine blk_drew ?_ | refine blk_alloc ?_ _)); refine blk_put (cs := #[.int .i64 t314, .int .i64 t315, .int .i64 t316, .string t317, .int .i64 0]) ?_ 4 _ rfl; (with_reducible repeat (first | refine blk_drewN ?_ _ | refine blk_drew ?_ | refine blk_alloc ?_ _)); refine blk_put (cs := #[.int .i64 t314, .int .i64 t315, .int .i64 t316, .string (⟨#[]⟩ : ByteArray), .int .i64 0]) ?_ 3 _ rfl; (with_reducible repeat (first | refine blk_drewN ?_ _ | refine blk_drew ?_ | refine blk_alloc ?_ _)); refine blk_put (cs := #[.int .i64 t314, .int .i64 t315, .int .i64 0, .string (⟨#[]⟩ : ByteArray), .int .i64 0]) ?_ 2 _ rfl; (with_reducible repeat (first | refine blk_drewN ?_ _ | refine blk_drew ?_ | refine blk_alloc ?_ _)); refine blk_put (cs := #[.int .i64 t314, .int .i64 0, .int .i64 0, .string (⟨#[]⟩ : ByteArray), .int .i64 0]) ?_ 1 _ rfl; (with_reducible repeat (first | refine blk_drewN ?_ _ | refine blk_drew ?_ | refine blk_alloc ?_ _)); refine blk_put (cs := #[.int .i64 0, .int .i64 0, .int .i64 0, .string (⟨#[]⟩ : ByteArray), .int .i64 0]) ?_ 0 _ rfl; (with_reducible repeat (first | refine blk_drewN ?_ _ | refine blk_drew ?_ | refine blk_alloc ?_ _)); exact BK320.out) hb); have n4_ := Aside0.mk (below_step (by repeat (first | (with_reducible first | exact HB.out | apply below_alloc | apply pw_below_drewN | apply below_drew1 | refine below_set ?_ GE306.out | refine below_set ?_ GE313.out | refine below_set ?_ GE320.out) | exact HB.out)) hb); clear HO299; clear BK306; clear BK313; clear BK320; clear HB; have HO299 := n0_; have BK306 := n1_; have BK313 := n2_; have BK320 := n3_; have HB := n4_; clear n0_ n1_ n2_ n3_ n4_; (try clear hb); (try clear hb2); (try clear hk); (try clear hi)) | ((with_reducible refine gate_dst (N := 13) rfl ?_); refine box_event ?hg (N := 13) ?hd (cs := #[.int .i64 0, .int .i64 0, .int .i64 0, .string (⟨#[]⟩ : ByteArray), .int .i64 0]) (t := 27) ?hr ?_; (case hd => rfl); (case hg => rfl); (case hr => first | (go_simp; done) | (go_simp; rfl)); intro gb327 hg w26 hbox hb; have n0_ := Aside0.mk (Kd.V_below (Kd.V_elderB (by (with_reducible repeat (first | apply Kd.V_alloc | apply Kd.V_drewN | apply Kd.V_drew)); exact HO299.out) gb327 (Nat.le_of_eq hg.symm)) hb); have n1_ := Aside0.mk (blk_below (g := gb306) (o := .cells #[.int .i64 t300, .int .i64 t301, .int .i64 t302, .string t303, .int .i64 t304] 27 (0, 0)) (by (with_reducible repeat (first | refine blk_drewN ?_ _ | refine blk_drew ?_ | refine blk_alloc ?_ _)); exact BK306.out) hb); have n2_ := Aside0.mk (blk_below (g := gb313) (o := .cells #[.int .i64 t307, .int .i64 t308, .int .i64 t309, .string t310, .int .i64 t311] 27 (0, 0)) (by (with_reducible repeat (first | refine blk_drewN ?_ _ | refine blk_drew ?_ | refine blk_alloc ?_ _)); exact BK313.out) hb); have n3_ := Aside0.mk (blk_below (g := gb320) (o := .cells #[.int .i64 t314, .int .i64 t315, .int .i64 t316, .string t317, .int .i64 t318] 27 (0, 0)) (by (with_reducible repeat (first | refine blk_drewN ?_ _ | refine blk_drew ?_ | refine blk_alloc ?_ _)); exact BK320.out) hb); have n4_ := Aside0.mk (below_step (by repeat (first | (with_reducible first | exact HB.out | apply below_alloc | apply pw_below_drewN | apply below_drew1 | refine below_set ?_ GE306.out | refine below_set ?_ GE313.out | refine below_set ?_ GE320.out) | exact HB.out)) hb); have n5_ := Aside0.mk (hbox); have n6_ := Aside0.mk ((by rw [hg]; exact (below_size (by repeat (first | (with_reducible first | exact HB.out | apply below_alloc | apply pw_below_drewN | apply below_drew1 | refine below_set ?_ GE306.out | refine below_set ?_ GE313.out | refine below_set ?_ GE320.out) | exact HB.out))) : w.heap.size ≤ gb327)); have n7_ := Aside0.mk ((by rw [hg]; exact (below_size (by repeat (first | (with_reducible first | exact HB.out | apply below_alloc | apply pw_below_drewN | apply below_drew1 | refine below_set ?_ GE306.out | refine below_set ?_ GE313.out | refine below_set ?_ GE320.out) | exact HB.out))) : w.heap.size ≤ gb327)); have n8_ := Aside0.mk ((by rw [hg]; exact Nat.ne_of_lt (blk_lt (g := gb306) (o := .cells #[.int .i64 t300, .int .i64 t301, .int .i64 t302, .string t303, .int .i64 t304] 27 (0, 0)) (by (with_reducible repeat (first | refine blk_drewN ?_ _ | refine blk_drew ?_ | refine blk_alloc ?_ _)); exact BK306.out)) : gb306 ≠ gb327)); have n9_ := Aside0.mk ((by rw [hg]; exact Nat.ne_of_gt (blk_lt (g := gb306) (o := .cells #[.int .i64 t300, .int .i64 t301, .int .i64 t302, .string t303, .int .i64 t304] 27 (0, 0)) (by (with_reducible repeat (first | refine blk_drewN ?_ _ | refine blk_drew ?_ | refine blk_alloc ?_ _)); exact BK306.out)) : gb327 ≠ gb306)); have n10_ := Aside0.mk ((by rw [hg]; exact Nat.ne_of_lt (blk_lt (g := gb313) (o := .cells #[.int .i64 t307, .int .i64 t308, .int .i64 t309, .string t310, .int .i64 t311] 27 (0, 0)) (by (with_reducible repeat (first | refine blk_drewN ?_ _ | refine blk_drew ?_ | refine blk_alloc ?_ _)); exact BK313.out)) : gb313 ≠ gb327)); have n11_ := Aside0.mk ((by rw [hg]; exact Nat.ne_of_gt (blk_lt (g := gb313) (o := .cells #[.int .i64 t307, .int .i64 t308, .int .i64 t309, .string t310, .int .i64 t311] 27 (0, 0)) (by (with_reducible repeat (first | refine blk_drewN ?_ _ | refine blk_drew ?_ | refine blk_alloc ?_ _)); exact BK313.out)) : gb327 ≠ gb313)); have n12_ := Aside0.mk ((by rw [hg]; exact Nat.ne_of_lt (blk_lt (g := gb320) (o := .cells #[.int .i64 t314, .int .i64 t315, .int .i64 t316, .string t317, .int .i64 t318] 27 (0, 0)) (by (with_reducible repeat (first | refine blk_drewN ?_ _ | refine blk_drew ?_ | refine blk_alloc ?_ _)); exact BK320.out)) : gb320 ≠ gb327)); have n13_ := Aside0.mk ((by rw [hg]; exact Nat.ne_of_gt (blk_lt (g := gb320) (o := .cells #[.int .i64 t314, .int .i64 t315, .int .i64 t316, .string t317, .int .i64 t318] 27 (0, 0)) (by (with_reducible repeat (first | refine blk_drewN ?_ _ | refine blk_drew ?_ | refine blk_alloc ?_ _)); exact BK320.out)) : gb327 ≠ gb320)); clear HO299; clear BK306; clear BK313; clear BK320; clear HB; have HO299 := n0_; have BK306 := n1_; have BK313 := n2_; have BK320 := n3_; have HB := n4_; have BK327 := n5_; have GW327 := n6_; have GE327 := n7_; have NB306_327 := n8_; have NB327_306 := n9_; have NB313_327 := n10_; have NB327_313 := n11_; have NB320_327 := n12_; have NB327_320 := n13_; clear n0_ n1_ n2_ n3_ n4_ n5_ n6_ n7_ n8_ n9_ n10_ n11_ n12_ n13_; clear hb hbox hg; have hnb27 := NB327_306.out; have hnc27 := NB306_327.out; have hnb28 := NB327_313.out; have hnc28 := NB313_327.out; have hnb29 := NB327_320.out; have hnc29 := NB320_327.out; have hcz30_0 : w26.cell? ⟨gb327, 0, none⟩ = some (.int .i64 0) := (blk_cell BK327.out 0).trans rfl; have hcz30_1 : w26.cell? ⟨gb327, 1, none⟩ = some (.int .i64 0) := (blk_cell BK327.out 1).trans rfl; have hcz30_2 : w26.cell? ⟨gb327, 2, none⟩ = some (.int .i64 0) := (blk_cell BK327.out 2).trans rfl; have hcz30_3 : w26.cell? ⟨gb327, 3, none⟩ = some (.string (⟨#[]⟩ : ByteArray)) := (blk_cell BK327.out 3).trans rfl; have hcz30_4 : w26.cell? ⟨gb327, 4, none⟩ = some (.int .i64 0) := (blk_cell BK327.out 4).trans rfl; have hfz30_0 := blk_frozen BK327.out 0; have hfz30_1 := blk_frozen BK327.out 1; have hfz30_2 := blk_frozen BK327.out 2; have hfz30_3 := blk_frozen BK327.out 3; have hfz30_4 := blk_frozen BK327.out 4))
 (try simp only [Act.put, List.setIfInBounds_toArray, List.set_cons_zero, List.set_cons_succ])
 go_cut [4] (fun v4 wc => ∃ (kq : Nat) (x4_8 : Bool), v4 = .bool x4_8 ∧ Aside0 (tmesislaw06_TokenAll.j0 kq x4_8 = some r) ∧ Aside0 (kq ≤ k) ∧ Aside0 (wc.heap[gb306]? = some (.cells #[.int .i64 t300, .int .i64 t301, .int .i64 t302, .string t303, .int .i64 t304] 27 (0, 0))) ∧ Aside0 (wc.heap[gb313]? = some (.cells #[.int .i64 t307, .int .i64 t308, .int .i64 t309, .string t310, .int .i64 t311] 27 (0, 0))) ∧ Aside0 (wc.heap[gb320]? = some (.cells #[.int .i64 t314, .int .i64 t315, .int .i64 t316, .string t317, .int .i64 t318] 27 (0, 0))) ∧ Aside0 (wc.heap[gb327]? = some (.cells #[.int .i64 t321, .int .i64 t322, .int .i64 t323, .string t324, .int .i64 t325] 27 (0, 0))) ∧ Aside0 (Below w.heap.size w wc))
 case first =>
  have H := HC9.out
  clear HC9
  by_cases c31 : t296 = true
  ·subst c31
   have H1 : (if (t300 == t307 && (t301 == t308 && (t302 == t309 && (t303.toList == t310.toList && (t304 == t311))))) = true then (if (t305 == t312) = true then (if (t314 == t321 && (t315 == t322 && (t316 == t323 && (t317.toList == t324.toList && (t318 == t325))))) = true then (tmesislaw06_TokenAll.j0 k (t319 == t326)) else (tmesislaw06_TokenAll.j0 k false)) else (tmesislaw06_TokenAll.j0 k false)) else (tmesislaw06_TokenAll.j0 k false)) = some r := by rw [if_pos rfl] at H; exact H
   clear H
   have H := H1
   clear H1
   by_cases c32 : (t300 == t307 && (t301 == t308 && (t302 == t309 && (t303.toList == t310.toList && (t304 == t311))))) = true
   ·rw [if_pos c32] at H
    have c32b0 : (t300 == t307 && (t301 == t308 && (t302 == t309 && (t303.toList == t310.toList && (t304 == t311))))) = true := c32
    (try (have c32b1 : decide (t300 = t307 && (t301 == t308 && (t302 == t309 && (t303.toList == t310.toList && (t304 == t311))))) = true := by simpa using c32))
    (try (have c32b2 : (t300 == t307 && (t301 == t308 && (t302 == t309 && (t303.toList == t310.toList && (t304 == t311))))) = true := by simpa using c32))
    clear c32
    (first | rw [c32b0] | (simp only [i64_w, i32_w]; rw [c32b0]) | skip)
    by_cases c33 : (t305 == t312) = true
    ·rw [if_pos c33] at H
     have c33b0 : (t305 == t312) = true := c33
     (try (have c33b1 : decide (t305 = t312) = true := by simpa using c33))
     (try (have c33b2 : (t305 == t312) = true := by simpa using c33))
     clear c33
     by_cases c34 : (t314 == t321 && (t315 == t322 && (t316 == t323 && (t317.toList == t324.toList && (t318 == t325))))) = true
     ·rw [if_pos c34] at H
      have c34b0 : (t314 == t321 && (t315 == t322 && (t316 == t323 && (t317.toList == t324.toList && (t318 == t325))))) = true := c34
      (try (have c34b1 : decide (t314 = t321 && (t315 == t322 && (t316 == t323 && (t317.toList == t324.toList && (t318 == t325))))) = true := by simpa using c34))
      (try (have c34b2 : (t314 == t321 && (t315 == t322 && (t316 == t323 && (t317.toList == t324.toList && (t318 == t325))))) = true := by simpa using c34))
      clear c34
      have H' := Aside0.mk H
      clear H
      have hnb35 := NB306_313.out
      have hnc35 := NB313_306.out
      have hnb36 := NB306_320.out
      have hnc36 := NB320_306.out
      have hnb37 := NB306_327.out
      have hnc37 := NB327_306.out
      have hcz38_0 : w26.cell? ⟨gb306, 0, none⟩ = some (.int .i64 t300) := (blk_cell BK306.out 0).trans rfl
      have hcz38_1 : w26.cell? ⟨gb306, 1, none⟩ = some (.int .i64 t301) := (blk_cell BK306.out 1).trans rfl
      have hcz38_2 : w26.cell? ⟨gb306, 2, none⟩ = some (.int .i64 t302) := (blk_cell BK306.out 2).trans rfl
      have hcz38_3 : w26.cell? ⟨gb306, 3, none⟩ = some (.string t303) := (blk_cell BK306.out 3).trans rfl
      have hcz38_4 : w26.cell? ⟨gb306, 4, none⟩ = some (.int .i64 t304) := (blk_cell BK306.out 4).trans rfl
      have hfz38_0 := blk_frozen BK306.out 0
      have hfz38_1 := blk_frozen BK306.out 1
      have hfz38_2 := blk_frozen BK306.out 2
      have hfz38_3 := blk_frozen BK306.out 3
      have hfz38_4 := blk_frozen BK306.out 4
      have hnb39 := NB313_320.out
      have hnc39 := NB320_313.out
      have hnb40 := NB313_327.out
      have hnc40 := NB327_313.out
      have hcz41_0 : w26.cell? ⟨gb313, 0, none⟩ = some (.int .i64 t307) := (blk_cell BK313.out 0).trans rfl
      have hcz41_1 : w26.cell? ⟨gb313, 1, none⟩ = some (.int .i64 t308) := (blk_cell BK313.out 1).trans rfl
      have hcz41_2 : w26.cell? ⟨gb313, 2, none⟩ = some (.int .i64 t309) := (blk_cell BK313.out 2).trans rfl
      have hcz41_3 : w26.cell? ⟨gb313, 3, none⟩ = some (.string t310) := (blk_cell BK313.out 3).trans rfl
      have hcz41_4 : w26.cell? ⟨gb313, 4, none⟩ = some (.int .i64 t311) := (blk_cell BK313.out 4).trans rfl
      have hfz41_0 := blk_frozen BK313.out 0
      have hfz41_1 := blk_frozen BK313.out 1
      have hfz41_2 := blk_frozen BK313.out 2
      have hfz41_3 := blk_frozen BK313.out 3
      have hfz41_4 := blk_frozen BK313.out 4
      have hnb42 := NB320_327.out
      have hnc42 := NB327_320.out
      have hcz43_0 : w26.cell? ⟨gb320, 0, none⟩ = some (.int .i64 t314) := (blk_cell BK320.out 0).trans rfl
      have hcz43_1 : w26.cell? ⟨gb320, 1, none⟩ = some (.int .i64 t315) := (blk_cell BK320.out 1).trans rfl
      have hcz43_2 : w26.cell? ⟨gb320, 2, none⟩ = some (.int .i64 t316) := (blk_cell BK320.out 2).trans rfl
      have hcz43_3 : w26.cell? ⟨gb320, 3, none⟩ = some (.string t317) := (blk_cell BK320.out 3).trans rfl
      have hcz43_4 : w26.cell? ⟨gb320, 4, none⟩ = some (.int .i64 t318) := (blk_cell BK320.out 4).trans rfl
      have hfz43_0 := blk_frozen BK320.out 0
      have hfz43_1 := blk_frozen BK320.out 1
      have hfz43_2 := blk_frozen BK320.out 2
      have hfz43_3 := blk_frozen BK320.out 3
      have hfz43_4 := blk_frozen BK320.out 4
      have hcz44_0 : w26.cell? ⟨gb327, 0, none⟩ = some (.int .i64 0) := (blk_cell BK327.out 0).trans rfl
      have hcz44_1 : w26.cell? ⟨gb327, 1, none⟩ = some (.int .i64 0) := (blk_cell BK327.out 1).trans rfl
      have hcz44_2 : w26.cell? ⟨gb327, 2, none⟩ = some (.int .i64 0) := (blk_cell BK327.out 2).trans rfl
      have hcz44_3 : w26.cell? ⟨gb327, 3, none⟩ = some (.string (⟨#[]⟩ : ByteArray)) := (blk_cell BK327.out 3).trans rfl
      have hcz44_4 : w26.cell? ⟨gb327, 4, none⟩ = some (.int .i64 0) := (blk_cell BK327.out 4).trans rfl
      have hfz44_0 := blk_frozen BK327.out 0
      have hfz44_1 := blk_frozen BK327.out 1
      have hfz44_2 := blk_frozen BK327.out 2
      have hfz44_3 := blk_frozen BK327.out 3
      have hfz44_4 := blk_frozen BK327.out 4
      go_wp2
      go_meet
      case rel => exact ⟨_, ((t319 == t326)), (by first | rfl | (simp; done) | (simp [*]; done)), H', ⟨by first | omega | exact Nat.le_refl _⟩, ⟨by (with_reducible repeat (first | refine blk_drewN ?_ _ | refine blk_drew ?_ | refine blk_alloc ?_ _)); refine blk_far ?_ NB306_327.out _; (with_reducible repeat (first | refine blk_drewN ?_ _ | refine blk_drew ?_ | refine blk_alloc ?_ _)); refine blk_far ?_ NB306_327.out _; (with_reducible repeat (first | refine blk_drewN ?_ _ | refine blk_drew ?_ | refine blk_alloc ?_ _)); refine blk_far ?_ NB306_327.out _; (with_reducible repeat (first | refine blk_drewN ?_ _ | refine blk_drew ?_ | refine blk_alloc ?_ _)); refine blk_far ?_ NB306_327.out _; (with_reducible repeat (first | refine blk_drewN ?_ _ | refine blk_drew ?_ | refine blk_alloc ?_ _)); refine blk_far ?_ NB306_327.out _; (with_reducible repeat (first | refine blk_drewN ?_ _ | refine blk_drew ?_ | refine blk_alloc ?_ _)); exact BK306.out⟩, ⟨by (with_reducible repeat (first | refine blk_drewN ?_ _ | refine blk_drew ?_ | refine blk_alloc ?_ _)); refine blk_far ?_ NB313_327.out _; (with_reducible repeat (first | refine blk_drewN ?_ _ | refine blk_drew ?_ | refine blk_alloc ?_ _)); refine blk_far ?_ NB313_327.out _; (with_reducible repeat (first | refine blk_drewN ?_ _ | refine blk_drew ?_ | refine blk_alloc ?_ _)); refine blk_far ?_ NB313_327.out _; (with_reducible repeat (first | refine blk_drewN ?_ _ | refine blk_drew ?_ | refine blk_alloc ?_ _)); refine blk_far ?_ NB313_327.out _; (with_reducible repeat (first | refine blk_drewN ?_ _ | refine blk_drew ?_ | refine blk_alloc ?_ _)); refine blk_far ?_ NB313_327.out _; (with_reducible repeat (first | refine blk_drewN ?_ _ | refine blk_drew ?_ | refine blk_alloc ?_ _)); exact BK313.out⟩, ⟨by (with_reducible repeat (first | refine blk_drewN ?_ _ | refine blk_drew ?_ | refine blk_alloc ?_ _)); refine blk_far ?_ NB320_327.out _; (with_reducible repeat (first | refine blk_drewN ?_ _ | refine blk_drew ?_ | refine blk_alloc ?_ _)); refine blk_far ?_ NB320_327.out _; (with_reducible repeat (first | refine blk_drewN ?_ _ | refine blk_drew ?_ | refine blk_alloc ?_ _)); refine blk_far ?_ NB320_327.out _; (with_reducible repeat (first | refine blk_drewN ?_ _ | refine blk_drew ?_ | refine blk_alloc ?_ _)); refine blk_far ?_ NB320_327.out _; (with_reducible repeat (first | refine blk_drewN ?_ _ | refine blk_drew ?_ | refine blk_alloc ?_ _)); refine blk_far ?_ NB320_327.out _; (with_reducible repeat (first | refine blk_drewN ?_ _ | refine blk_drew ?_ | refine blk_alloc ?_ _)); exact BK320.out⟩, ⟨by (with_reducible repeat (first | refine blk_drewN ?_ _ | refine blk_drew ?_ | refine blk_alloc ?_ _)); refine blk_put (cs := #[.int .i64 t321, .int .i64 t322, .int .i64 t323, .string t324, .int .i64 0]) ?_ 4 _ rfl; (with_reducible repeat (first | refine blk_drewN ?_ _ | refine blk_drew ?_ | refine blk_alloc ?_ _)); refine blk_put (cs := #[.int .i64 t321, .int .i64 t322, .int .i64 t323, .string (⟨#[]⟩ : ByteArray), .int .i64 0]) ?_ 3 _ rfl; (with_reducible repeat (first | refine blk_drewN ?_ _ | refine blk_drew ?_ | refine blk_alloc ?_ _)); refine blk_put (cs := #[.int .i64 t321, .int .i64 t322, .int .i64 0, .string (⟨#[]⟩ : ByteArray), .int .i64 0]) ?_ 2 _ rfl; (with_reducible repeat (first | refine blk_drewN ?_ _ | refine blk_drew ?_ | refine blk_alloc ?_ _)); refine blk_put (cs := #[.int .i64 t321, .int .i64 0, .int .i64 0, .string (⟨#[]⟩ : ByteArray), .int .i64 0]) ?_ 1 _ rfl; (with_reducible repeat (first | refine blk_drewN ?_ _ | refine blk_drew ?_ | refine blk_alloc ?_ _)); refine blk_put (cs := #[.int .i64 0, .int .i64 0, .int .i64 0, .string (⟨#[]⟩ : ByteArray), .int .i64 0]) ?_ 0 _ rfl; (with_reducible repeat (first | refine blk_drewN ?_ _ | refine blk_drew ?_ | refine blk_alloc ?_ _)); exact BK327.out⟩, ⟨by repeat (first | (with_reducible first | exact HB.out | apply below_alloc | apply pw_below_drewN | apply below_drew1 | refine below_set ?_ GE306.out | refine below_set ?_ GE313.out | refine below_set ?_ GE320.out | refine below_set ?_ GE327.out) | exact HB.out)⟩⟩
     ·rw [if_neg c34] at H
      have c34b0 : (t314 == t321 && (t315 == t322 && (t316 == t323 && (t317.toList == t324.toList && (t318 == t325))))) = false := by simpa using c34
      (try (have c34b1 : decide (t314 = t321 && (t315 == t322 && (t316 == t323 && (t317.toList == t324.toList && (t318 == t325))))) = false := by simpa using c34))
      (try (have c34b2 : (t314 == t321 && (t315 == t322 && (t316 == t323 && (t317.toList == t324.toList && (t318 == t325))))) = false := by simpa using c34))
      (try (have c34b3 : ¬ (t314 = t321 && (t315 == t322 && (t316 == t323 && (t317.toList == t324.toList && (t318 == t325))))) := by simpa using c34))
      clear c34
      have H' := Aside0.mk H
      clear H
      have hnb45 := NB306_313.out
      have hnc45 := NB313_306.out
      have hnb46 := NB306_320.out
      have hnc46 := NB320_306.out
      have hnb47 := NB306_327.out
      have hnc47 := NB327_306.out
      have hcz48_0 : w26.cell? ⟨gb306, 0, none⟩ = some (.int .i64 t300) := (blk_cell BK306.out 0).trans rfl
      have hcz48_1 : w26.cell? ⟨gb306, 1, none⟩ = some (.int .i64 t301) := (blk_cell BK306.out 1).trans rfl
      have hcz48_2 : w26.cell? ⟨gb306, 2, none⟩ = some (.int .i64 t302) := (blk_cell BK306.out 2).trans rfl
      have hcz48_3 : w26.cell? ⟨gb306, 3, none⟩ = some (.string t303) := (blk_cell BK306.out 3).trans rfl
      have hcz48_4 : w26.cell? ⟨gb306, 4, none⟩ = some (.int .i64 t304) := (blk_cell BK306.out 4).trans rfl
      have hfz48_0 := blk_frozen BK306.out 0
      have hfz48_1 := blk_frozen BK306.out 1
      have hfz48_2 := blk_frozen BK306.out 2
      have hfz48_3 := blk_frozen BK306.out 3
      have hfz48_4 := blk_frozen BK306.out 4
      have hnb49 := NB313_320.out
      have hnc49 := NB320_313.out
      have hnb50 := NB313_327.out
      have hnc50 := NB327_313.out
      have hcz51_0 : w26.cell? ⟨gb313, 0, none⟩ = some (.int .i64 t307) := (blk_cell BK313.out 0).trans rfl
      have hcz51_1 : w26.cell? ⟨gb313, 1, none⟩ = some (.int .i64 t308) := (blk_cell BK313.out 1).trans rfl
      have hcz51_2 : w26.cell? ⟨gb313, 2, none⟩ = some (.int .i64 t309) := (blk_cell BK313.out 2).trans rfl
      have hcz51_3 : w26.cell? ⟨gb313, 3, none⟩ = some (.string t310) := (blk_cell BK313.out 3).trans rfl
      have hcz51_4 : w26.cell? ⟨gb313, 4, none⟩ = some (.int .i64 t311) := (blk_cell BK313.out 4).trans rfl
      have hfz51_0 := blk_frozen BK313.out 0
      have hfz51_1 := blk_frozen BK313.out 1
      have hfz51_2 := blk_frozen BK313.out 2
      have hfz51_3 := blk_frozen BK313.out 3
      have hfz51_4 := blk_frozen BK313.out 4
      have hnb52 := NB320_327.out
      have hnc52 := NB327_320.out
      have hcz53_0 : w26.cell? ⟨gb320, 0, none⟩ = some (.int .i64 t314) := (blk_cell BK320.out 0).trans rfl
      have hcz53_1 : w26.cell? ⟨gb320, 1, none⟩ = some (.int .i64 t315) := (blk_cell BK320.out 1).trans rfl
      have hcz53_2 : w26.cell? ⟨gb320, 2, none⟩ = some (.int .i64 t316) := (blk_cell BK320.out 2).trans rfl
      have hcz53_3 : w26.cell? ⟨gb320, 3, none⟩ = some (.string t317) := (blk_cell BK320.out 3).trans rfl
      have hcz53_4 : w26.cell? ⟨gb320, 4, none⟩ = some (.int .i64 t318) := (blk_cell BK320.out 4).trans rfl
      have hfz53_0 := blk_frozen BK320.out 0
      have hfz53_1 := blk_frozen BK320.out 1
      have hfz53_2 := blk_frozen BK320.out 2
      have hfz53_3 := blk_frozen BK320.out 3
      have hfz53_4 := blk_frozen BK320.out 4
      have hcz54_0 : w26.cell? ⟨gb327, 0, none⟩ = some (.int .i64 0) := (blk_cell BK327.out 0).trans rfl
      have hcz54_1 : w26.cell? ⟨gb327, 1, none⟩ = some (.int .i64 0) := (blk_cell BK327.out 1).trans rfl
      have hcz54_2 : w26.cell? ⟨gb327, 2, none⟩ = some (.int .i64 0) := (blk_cell BK327.out 2).trans rfl
      have hcz54_3 : w26.cell? ⟨gb327, 3, none⟩ = some (.string (⟨#[]⟩ : ByteArray)) := (blk_cell BK327.out 3).trans rfl
      have hcz54_4 : w26.cell? ⟨gb327, 4, none⟩ = some (.int .i64 0) := (blk_cell BK327.out 4).trans rfl
      have hfz54_0 := blk_frozen BK327.out 0
      have hfz54_1 := blk_frozen BK327.out 1
      have hfz54_2 := blk_frozen BK327.out 2
      have hfz54_3 := blk_frozen BK327.out 3
      have hfz54_4 := blk_frozen BK327.out 4
      go_wp2
      go_meet
      case rel => exact ⟨_, (false), (by first | rfl | (simp; done) | (simp [*]; done)), H', ⟨by first | omega | exact Nat.le_refl _⟩, ⟨by (with_reducible repeat (first | refine blk_drewN ?_ _ | refine blk_drew ?_ | refine blk_alloc ?_ _)); refine blk_far ?_ NB306_327.out _; (with_reducible repeat (first | refine blk_drewN ?_ _ | refine blk_drew ?_ | refine blk_alloc ?_ _)); refine blk_far ?_ NB306_327.out _; (with_reducible repeat (first | refine blk_drewN ?_ _ | refine blk_drew ?_ | refine blk_alloc ?_ _)); refine blk_far ?_ NB306_327.out _; (with_reducible repeat (first | refine blk_drewN ?_ _ | refine blk_drew ?_ | refine blk_alloc ?_ _)); refine blk_far ?_ NB306_327.out _; (with_reducible repeat (first | refine blk_drewN ?_ _ | refine blk_drew ?_ | refine blk_alloc ?_ _)); refine blk_far ?_ NB306_327.out _; (with_reducible repeat (first | refine blk_drewN ?_ _ | refine blk_drew ?_ | refine blk_alloc ?_ _)); exact BK306.out⟩, ⟨by (with_reducible repeat (first | refine blk_drewN ?_ _ | refine blk_drew ?_ | refine blk_alloc ?_ _)); refine blk_far ?_ NB313_327.out _; (with_reducible repeat (first | refine blk_drewN ?_ _ | refine blk_drew ?_ | refine blk_alloc ?_ _)); refine blk_far ?_ NB313_327.out _; (with_reducible repeat (first | refine blk_drewN ?_ _ | refine blk_drew ?_ | refine blk_alloc ?_ _)); refine blk_far ?_ NB313_327.out _; (with_reducible repeat (first | refine blk_drewN ?_ _ | refine blk_drew ?_ | refine blk_alloc ?_ _)); refine blk_far ?_ NB313_327.out _; (with_reducible repeat (first | refine blk_drewN ?_ _ | refine blk_drew ?_ | refine blk_alloc ?_ _)); refine blk_far ?_ NB313_327.out _; (with_reducible repeat (first | refine blk_drewN ?_ _ | refine blk_drew ?_ | refine blk_alloc ?_ _)); exact BK313.out⟩, ⟨by (with_reducible repeat (first | refine blk_drewN ?_ _ | refine blk_drew ?_ | refine blk_alloc ?_ _)); refine blk_far ?_ NB320_327.out _; (with_reducible repeat (first | refine blk_drewN ?_ _ | refine blk_drew ?_ | refine blk_alloc ?_ _)); refine blk_far ?_ NB320_327.out _; (with_reducible repeat (first | refine blk_drewN ?_ _ | refine blk_drew ?_ | refine blk_alloc ?_ _)); refine blk_far ?_ NB320_327.out _; (with_reducible repeat (first | refine blk_drewN ?_ _ | refine blk_drew ?_ | refine blk_alloc ?_ _)); refine blk_far ?_ NB320_327.out _; (with_reducible repeat (first | refine blk_drewN ?_ _ | refine blk_drew ?_ | refine blk_alloc ?_ _)); refine blk_far ?_ NB320_327.out _; (with_reducible repeat (first | refine blk_drewN ?_ _ | refine blk_drew ?_ | refine blk_alloc ?_ _)); exact BK320.out⟩, ⟨by (with_reducible repeat (first | refine blk_drewN ?_ _ | refine blk_drew ?_ | refine blk_alloc ?_ _)); refine blk_put (cs := #[.int .i64 t321, .int .i64 t322, .int .i64 t323, .string t324, .int .i64 0]) ?_ 4 _ rfl; (with_reducible repeat (first | refine blk_drewN ?_ _ | refine blk_drew ?_ | refine blk_alloc ?_ _)); refine blk_put (cs := #[.int .i64 t321, .int .i64 t322, .int .i64 t323, .string (⟨#[]⟩ : ByteArray), .int .i64 0]) ?_ 3 _ rfl; (with_reducible repeat (first | refine blk_drewN ?_ _ | refine blk_drew ?_ | refine blk_alloc ?_ _)); refine blk_put (cs := #[.int .i64 t321, .int .i64 t322, .int .i64 0, .string (⟨#[]⟩ : ByteArray), .int .i64 0]) ?_ 2 _ rfl; (with_reducible repeat (first | refine blk_drewN ?_ _ | refine blk_drew ?_ | refine blk_alloc ?_ _)); refine blk_put (cs := #[.int .i64 t321, .int .i64 0, .int .i64 0, .string (⟨#[]⟩ : ByteArray), .int .i64 0]) ?_ 1 _ rfl; (with_reducible repeat (first | refine blk_drewN ?_ _ | refine blk_drew ?_ | refine blk_alloc ?_ _)); refine blk_put (cs := #[.int .i64 0, .int .i64 0, .int .i64 0, .string (⟨#[]⟩ : ByteArray), .int .i64 0]) ?_ 0 _ rfl; (with_reducible repeat (first | refine blk_drewN ?_ _ | refine blk_drew ?_ | refine blk_alloc ?_ _)); exact BK327.out⟩, ⟨by repeat (first | (with_reducible first | exact HB.out | apply below_alloc | apply pw_below_drewN | apply below_drew1 | refine below_set ?_ GE306.out | refine below_set ?_ GE313.out | refine below_set ?_ GE320.out | refine below_set ?_ GE327.out) | exact HB.out)⟩⟩
    ·rw [if_neg c33] at H
     have c33b0 : (t305 == t312) = false := by simpa using c33
     (try (have c33b1 : decide (t305 = t312) = false := by simpa using c33))
     (try (have c33b2 : (t305 == t312) = false := by simpa using c33))
     (try (have c33b3 : ¬ (t305 = t312) := by simpa using c33))
     clear c33
     have H' := Aside0.mk H
     clear H
     have hnb55 := NB306_313.out
     have hnc55 := NB313_306.out
     have hnb56 := NB306_320.out
     have hnc56 := NB320_306.out
     have hnb57 := NB306_327.out
     have hnc57 := NB327_306.out
     have hcz58_0 : w26.cell? ⟨gb306, 0, none⟩ = some (.int .i64 t300) := (blk_cell BK306.out 0).trans rfl
     have hcz58_1 : w26.cell? ⟨gb306, 1, none⟩ = some (.int .i64 t301) := (blk_cell BK306.out 1).trans rfl
     have hcz58_2 : w26.cell? ⟨gb306, 2, none⟩ = some (.int .i64 t302) := (blk_cell BK306.out 2).trans rfl
     have hcz58_3 : w26.cell? ⟨gb306, 3, none⟩ = some (.string t303) := (blk_cell BK306.out 3).trans rfl
     have hcz58_4 : w26.cell? ⟨gb306, 4, none⟩ = some (.int .i64 t304) := (blk_cell BK306.out 4).trans rfl
     have hfz58_0 := blk_frozen BK306.out 0
     have hfz58_1 := blk_frozen BK306.out 1
     have hfz58_2 := blk_frozen BK306.out 2
     have hfz58_3 := blk_frozen BK306.out 3
     have hfz58_4 := blk_frozen BK306.out 4
     have hnb59 := NB313_320.out
     have hnc59 := NB320_313.out
     have hnb60 := NB313_327.out
     have hnc60 := NB327_313.out
     have hcz61_0 : w26.cell? ⟨gb313, 0, none⟩ = some (.int .i64 t307) := (blk_cell BK313.out 0).trans rfl
     have hcz61_1 : w26.cell? ⟨gb313, 1, none⟩ = some (.int .i64 t308) := (blk_cell BK313.out 1).trans rfl
     have hcz61_2 : w26.cell? ⟨gb313, 2, none⟩ = some (.int .i64 t309) := (blk_cell BK313.out 2).trans rfl
     have hcz61_3 : w26.cell? ⟨gb313, 3, none⟩ = some (.string t310) := (blk_cell BK313.out 3).trans rfl
     have hcz61_4 : w26.cell? ⟨gb313, 4, none⟩ = some (.int .i64 t311) := (blk_cell BK313.out 4).trans rfl
     have hfz61_0 := blk_frozen BK313.out 0
     have hfz61_1 := blk_frozen BK313.out 1
     have hfz61_2 := blk_frozen BK313.out 2
     have hfz61_3 := blk_frozen BK313.out 3
     have hfz61_4 := blk_frozen BK313.out 4
     go_wp2
     go_meet
     case rel => exact ⟨_, (false), (by first | rfl | (simp; done) | (simp [*]; done)), H', ⟨by first | omega | exact Nat.le_refl _⟩, ⟨by (with_reducible repeat (first | refine blk_drewN ?_ _ | refine blk_drew ?_ | refine blk_alloc ?_ _)); refine blk_far ?_ NB306_327.out _; (with_reducible repeat (first | refine blk_drewN ?_ _ | refine blk_drew ?_ | refine blk_alloc ?_ _)); refine blk_far ?_ NB306_327.out _; (with_reducible repeat (first | refine blk_drewN ?_ _ | refine blk_drew ?_ | refine blk_alloc ?_ _)); refine blk_far ?_ NB306_327.out _; (with_reducible repeat (first | refine blk_drewN ?_ _ | refine blk_drew ?_ | refine blk_alloc ?_ _)); refine blk_far ?_ NB306_327.out _; (with_reducible repeat (first | refine blk_drewN ?_ _ | refine blk_drew ?_ | refine blk_alloc ?_ _)); refine blk_far ?_ NB306_327.out _; (with_reducible repeat (first | refine blk_drewN ?_ _ | refine blk_drew ?_ | refine blk_alloc ?_ _)); exact BK306.out⟩, ⟨by (with_reducible repeat (first | refine blk_drewN ?_ _ | refine blk_drew ?_ | refine blk_alloc ?_ _)); refine blk_far ?_ NB313_327.out _; (with_reducible repeat (first | refine blk_drewN ?_ _ | refine blk_drew ?_ | refine blk_alloc ?_ _)); refine blk_far ?_ NB313_327.out _; (with_reducible repeat (first | refine blk_drewN ?_ _ | refine blk_drew ?_ | refine blk_alloc ?_ _)); refine blk_far ?_ NB313_327.out _; (with_reducible repeat (first | refine blk_drewN ?_ _ | refine blk_drew ?_ | refine blk_alloc ?_ _)); refine blk_far ?_ NB313_327.out _; (with_reducible repeat (first | refine blk_drewN ?_ _ | refine blk_drew ?_ | refine blk_alloc ?_ _)); refine blk_far ?_ NB313_327.out _; (with_reducible repeat (first | refine blk_drewN ?_ _ | refine blk_drew ?_ | refine blk_alloc ?_ _)); exact BK313.out⟩, ⟨by (with_reducible repeat (first | refine blk_drewN ?_ _ | refine blk_drew ?_ | refine blk_alloc ?_ _)); refine blk_far ?_ NB320_327.out _; (with_reducible repeat (first | refine blk_drewN ?_ _ | refine blk_drew ?_ | refine blk_alloc ?_ _)); refine blk_far ?_ NB320_327.out _; (with_reducible repeat (first | refine blk_drewN ?_ _ | refine blk_drew ?_ | refine blk_alloc ?_ _)); refine blk_far ?_ NB320_327.out _; (with_reducible repeat (first | refine blk_drewN ?_ _ | refine blk_drew ?_ | refine blk_alloc ?_ _)); refine blk_far ?_ NB320_327.out _; (with_reducible repeat (first | refine blk_drewN ?_ _ | refine blk_drew ?_ | refine blk_alloc ?_ _)); refine blk_far ?_ NB320_327.out _; (with_reducible repeat (first | refine blk_drewN ?_ _ | refine blk_drew ?_ | refine blk_alloc ?_ _)); exact BK320.out⟩, ⟨by (with_reducible repeat (first | refine blk_drewN ?_ _ | refine blk_drew ?_ | refine blk_alloc ?_ _)); refine blk_put (cs := #[.int .i64 t321, .int .i64 t322, .int .i64 t323, .string t324, .int .i64 0]) ?_ 4 _ rfl; (with_reducible repeat (first | refine blk_drewN ?_ _ | refine blk_drew ?_ | refine blk_alloc ?_ _)); refine blk_put (cs := #[.int .i64 t321, .int .i64 t322, .int .i64 t323, .string (⟨#[]⟩ : ByteArray), .int .i64 0]) ?_ 3 _ rfl; (with_reducible repeat (first | refine blk_drewN ?_ _ | refine blk_drew ?_ | refine blk_alloc ?_ _)); refine blk_put (cs := #[.int .i64 t321, .int .i64 t322, .int .i64 0, .string (⟨#[]⟩ : ByteArray), .int .i64 0]) ?_ 2 _ rfl; (with_reducible repeat (first | refine blk_drewN ?_ _ | refine blk_drew ?_ | refine blk_alloc ?_ _)); refine blk_put (cs := #[.int .i64 t321, .int .i64 0, .int .i64 0, .string (⟨#[]⟩ : ByteArray), .int .i64 0]) ?_ 1 _ rfl; (with_reducible repeat (first | refine blk_drewN ?_ _ | refine blk_drew ?_ | refine blk_alloc ?_ _)); refine blk_put (cs := #[.int .i64 0, .int .i64 0, .int .i64 0, .string (⟨#[]⟩ : ByteArray), .int .i64 0]) ?_ 0 _ rfl; (with_reducible repeat (first | refine blk_drewN ?_ _ | refine blk_drew ?_ | refine blk_alloc ?_ _)); exact BK327.out⟩, ⟨by repeat (first | (with_reducible first | exact HB.out | apply below_alloc | apply pw_below_drewN | apply below_drew1 | refine below_set ?_ GE306.out | refine below_set ?_ GE313.out | refine below_set ?_ GE320.out | refine below_set ?_ GE327.out) | exact HB.out)⟩⟩
   ·rw [if_neg c32] at H
    have c32b0 : (t300 == t307 && (t301 == t308 && (t302 == t309 && (t303.toList == t310.toList && (t304 == t311))))) = false := by simpa using c32
    (try (have c32b1 : decide (t300 = t307 && (t301 == t308 && (t302 == t309 && (t303.toList == t310.toList && (t304 == t311))))) = false := by simpa using c32))
    (try (have c32b2 : (t300 == t307 && (t301 == t308 && (t302 == t309 && (t303.toList == t310.toList && (t304 == t311))))) = false := by simpa using c32))
    (try (have c32b3 : ¬ (t300 = t307 && (t301 == t308 && (t302 == t309 && (t303.toList == t310.toList && (t304 == t311))))) := by simpa using c32))
    clear c32
    (first | rw [c32b0] | (simp only [i64_w, i32_w]; rw [c32b0]) | skip)
    have H' := Aside0.mk H
    clear H
    have hnb62 := NB306_313.out
    have hnc62 := NB313_306.out
    have hnb63 := NB306_320.out
    have hnc63 := NB320_306.out
    have hnb64 := NB306_327.out
    have hnc64 := NB327_306.out
    have hcz65_0 : w26.cell? ⟨gb306, 0, none⟩ = some (.int .i64 t300) := (blk_cell BK306.out 0).trans rfl
    have hcz65_1 : w26.cell? ⟨gb306, 1, none⟩ = some (.int .i64 t301) := (blk_cell BK306.out 1).trans rfl
    have hcz65_2 : w26.cell? ⟨gb306, 2, none⟩ = some (.int .i64 t302) := (blk_cell BK306.out 2).trans rfl
    have hcz65_3 : w26.cell? ⟨gb306, 3, none⟩ = some (.string t303) := (blk_cell BK306.out 3).trans rfl
    have hcz65_4 : w26.cell? ⟨gb306, 4, none⟩ = some (.int .i64 t304) := (blk_cell BK306.out 4).trans rfl
    have hfz65_0 := blk_frozen BK306.out 0
    have hfz65_1 := blk_frozen BK306.out 1
    have hfz65_2 := blk_frozen BK306.out 2
    have hfz65_3 := blk_frozen BK306.out 3
    have hfz65_4 := blk_frozen BK306.out 4
    have hnb66 := NB313_320.out
    have hnc66 := NB320_313.out
    have hnb67 := NB313_327.out
    have hnc67 := NB327_313.out
    have hcz68_0 : w26.cell? ⟨gb313, 0, none⟩ = some (.int .i64 t307) := (blk_cell BK313.out 0).trans rfl
    have hcz68_1 : w26.cell? ⟨gb313, 1, none⟩ = some (.int .i64 t308) := (blk_cell BK313.out 1).trans rfl
    have hcz68_2 : w26.cell? ⟨gb313, 2, none⟩ = some (.int .i64 t309) := (blk_cell BK313.out 2).trans rfl
    have hcz68_3 : w26.cell? ⟨gb313, 3, none⟩ = some (.string t310) := (blk_cell BK313.out 3).trans rfl
    have hcz68_4 : w26.cell? ⟨gb313, 4, none⟩ = some (.int .i64 t311) := (blk_cell BK313.out 4).trans rfl
    have hfz68_0 := blk_frozen BK313.out 0
    have hfz68_1 := blk_frozen BK313.out 1
    have hfz68_2 := blk_frozen BK313.out 2
    have hfz68_3 := blk_frozen BK313.out 3
    have hfz68_4 := blk_frozen BK313.out 4
    go_wp2
    go_meet
    case rel => exact ⟨_, (false), (by first | rfl | (simp; done) | (simp [*]; done)), H', ⟨by first | omega | exact Nat.le_refl _⟩, ⟨by (with_reducible repeat (first | refine blk_drewN ?_ _ | refine blk_drew ?_ | refine blk_alloc ?_ _)); refine blk_far ?_ NB306_327.out _; (with_reducible repeat (first | refine blk_drewN ?_ _ | refine blk_drew ?_ | refine blk_alloc ?_ _)); refine blk_far ?_ NB306_327.out _; (with_reducible repeat (first | refine blk_drewN ?_ _ | refine blk_drew ?_ | refine blk_alloc ?_ _)); refine blk_far ?_ NB306_327.out _; (with_reducible repeat (first | refine blk_drewN ?_ _ | refine blk_drew ?_ | refine blk_alloc ?_ _)); refine blk_far ?_ NB306_327.out _; (with_reducible repeat (first | refine blk_drewN ?_ _ | refine blk_drew ?_ | refine blk_alloc ?_ _)); refine blk_far ?_ NB306_327.out _; (with_reducible repeat (first | refine blk_drewN ?_ _ | refine blk_drew ?_ | refine blk_alloc ?_ _)); exact BK306.out⟩, ⟨by (with_reducible repeat (first | refine blk_drewN ?_ _ | refine blk_drew ?_ | refine blk_alloc ?_ _)); refine blk_far ?_ NB313_327.out _; (with_reducible repeat (first | refine blk_drewN ?_ _ | refine blk_drew ?_ | refine blk_alloc ?_ _)); refine blk_far ?_ NB313_327.out _; (with_reducible repeat (first | refine blk_drewN ?_ _ | refine blk_drew ?_ | refine blk_alloc ?_ _)); refine blk_far ?_ NB313_327.out _; (with_reducible repeat (first | refine blk_drewN ?_ _ | refine blk_drew ?_ | refine blk_alloc ?_ _)); refine blk_far ?_ NB313_327.out _; (with_reducible repeat (first | refine blk_drewN ?_ _ | refine blk_drew ?_ | refine blk_alloc ?_ _)); refine blk_far ?_ NB313_327.out _; (with_reducible repeat (first | refine blk_drewN ?_ _ | refine blk_drew ?_ | refine blk_alloc ?_ _)); exact BK313.out⟩, ⟨by (with_reducible repeat (first | refine blk_drewN ?_ _ | refine blk_drew ?_ | refine blk_alloc ?_ _)); refine blk_far ?_ NB320_327.out _; (with_reducible repeat (first | refine blk_drewN ?_ _ | refine blk_drew ?_ | refine blk_alloc ?_ _)); refine blk_far ?_ NB320_327.out _; (with_reducible repeat (first | refine blk_drewN ?_ _ | refine blk_drew ?_ | refine blk_alloc ?_ _)); refine blk_far ?_ NB320_327.out _; (with_reducible repeat (first | refine blk_drewN ?_ _ | refine blk_drew ?_ | refine blk_alloc ?_ _)); refine blk_far ?_ NB320_327.out _; (with_reducible repeat (first | refine blk_drewN ?_ _ | refine blk_drew ?_ | refine blk_alloc ?_ _)); refine blk_far ?_ NB320_327.out _; (with_reducible repeat (first | refine blk_drewN ?_ _ | refine blk_drew ?_ | refine blk_alloc ?_ _)); exact BK320.out⟩, ⟨by (with_reducible repeat (first | refine blk_drewN ?_ _ | refine blk_drew ?_ | refine blk_alloc ?_ _)); refine blk_put (cs := #[.int .i64 t321, .int .i64 t322, .int .i64 t323, .string t324, .int .i64 0]) ?_ 4 _ rfl; (with_reducible repeat (first | refine blk_drewN ?_ _ | refine blk_drew ?_ | refine blk_alloc ?_ _)); refine blk_put (cs := #[.int .i64 t321, .int .i64 t322, .int .i64 t323, .string (⟨#[]⟩ : ByteArray), .int .i64 0]) ?_ 3 _ rfl; (with_reducible repeat (first | refine blk_drewN ?_ _ | refine blk_drew ?_ | refine blk_alloc ?_ _)); refine blk_put (cs := #[.int .i64 t321, .int .i64 t322, .int .i64 0, .string (⟨#[]⟩ : ByteArray), .int .i64 0]) ?_ 2 _ rfl; (with_reducible repeat (first | refine blk_drewN ?_ _ | refine blk_drew ?_ | refine blk_alloc ?_ _)); refine blk_put (cs := #[.int .i64 t321, .int .i64 0, .int .i64 0, .string (⟨#[]⟩ : ByteArray), .int .i64 0]) ?_ 1 _ rfl; (with_reducible repeat (first | refine blk_drewN ?_ _ | refine blk_drew ?_ | refine blk_alloc ?_ _)); refine blk_put (cs := #[.int .i64 0, .int .i64 0, .int .i64 0, .string (⟨#[]⟩ : ByteArray), .int .i64 0]) ?_ 0 _ rfl; (with_reducible repeat (first | refine blk_drewN ?_ _ | refine blk_drew ?_ | refine blk_alloc ?_ _)); exact BK327.out⟩, ⟨by repeat (first | (with_reducible first | exact HB.out | apply below_alloc | apply pw_below_drewN | apply below_drew1 | refine below_set ?_ GE306.out | refine below_set ?_ GE313.out | refine below_set ?_ GE320.out | refine below_set ?_ GE327.out) | exact HB.out)⟩⟩
  ·replace c31 := Bool.eq_false_iff.mpr c31
   subst c31
   have H1 : (tmesislaw06_TokenAll.j0 k false) = some r := by rw [if_neg (show ¬ (false = true) by decide)] at H; exact H
   clear H
   have H := H1
   clear H1
   have H' := Aside0.mk H
   clear H
   go_wp2
   go_meet
   case rel => exact ⟨_, (false), (by first | rfl | (simp; done) | (simp [*]; done)), H', ⟨by first | omega | exact Nat.le_refl _⟩, ⟨by (with_reducible repeat (first | refine blk_drewN ?_ _ | refine blk_drew ?_ | refine blk_alloc ?_ _)); refine blk_far ?_ NB306_327.out _; (with_reducible repeat (first | refine blk_drewN ?_ _ | refine blk_drew ?_ | refine blk_alloc ?_ _)); refine blk_far ?_ NB306_327.out _; (with_reducible repeat (first | refine blk_drewN ?_ _ | refine blk_drew ?_ | refine blk_alloc ?_ _)); refine blk_far ?_ NB306_327.out _; (with_reducible repeat (first | refine blk_drewN ?_ _ | refine blk_drew ?_ | refine blk_alloc ?_ _)); refine blk_far ?_ NB306_327.out _; (with_reducible repeat (first | refine blk_drewN ?_ _ | refine blk_drew ?_ | refine blk_alloc ?_ _)); refine blk_far ?_ NB306_327.out _; (with_reducible repeat (first | refine blk_drewN ?_ _ | refine blk_drew ?_ | refine blk_alloc ?_ _)); exact BK306.out⟩, ⟨by (with_reducible repeat (first | refine blk_drewN ?_ _ | refine blk_drew ?_ | refine blk_alloc ?_ _)); refine blk_far ?_ NB313_327.out _; (with_reducible repeat (first | refine blk_drewN ?_ _ | refine blk_drew ?_ | refine blk_alloc ?_ _)); refine blk_far ?_ NB313_327.out _; (with_reducible repeat (first | refine blk_drewN ?_ _ | refine blk_drew ?_ | refine blk_alloc ?_ _)); refine blk_far ?_ NB313_327.out _; (with_reducible repeat (first | refine blk_drewN ?_ _ | refine blk_drew ?_ | refine blk_alloc ?_ _)); refine blk_far ?_ NB313_327.out _; (with_reducible repeat (first | refine blk_drewN ?_ _ | refine blk_drew ?_ | refine blk_alloc ?_ _)); refine blk_far ?_ NB313_327.out _; (with_reducible repeat (first | refine blk_drewN ?_ _ | refine blk_drew ?_ | refine blk_alloc ?_ _)); exact BK313.out⟩, ⟨by (with_reducible repeat (first | refine blk_drewN ?_ _ | refine blk_drew ?_ | refine blk_alloc ?_ _)); refine blk_far ?_ NB320_327.out _; (with_reducible repeat (first | refine blk_drewN ?_ _ | refine blk_drew ?_ | refine blk_alloc ?_ _)); refine blk_far ?_ NB320_327.out _; (with_reducible repeat (first | refine blk_drewN ?_ _ | refine blk_drew ?_ | refine blk_alloc ?_ _)); refine blk_far ?_ NB320_327.out _; (with_reducible repeat (first | refine blk_drewN ?_ _ | refine blk_drew ?_ | refine blk_alloc ?_ _)); refine blk_far ?_ NB320_327.out _; (with_reducible repeat (first | refine blk_drewN ?_ _ | refine blk_drew ?_ | refine blk_alloc ?_ _)); refine blk_far ?_ NB320_327.out _; (with_reducible repeat (first | refine blk_drewN ?_ _ | refine blk_drew ?_ | refine blk_alloc ?_ _)); exact BK320.out⟩, ⟨by (with_reducible repeat (first | refine blk_drewN ?_ _ | refine blk_drew ?_ | refine blk_alloc ?_ _)); refine blk_put (cs := #[.int .i64 t321, .int .i64 t322, .int .i64 t323, .string t324, .int .i64 0]) ?_ 4 _ rfl; (with_reducible repeat (first | refine blk_drewN ?_ _ | refine blk_drew ?_ | refine blk_alloc ?_ _)); refine blk_put (cs := #[.int .i64 t321, .int .i64 t322, .int .i64 t323, .string (⟨#[]⟩ : ByteArray), .int .i64 0]) ?_ 3 _ rfl; (with_reducible repeat (first | refine blk_drewN ?_ _ | refine blk_drew ?_ | refine blk_alloc ?_ _)); refine blk_put (cs := #[.int .i64 t321, .int .i64 t322, .int .i64 0, .string (⟨#[]⟩ : ByteArray), .int .i64 0]) ?_ 2 _ rfl; (with_reducible repeat (first | refine blk_drewN ?_ _ | refine blk_drew ?_ | refine blk_alloc ?_ _)); refine blk_put (cs := #[.int .i64 t321, .int .i64 0, .int .i64 0, .string (⟨#[]⟩ : ByteArray), .int .i64 0]) ?_ 1 _ rfl; (with_reducible repeat (first | refine blk_drewN ?_ _ | refine blk_drew ?_ | refine blk_alloc ?_ _)); refine blk_put (cs := #[.int .i64 0, .int .i64 0, .int .i64 0, .string (⟨#[]⟩ : ByteArray), .int .i64 0]) ?_ 0 _ rfl; (with_reducible repeat (first | refine blk_drewN ?_ _ | refine blk_drew ?_ | refine blk_alloc ?_ _)); exact BK327.out⟩, ⟨by repeat (first | (with_reducible first | exact HB.out | apply below_alloc | apply pw_below_drewN | apply below_drew1 | refine below_set ?_ GE306.out | refine below_set ?_ GE313.out | refine below_set ?_ GE320.out | refine below_set ?_ GE327.out) | exact HB.out)⟩⟩
 case rest =>
  clear HC9
  try clear c1
  try clear c2
  try clear p2
  try clear c3
  try clear c4
  try clear c5
  try clear c6
  try clear c9
  try clear c10
  try clear c11
  try clear c12
  try clear c18
  try clear c22
  try clear c23
  try clear c27
  try clear c28
  try clear c29
  try clear c31
  try clear c32
  try clear c32b0
  try clear c32b1
  try clear c32b2
  try clear c33
  try clear c33b0
  try clear c33b1
  try clear c33b2
  try clear c34
  try clear c34b0
  try clear c34b1
  try clear c34b2
  try clear c35
  try clear c36
  try clear c37
  try clear c39
  try clear c40
  try clear c42
  try clear c45
  try clear c46
  try clear c47
  try clear c49
  try clear c50
  try clear c52
  try clear c55
  try clear c56
  try clear c57
  try clear c59
  try clear c60
  try clear c62
  try clear c63
  try clear c64
  try clear c66
  try clear c67
  try clear hcz15_0
  try clear hcz15_1
  try clear hcz15_2
  try clear hcz15_3
  try clear hcz15_4
  try clear hcz19_0
  try clear hcz19_1
  try clear hcz19_2
  try clear hcz19_3
  try clear hcz19_4
  try clear hcz24_0
  try clear hcz24_1
  try clear hcz24_2
  try clear hcz24_3
  try clear hcz24_4
  try clear hcz30_0
  try clear hcz30_1
  try clear hcz30_2
  try clear hcz30_3
  try clear hcz30_4
  try clear hcz38_0
  try clear hcz38_1
  try clear hcz38_2
  try clear hcz38_3
  try clear hcz38_4
  try clear hcz41_0
  try clear hcz41_1
  try clear hcz41_2
  try clear hcz41_3
  try clear hcz41_4
  try clear hcz43_0
  try clear hcz43_1
  try clear hcz43_2
  try clear hcz43_3
  try clear hcz43_4
  try clear hcz44_0
  try clear hcz44_1
  try clear hcz44_2
  try clear hcz44_3
  try clear hcz44_4
  try clear hcz48_0
  try clear hcz48_1
  try clear hcz48_2
  try clear hcz48_3
  try clear hcz48_4
  try clear hcz51_0
  try clear hcz51_1
  try clear hcz51_2
  try clear hcz51_3
  try clear hcz51_4
  try clear hcz53_0
  try clear hcz53_1
  try clear hcz53_2
  try clear hcz53_3
  try clear hcz53_4
  try clear hcz54_0
  try clear hcz54_1
  try clear hcz54_2
  try clear hcz54_3
  try clear hcz54_4
  try clear hcz58_0
  try clear hcz58_1
  try clear hcz58_2
  try clear hcz58_3
  try clear hcz58_4
  try clear hcz61_0
  try clear hcz61_1
  try clear hcz61_2
  try clear hcz61_3
  try clear hcz61_4
  try clear hcz65_0
  try clear hcz65_1
  try clear hcz65_2
  try clear hcz65_3
  try clear hcz65_4
  try clear hcz68_0
  try clear hcz68_1
  try clear hcz68_2
  try clear hcz68_3
  try clear hcz68_4
  try clear hfz15_0
  try clear hfz15_1
  try clear hfz15_2
  try clear hfz15_3
  try clear hfz15_4
  try clear hfz19_0
  try clear hfz19_1
  try clear hfz19_2
  try clear hfz19_3
  try clear hfz19_4
  try clear hfz24_0
  try clear hfz24_1
  try clear hfz24_2
  try clear hfz24_3
  try clear hfz24_4
  try clear hfz30_0
  try clear hfz30_1
  try clear hfz30_2
  try clear hfz30_3
  try clear hfz30_4
  try clear hfz38_0
  try clear hfz38_1
  try clear hfz38_2
  try clear hfz38_3
  try clear hfz38_4
  try clear hfz41_0
  try clear hfz41_1
  try clear hfz41_2
  try clear hfz41_3
  try clear hfz41_4
  try clear hfz43_0
  try clear hfz43_1
  try clear hfz43_2
  try clear hfz43_3
  try clear hfz43_4
  try clear hfz44_0
  try clear hfz44_1
  try clear hfz44_2
  try clear hfz44_3
  try clear hfz44_4
  try clear hfz48_0
  try clear hfz48_1
  try clear hfz48_2
  try clear hfz48_3
  try clear hfz48_4
  try clear hfz51_0
  try clear hfz51_1
  try clear hfz51_2
  try clear hfz51_3
  try clear hfz51_4
  try clear hfz53_0
  try clear hfz53_1
  try clear hfz53_2
  try clear hfz53_3
  try clear hfz53_4
  try clear hfz54_0
  try clear hfz54_1
  try clear hfz54_2
  try clear hfz54_3
  try clear hfz54_4
  try clear hfz58_0
  try clear hfz58_1
  try clear hfz58_2
  try clear hfz58_3
  try clear hfz58_4
  try clear hfz61_0
  try clear hfz61_1
  try clear hfz61_2
  try clear hfz61_3
  try clear hfz61_4
  try clear hfz65_0
  try clear hfz65_1
  try clear hfz65_2
  try clear hfz65_3
  try clear hfz65_4
  try clear hfz68_0
  try clear hfz68_1
  try clear hfz68_2
  try clear hfz68_3
  try clear hfz68_4
  obtain ⟨kq, x4_8, rfl, HA, HJ8, BK306, BK313, BK320, BK327, HB⟩ := hcut
  cases kq with
  | zero => exact absurd HA.out (by simp [tmesislaw06_TokenAll.j0])
  | succ kj8 =>
   have H := HA.out
   clear HA
   simp only [tmesislaw06_TokenAll.j0] at H
   obtain rfl := Option.some.inj H
   go_wp2
   go_ret
   exact ⟨by first | rfl | (simp [errW_none, errW_some] <;> rfl) | (simp [*, errW_none, errW_some] <;> rfl), by repeat (first | (with_reducible first | exact HB.out | apply below_alloc | apply pw_below_drewN | apply below_drew1 | refine below_set ?_ GE306.out | refine below_set ?_ GE313.out | refine below_set ?_ GE320.out | refine below_set ?_ GE327.out) | exact HB.out)⟩
/-- THE ONE PURE STATEMENT of tmesislaw06_TokenAll: yours. -/
def tmesislaw06_TokenAll.Pure : Prop := ∀ (l0 : List Int) (a1 : Int), l0.length ≤ maxLen → l0.length * 1 ≤ 140737488351232 → (∀ x ∈ l0, (Lit.int .u8 x).wf = true) → (Lit.int .i64 a1).wf = true → ∃ k, tmesislaw06_TokenAll.f k l0 a1 = some true
theorem tmesislaw06_TokenAll.walk (P : tmesislaw06_TokenAll.Pure) (a0 : Option Addr) (len0 cap0 : Nat) (z0 : List Int) (a1 : Int) (w : World) (hG : Gl w) (w0 : (a0 = none ∧ len0 = 0 ∧ cap0 = 0 ∧ z0 = []) ∨ ∃ x, a0 = some x ∧ len0 ≤ cap0 ∧ cap0 ≤ maxLen ∧ z0.length = cap0 ∧ (∀ i, i < z0.length → w.cell? (x.add i) = some (.int .u8 (z0.getD i 0))) ∧ ∀ n ∈ z0, (Lit.int .u8 n).wf = true) (y0 : len0 * 1 ≤ 140737488351232) (w1 : (Lit.int .i64 a1).wf = true) :
  Calls Tryd.prog 3 #[.slice a0 len0 cap0, .int .i64 a1] w fun e w' => e = .returned (.bool true) ∧ Below w.heap.size w w' := by
 obtain ⟨l0, rfl, hr0, hm0, hw0, hc0⟩ := ReadsInt.ofRowC w0
 obtain ⟨k, h⟩ := P l0 a1 hm0 y0 hw0 w1
 refine (tmesislaw06_TokenAll.calls k _ _ l0 a1 true w hG (Kd.C_of_reads (d := (0 : Int)) (h1 := fun _ => rfl) hr0) hc0 h).mono ?_
 rintro e w' ⟨rfl, hd⟩
 exact ⟨rfl, hd⟩
end Go.Proofs.YtflekegjmjjdmaaDoor.P
