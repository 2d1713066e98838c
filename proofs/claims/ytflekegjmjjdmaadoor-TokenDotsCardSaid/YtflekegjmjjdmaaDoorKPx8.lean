/- Part of the proof: what the theorem needs of this text. -/
import Derived.Test.YtflekegjmjjdmaaDoorKHG
import Derived.Test.YtflekegjmjjdmaaDoorKHTX
import Derived.Test.YtflekegjmjjdmaaDoorKPx0
import Derived.Test.YtflekegjmjjdmaaDoorKPx1
namespace Go.Proofs.YtflekegjmjjdmaaDoor.P
open Go.RowKit Go.Proofs.YtflekegjmjjdmaaDoorW.PrintWords Go.Proofs.YtflekegjmjjdmaaDoorW.PrintLast Go.Proofs.YtflekegjmjjdmaaDoorW.PrintMore
attribute [local go_sem] max2_int min2_int max_two min_two max_three min_three max_four min_four   -- for this text's walks alone
set_option linter.unusedVariables false
set_option linter.unusedSimpArgs false
attribute [local go_sem high] eqA27
def tmesislaw06_shown.j0 : Nat → Bool → Option (Bool)
 | 0, _ => none
 | k + 1, x0 => some x0
def tmesislaw06_shown.f (k : Nat)  : Option (Bool) := (some (([97, 46, 98, 46, 32, 88] : List Int) : List Int)).bind fun y164 => ((token_Next.f k y164 1).bind fun bt167 => ((token_Next.f k y164 3).bind fun bt174 => ((token_Next.f k y164 4).bind fun bt181 => ((token_Next.f k y164 6).bind fun bt188 => (if bt167.1 = 2 then (if bt167.2.2.2.2.2 = true then (if (bt174.1 == 7 && (bt174.2.1 == 3 && (bt174.2.2.1 == 4 && (bt174.2.2.2.1.toList == ([46] : List UInt8) && (bt174.2.2.2.2.1 == 0))))) = true then (if bt174.2.2.2.2.2 = true then (if (bt181.1 == 3 && (bt181.2.1 == 5 && (bt181.2.2.1 == 6 && (bt181.2.2.2.1.toList == ([88] : List UInt8) && (bt181.2.2.2.2.1 == 0))))) = true then (if bt181.2.2.2.2.2 = true then (tmesislaw06_shown.j0 k (!bt188.2.2.2.2.2)) else (tmesislaw06_shown.j0 k false)) else (tmesislaw06_shown.j0 k false)) else (tmesislaw06_shown.j0 k false)) else (tmesislaw06_shown.j0 k false)) else (tmesislaw06_shown.j0 k false)) else (tmesislaw06_shown.j0 k false))))))
theorem tmesislaw06_shown.mono_l : ∀ k, (∀ y0, LeO (tmesislaw06_shown.j0 k y0) (tmesislaw06_shown.j0 (k + 1) y0))
 | 0 => fun _ r h => by simp [tmesislaw06_shown.j0] at h
 | k + 1 => by
  have ih0 := tmesislaw06_shown.mono_l k
  ·intro y0
   unfold tmesislaw06_shown.j0
   repeat' first
   | (with_reducible exact ih0 _)
   | (with_reducible exact token_Next.mono _ _ _)
   | (with_reducible exact LeO.refl _)
   | (with_reducible exact LeO.none _)
   | (with_reducible refine LeO.ite ?_ ?_)
   | (with_reducible refine LeO.bind ?_ (fun _ => ?_))
   | exact ih0 _
   | exact token_Next.mono _ _ _
   | exact LeO.none _
   | refine LeO.ite ?_ ?_
   | refine LeO.bind ?_ (fun _ => ?_)
theorem tmesislaw06_shown.mono : ∀ k, LeO (tmesislaw06_shown.f k ) (tmesislaw06_shown.f (k + 1) ) := by
 intro  k
 have ih0 := tmesislaw06_shown.mono_l k
 unfold tmesislaw06_shown.f
 repeat' first
   | (with_reducible exact ih0 _)
   | (with_reducible exact token_Next.mono _ _ _)
   | (with_reducible exact LeO.refl _)
   | (with_reducible exact LeO.none _)
   | (with_reducible refine LeO.ite ?_ ?_)
   | (with_reducible refine LeO.bind ?_ (fun _ => ?_))
   | exact ih0 _
   | exact token_Next.mono _ _ _
   | exact LeO.none _
   | refine LeO.ite ?_ ?_
   | refine LeO.bind ?_ (fun _ => ?_)
set_option maxHeartbeats 8000000 in
set_option maxRecDepth 100000 in
theorem tmesislaw06_shown.calls (k : Nat)  (r : Bool) (w : World) (hG : Gl w) (h : tmesislaw06_shown.f k  = some r) :
  Calls Tryd.prog 9 #[] w fun e w' => e = .returned (.bool r) ∧ Below w.heap.size w w' := by
 have hu27 := Tryd.underlying27
 have HB := Aside0.mk (Below.refl w.heap.size w)
 have HG := Aside0.mk hG
 clear hG
 have H : ((some (([97, 46, 98, 46, 32, 88] : List Int) : List Int)).bind fun y164 => ((token_Next.f k y164 1).bind fun bt167 => ((token_Next.f k y164 3).bind fun bt174 => ((token_Next.f k y164 4).bind fun bt181 => ((token_Next.f k y164 6).bind fun bt188 => (if bt167.1 = 2 then (if bt167.2.2.2.2.2 = true then (if (bt174.1 == 7 && (bt174.2.1 == 3 && (bt174.2.2.1 == 4 && (bt174.2.2.2.1.toList == ([46] : List UInt8) && (bt174.2.2.2.2.1 == 0))))) = true then (if bt174.2.2.2.2.2 = true then (if (bt181.1 == 3 && (bt181.2.1 == 5 && (bt181.2.2.1 == 6 && (bt181.2.2.2.1.toList == ([88] : List UInt8) && (bt181.2.2.2.2.1 == 0))))) = true then (if bt181.2.2.2.2.2 = true then (tmesislaw06_shown.j0 k (!bt188.2.2.2.2.2)) else (tmesislaw06_shown.j0 k false)) else (tmesislaw06_shown.j0 k false)) else (tmesislaw06_shown.j0 k false)) else (tmesislaw06_shown.j0 k false)) else (tmesislaw06_shown.j0 k false)) else (tmesislaw06_shown.j0 k false))))))) = some r := h
 clear h
 obtain ⟨y164, hy164⟩ : ∃ y_ : List Int, y_ = (([97, 46, 98, 46, 32, 88] : List Int)) := ⟨_, rfl⟩
 replace H : ((token_Next.f k y164 1).bind fun bt167 => ((token_Next.f k y164 3).bind fun bt174 => ((token_Next.f k y164 4).bind fun bt181 => ((token_Next.f k y164 6).bind fun bt188 => (if bt167.1 = 2 then (if bt167.2.2.2.2.2 = true then (if (bt174.1 == 7 && (bt174.2.1 == 3 && (bt174.2.2.1 == 4 && (bt174.2.2.2.1.toList == ([46] : List UInt8) && (bt174.2.2.2.2.1 == 0))))) = true then (if bt174.2.2.2.2.2 = true then (if (bt181.1 == 3 && (bt181.2.1 == 5 && (bt181.2.2.1 == 6 && (bt181.2.2.2.1.toList == ([88] : List UInt8) && (bt181.2.2.2.2.1 == 0))))) = true then (if bt181.2.2.2.2.2 = true then (tmesislaw06_shown.j0 k (!bt188.2.2.2.2.2)) else (tmesislaw06_shown.j0 k false)) else (tmesislaw06_shown.j0 k false)) else (tmesislaw06_shown.j0 k false)) else (tmesislaw06_shown.j0 k false)) else (tmesislaw06_shown.j0 k false)) else (tmesislaw06_shown.j0 k false)))))) = some r := by first | (rw [hy164]; with_reducible exact H) | (have H2_ := (Option.bind_some _ _).symm.trans H; rw [hy164]; with_reducible exact H2_) | (have H2_ := (Option.bind_some _ _).symm.trans H; with_reducible exact H2_) | with_reducible exact H | (rw [hy164]; exact H) | exact H
 have Ny164 := Aside0.mk hy164
 clear hy164
 replace H := Option.bind_eq_some_iff.mp H
 obtain ⟨⟨t167, t168, t169, t170, t171, t172⟩, A10, H⟩ := H
 replace H : ((token_Next.f k y164 3).bind fun bt174 => ((token_Next.f k y164 4).bind fun bt181 => ((token_Next.f k y164 6).bind fun bt188 => (if t167 = 2 then (if t172 = true then (if (bt174.1 == 7 && (bt174.2.1 == 3 && (bt174.2.2.1 == 4 && (bt174.2.2.2.1.toList == ([46] : List UInt8) && (bt174.2.2.2.2.1 == 0))))) = true then (if bt174.2.2.2.2.2 = true then (if (bt181.1 == 3 && (bt181.2.1 == 5 && (bt181.2.2.1 == 6 && (bt181.2.2.2.1.toList == ([88] : List UInt8) && (bt181.2.2.2.2.1 == 0))))) = true then (if bt181.2.2.2.2.2 = true then (tmesislaw06_shown.j0 k (!bt188.2.2.2.2.2)) else (tmesislaw06_shown.j0 k false)) else (tmesislaw06_shown.j0 k false)) else (tmesislaw06_shown.j0 k false)) else (tmesislaw06_shown.j0 k false)) else (tmesislaw06_shown.j0 k false)) else (tmesislaw06_shown.j0 k false))))) = some r := H
 have A1 := Aside0.mk A10
 clear A10
 replace H := Option.bind_eq_some_iff.mp H
 obtain ⟨⟨t174, t175, t176, t177, t178, t179⟩, A20, H⟩ := H
 replace H : ((token_Next.f k y164 4).bind fun bt181 => ((token_Next.f k y164 6).bind fun bt188 => (if t167 = 2 then (if t172 = true then (if (t174 == 7 && (t175 == 3 && (t176 == 4 && (t177.toList == ([46] : List UInt8) && (t178 == 0))))) = true then (if t179 = true then (if (bt181.1 == 3 && (bt181.2.1 == 5 && (bt181.2.2.1 == 6 && (bt181.2.2.2.1.toList == ([88] : List UInt8) && (bt181.2.2.2.2.1 == 0))))) = true then (if bt181.2.2.2.2.2 = true then (tmesislaw06_shown.j0 k (!bt188.2.2.2.2.2)) else (tmesislaw06_shown.j0 k false)) else (tmesislaw06_shown.j0 k false)) else (tmesislaw06_shown.j0 k false)) else (tmesislaw06_shown.j0 k false)) else (tmesislaw06_shown.j0 k false)) else (tmesislaw06_shown.j0 k false)))) = some r := H
 have A2 := Aside0.mk A20
 clear A20
 replace H := Option.bind_eq_some_iff.mp H
 obtain ⟨⟨t181, t182, t183, t184, t185, t186⟩, A30, H⟩ := H
 replace H : ((token_Next.f k y164 6).bind fun bt188 => (if t167 = 2 then (if t172 = true then (if (t174 == 7 && (t175 == 3 && (t176 == 4 && (t177.toList == ([46] : List UInt8) && (t178 == 0))))) = true then (if t179 = true then (if (t181 == 3 && (t182 == 5 && (t183 == 6 && (t184.toList == ([88] : List UInt8) && (t185 == 0))))) = true then (if t186 = true then (tmesislaw06_shown.j0 k (!bt188.2.2.2.2.2)) else (tmesislaw06_shown.j0 k false)) else (tmesislaw06_shown.j0 k false)) else (tmesislaw06_shown.j0 k false)) else (tmesislaw06_shown.j0 k false)) else (tmesislaw06_shown.j0 k false)) else (tmesislaw06_shown.j0 k false))) = some r := H
 have A3 := Aside0.mk A30
 clear A30
 replace H := Option.bind_eq_some_iff.mp H
 obtain ⟨⟨t188, t189, t190, t191, t192, t193⟩, A40, H⟩ := H
 replace H : (if t167 = 2 then (if t172 = true then (if (t174 == 7 && (t175 == 3 && (t176 == 4 && (t177.toList == ([46] : List UInt8) && (t178 == 0))))) = true then (if t179 = true then (if (t181 == 3 && (t182 == 5 && (t183 == 6 && (t184.toList == ([88] : List UInt8) && (t185 == 0))))) = true then (if t186 = true then (tmesislaw06_shown.j0 k (!t193)) else (tmesislaw06_shown.j0 k false)) else (tmesislaw06_shown.j0 k false)) else (tmesislaw06_shown.j0 k false)) else (tmesislaw06_shown.j0 k false)) else (tmesislaw06_shown.j0 k false)) else (tmesislaw06_shown.j0 k false)) = some r := H
 have A4 := Aside0.mk A40
 clear A40
 have HC5 := Aside0.mk H
 clear H
 go_enter Tryd.func9, Tryd.ntmps9
 go_upto_region 6 with (first | ((with_reducible refine gate_dst (N := 10) rfl ?_); refine V_litsG _ 5 ?hg (N := 10) ?hd (xs := ([97, 46, 98, 46, 32, 88] : List Int)) ?hr ?hw2 ?hr2 (Below.refl _ _) (Nat.le_refl _) (by simp) ?_; (case hd => rfl); (case hg => rfl); (case hr => intro W_; first | (go_simp; done) | (go_simp; rfl)); (case hw2 => rfl); (case hr2 => intro W_; go_simp; rw [run_convert_lit _ 22 5 _ _ _ Tryd.underlying22 Tryd.underlying5]; rfl); intro v165 w6 ho7 hb hg_ hnew_; clear hg_ hnew_; (first | rw [← Ny164.out] at ho7 | (simp only [Int.reduceToNat] at ho7; rw [← Ny164.out] at ho7)); have n0_ := Aside0.mk (Kd.V_lower (Kd.V_mono (ok' := fun k_ => True) ho7 (fun k_ hk_ => trivial)) (below_size (by repeat (first | (with_reducible first | exact HB.out | apply below_alloc | apply pw_below_drewN | apply below_drew1) | exact HB.out)))); have n1_ := Aside0.mk (below_step (by repeat (first | (with_reducible first | exact HB.out | apply below_alloc | apply pw_below_drewN | apply below_drew1) | exact HB.out)) hb); clear HB; have HO166 := n0_; have HB := n1_; clear n0_ n1_; clear hb ho7; obtain ⟨Ao8, co8, eo8⟩ := Kd.V_slice HO166.out; subst eo8) | ((with_reducible refine gate_callee (f := 11) rfl ?_); refine goesL_ (some 14) rfl rfl Tryd.func11 (by kernel_rfl) rfl #[.slice Ao8 y164.length co8, .int .i64 1] rfl (by (try simp only [List.map_toArray, List.map_cons, List.map_nil]); first | done | rfl | (simp only [List.length_drop, List.length_take]; rfl)) ?_; (with_reducible refine (token_Next.calls k _ _ y164 1 t167 t168 t169 t170 t171 t172 _ ?side1 ?side2 ?side3 A1.out).mono ?_); (case side1 => exact Gl.below HG.out (by repeat (first | (with_reducible first | exact HB.out | apply below_alloc | apply pw_below_drewN | apply below_drew1) | exact HB.out))); (case side2 => repeat (first | exact (Kd.V_reads' HO166.out).2.2 | (with_reducible refine Kd.C_alloc ?_ _) | (with_reducible refine Kd.C_drewN ?_ _) | (with_reducible refine Kd.C_drew ?_))); (case side3 => exact (Kd.V_reads' HO166.out).2.1); rintro e w9 ⟨rfl, hb⟩; refine ⟨_, rfl, ?_⟩; have n0_ := Aside0.mk (Kd.V_below (by (with_reducible repeat (first | apply Kd.V_alloc | apply Kd.V_drewN | apply Kd.V_drew)); exact HO166.out) hb); have n1_ := Aside0.mk (below_step (by repeat (first | (with_reducible first | exact HB.out | apply below_alloc | apply pw_below_drewN | apply below_drew1) | exact HB.out)) hb); clear HO166; clear HB; have HO166 := n0_; have HB := n1_; clear n0_ n1_; (try clear hb); (try clear hb2); (try clear hk); (try clear hi)) | ((with_reducible refine gate_dst (N := 2) rfl ?_); refine box_event ?hg (N := 2) ?hd (cs := #[.int .i64 0, .int .i64 0, .int .i64 0, .string (⟨#[]⟩ : ByteArray), .int .i64 0]) (t := 27) ?hr ?_; (case hd => rfl); (case hg => rfl); (case hr => first | (go_simp; done) | (go_simp; rfl)); intro gb173 hg w10 hbox hb; have n0_ := Aside0.mk (Kd.V_below (Kd.V_elderB (by (with_reducible repeat (first | apply Kd.V_alloc | apply Kd.V_drewN | apply Kd.V_drew)); exact HO166.out) gb173 (Nat.le_of_eq hg.symm)) hb); have n1_ := Aside0.mk (below_step (by repeat (first | (with_reducible first | exact HB.out | apply below_alloc | apply pw_below_drewN | apply below_drew1) | exact HB.out)) hb); have n2_ := Aside0.mk (hbox); have n3_ := Aside0.mk ((by rw [hg]; exact (below_size (by repeat (first | (with_reducible first | exact HB.out | apply below_alloc | apply pw_below_drewN | apply below_drew1) | exact HB.out))) : w.heap.size ≤ gb173)); have n4_ := Aside0.mk ((by rw [hg]; exact (below_size (by repeat (first | (with_reducible first | exact HB.out | apply below_alloc | apply pw_below_drewN | apply below_drew1) | exact HB.out))) : w.heap.size ≤ gb173)); clear HO166; clear HB; have HO166 := n0_; have HB := n1_; have BK173 := n2_; have GW173 := n3_; have GE173 := n4_; clear n0_ n1_ n2_ n3_ n4_; clear hb hbox hg; have hcz11_0 : w10.cell? ⟨gb173, 0, none⟩ = some (.int .i64 0) := (blk_cell BK173.out 0).trans rfl; have hcz11_1 : w10.cell? ⟨gb173, 1, none⟩ = some (.int .i64 0) := (blk_cell BK173.out 1).trans rfl; have hcz11_2 : w10.cell? ⟨gb173, 2, none⟩ = some (.int .i64 0) := (blk_cell BK173.out 2).trans rfl; have hcz11_3 : w10.cell? ⟨gb173, 3, none⟩ = some (.string (⟨#[]⟩ : ByteArray)) := (blk_cell BK173.out 3).trans rfl; have hcz11_4 : w10.cell? ⟨gb173, 4, none⟩ = some (.int .i64 0) := (blk_cell BK173.out 4).trans rfl; have hfz11_0 := blk_frozen BK173.out 0; have hfz11_1 := blk_frozen BK173.out 1; have hfz11_2 := blk_frozen BK173.out 2; have hfz11_3 := blk_frozen BK173.out 3; have hfz11_4 := blk_frozen BK173.out 4) | ((with_reducible refine gate_callee (f := 11) rfl ?_); refine goesL_ (some 19) rfl rfl Tryd.func11 (by kernel_rfl) rfl #[.slice Ao8 y164.length co8, .int .i64 3] rfl (by (try simp only [List.map_toArray, List.map_cons, List.map_nil]); first | done | rfl | (simp only [List.length_drop, List.length_take]; rfl)) ?_; (with_reducible refine (token_Next.calls k _ _ y164 3 t174 t175 t176 t177 t178 t179 _ ?side1 ?side2 ?side3 A2.out).mono ?_); (case side1 => exact Gl.below HG.out (by repeat (first | (with_reducible first | exact HB.out | apply below_alloc | apply pw_below_drewN | apply below_drew1 | refine below_set ?_ GE173.out) | exact HB.out))); (case side2 => refine (Kd.V_reads' (e := 5) (base := w.heap.size) (ok := fun k_ => (True ∧ k_ ≠ gb173)) (n := y164.length) (c := co8) ?_).2.2; exact (by (with_reducible repeat (first | apply Kd.V_alloc | apply Kd.V_drewN | apply Kd.V_drew)); exact (Kd.V_mono (Kd.V_far (p := ⟨gb173, 4, none⟩) (Kd.V_far (p := ⟨gb173, 3, none⟩) (Kd.V_far (p := ⟨gb173, 2, none⟩) (Kd.V_far (p := ⟨gb173, 1, none⟩) (Kd.V_far (p := ⟨gb173, 0, none⟩) (Kd.V_mono HO166.out (fun k_ hk => (⟨hk, hk.2⟩ : _ ∧ k_ ≠ gb173))) (fun _ hk => hk.2) (.int .i64 t167)) (fun _ hk => hk.2) (.int .i64 t168)) (fun _ hk => hk.2) (.int .i64 t169)) (fun _ hk => hk.2) (.string t170)) (fun _ hk => hk.2) (.int .i64 t171)) (fun _ h_ => h_.1)))); (case side3 => exact (Kd.V_reads' HO166.out).2.1); rintro e w12 ⟨rfl, hb⟩; refine ⟨_, rfl, ?_⟩; have n0_ := Aside0.mk (Kd.V_below (by (with_reducible repeat (first | apply Kd.V_alloc | apply Kd.V_drewN | apply Kd.V_drew)); exact (Kd.V_mono (Kd.V_far (p := ⟨gb173, 4, none⟩) (Kd.V_far (p := ⟨gb173, 3, none⟩) (Kd.V_far (p := ⟨gb173, 2, none⟩) (Kd.V_far (p := ⟨gb173, 1, none⟩) (Kd.V_far (p := ⟨gb173, 0, none⟩) (Kd.V_mono HO166.out (fun k_ hk => (⟨hk, hk.2⟩ : _ ∧ k_ ≠ gb173))) (fun _ hk => hk.2) (.int .i64 t167)) (fun _ hk => hk.2) (.int .i64 t168)) (fun _ hk => hk.2) (.int .i64 t169)) (fun _ hk => hk.2) (.string t170)) (fun _ hk => hk.2) (.int .i64 t171)) (fun _ h_ => h_.1))) hb); have n1_ := Aside0.mk (blk_below (g := gb173) (o := .cells #[.int .i64 t167, .int .i64 t168, .int .i64 t169, .string t170, .int .i64 t171] 27 (0, 0)) (by (with_reducible repeat (first | refine blk_drewN ?_ _ | refine blk_drew ?_ | refine blk_alloc ?_ _)); refine blk_put (cs := #[.int .i64 t167, .int .i64 t168, .int .i64 t169, .string t170, .int .i64 0]) ?_ 4 _ rfl; (with_reducible repeat (first | refine blk_drewN ?_ _ | refine blk_drew ?_ | refine blk_alloc ?_ _)); refine blk_put (cs := #[.int .i64 t167, .int .i64 t168, .int .i64 t169, .string (⟨#[]⟩ : ByteArray), .int .i64 0]) ?_ 3 _ rfl; (with_reducible repeat (first | refine blk_drewN ?_ _ | refine blk_drew ?_ | refine blk_alloc ?_ _)); refine blk_put (cs := #[.int .i64 t167, .int .i64 t168, .int .i64 0, .string (⟨#[]⟩ : ByteArray), .int .i64 0]) ?_ 2 _ rfl; (with_reducible repeat (first | refine blk_drewN ?_ _ | refine blk_drew ?_ | refine blk_alloc ?_ _)); refine blk_put (cs := #[.int .i64 t167, .int .i64 0, .int .i64 0, .string (⟨#[]⟩ : ByteArray), .int .i64 0]) ?_ 1 _ rfl; (with_reducible repeat (first | refine blk_drewN ?_ _ | refine blk_drew ?_ | refine blk_alloc ?_ _)); refine blk_put (cs := #[.int .i64 0, .int .i64 0, .int .i64 0, .string (⟨#[]⟩ : ByteArray), .int .i64 0]) ?_ 0 _ rfl; (with_reducible repeat (first | refine blk_drewN ?_ _ | refine blk_drew ?_ | refine blk_alloc ?_ _)); exact BK173.out) hb); have n2_ := Aside0.mk (below_step (by repeat (first | (with_reducible first | exact HB.out | apply below_alloc | apply pw_below_drewN | apply below_drew1 | refine below_set ?_ GE173.out) | exact HB.out)) hb); clear HO166; clear BK173; clear HB; have HO166 := n0_; have BK173 := n1_; have HB := n2_; clear n0_ n1_ n2_; (try clear hb); (try clear hb2); (try clear hk); (try clear hi)) | ((with_reducible refine gate_dst (N := 4) rfl ?_); refine box_event ?hg (N := 4) ?hd (cs := #[.int .i64 0, .int .i64 0, .int .i64 0, .string (⟨#[]⟩ : ByteArray), .int .i64 0]) (t := 27) ?hr ?_; (case hd => rfl); (case hg => rfl); (case hr => first | (go_simp; done) | (go_simp; rfl)); intro gb180 hg w13 hbox hb; have n0_ := Aside0.mk (Kd.V_below (Kd.V_elderB (by (with_reducible repeat (first | apply Kd.V_alloc | apply Kd.V_drewN | apply Kd.V_drew)); exact HO166.out) gb180 (Nat.le_of_eq hg.symm)) hb); have n1_ := Aside0.mk (blk_below (g := gb173) (o := .cells #[.int .i64 t167, .int .i64 t168, .int .i64 t169, .string t170, .int .i64 t171] 27 (0, 0)) (by (with_reducible repeat (first | refine blk_drewN ?_ _ | refine blk_drew ?_ | refine blk_alloc ?_ _)); exact BK173.out) hb); have n2_ := Aside0.mk (below_step (by repeat (first | (with_reducible first | exact HB.out | apply below_alloc | apply pw_below_drewN | apply below_drew1 | refine below_set ?_ GE173.out) | exact HB.out)) hb); have n3_ := Aside0.mk (hbox); have n4_ := Aside0.mk ((by rw [hg]; exact (below_size (by repeat (first | (with_reducible first | exact HB.out | apply below_alloc | apply pw_below_drewN | apply below_drew1 | refine below_set ?_ GE173.out) | exact HB.out))) : w.heap.size ≤ gb180)); have n5_ := Aside0.mk ((by rw [hg]; exact (below_size (by repeat (first | (with_reducible first | exact HB.out | apply below_alloc | apply pw_below_drewN | apply below_drew1 | refine below_set ?_ GE173.out) | exact HB.out))) : w.heap.size ≤ gb180)); have n6_ := Aside0.mk ((by rw [hg]; exact Nat.ne_of_lt (blk_lt (g := gb173) (o := .cells #[.int .i64 t167, .int .i64 t168, .int .i64 t169, .string t170, .int .i64 t171] 27 (0, 0)) (by (with_reducible repeat (first | refine blk_drewN ?_ _ | refine blk_drew ?_ | refine blk_alloc ?_ _)); exact BK173.out)) : gb173 ≠ gb180)); have n7_ := Aside0.mk ((by rw [hg]; exact Nat.ne_of_gt (blk_lt (g := gb173) (o := .cells #[.int .i64 t167, .int .i64 t168, .int .i64 t169, .string t170, .int .i64 t171] 27 (0, 0)) (by (with_reducible repeat (first | refine blk_drewN ?_ _ | refine blk_drew ?_ | refine blk_alloc ?_ _)); exact BK173.out)) : gb180 ≠ gb173)); clear HO166; clear BK173; clear HB; have HO166 := n0_; have BK173 := n1_; have HB := n2_; have BK180 := n3_; have GW180 := n4_; have GE180 := n5_; have NB173_180 := n6_; have NB180_173 := n7_; clear n0_ n1_ n2_ n3_ n4_ n5_ n6_ n7_; clear hb hbox hg; have hnb14 := NB180_173.out; have hnc14 := NB173_180.out; have hcz15_0 : w13.cell? ⟨gb180, 0, none⟩ = some (.int .i64 0) := (blk_cell BK180.out 0).trans rfl; have hcz15_1 : w13.cell? ⟨gb180, 1, none⟩ = some (.int .i64 0) := (blk_cell BK180.out 1).trans rfl; have hcz15_2 : w13.cell? ⟨gb180, 2, none⟩ = some (.int .i64 0) := (blk_cell BK180.out 2).trans rfl; have hcz15_3 : w13.cell? ⟨gb180, 3, none⟩ = some (.string (⟨#[]⟩ : ByteArray)) := (blk_cell BK180.out 3).trans rfl; have hcz15_4 : w13.cell? ⟨gb180, 4, none⟩ = some (.int .i64 0) := (blk_cell BK180.out 4).trans rfl; have hfz15_0 := blk_frozen BK180.out 0; have hfz15_1 := blk_frozen BK180.out 1; have hfz15_2 := blk_frozen BK180.out 2; have hfz15_3 := blk_frozen BK180.out 3; have hfz15_4 := blk_frozen BK180.out 4) | ((with_reducible refine gate_callee (f := 11) rfl ?_); refine goesL_ (some 24) rfl rfl Tryd.func11 (by kernel_rfl) rfl #[.slice Ao8 y164.length co8, .int .i64 4] rfl (by (try simp only [List.map_toArray, List.map_cons, List.map_nil]); first | done | rfl | (simp only [List.length_drop, List.length_take]; rfl)) ?_; (with_reducible refine (token_Next.calls k _ _ y164 4 t181 t182 t183 t184 t185 t186 _ ?side1 ?side2 ?side3 A3.out).mono ?_); (case side1 => exact Gl.below HG.out (by repeat (first | (with_reducible first | exact HB.out | apply below_alloc | apply pw_below_drewN | apply below_drew1 | refine below_set ?_ GE173.out | refine below_set ?_ GE180.out) | exact HB.out))); (case side2 => refine (Kd.V_reads' (e := 5) (base := w.heap.size) (ok := fun k_ => ((True ∧ k_ ≠ gb173) ∧ k_ ≠ gb180)) (n := y164.length) (c := co8) ?_).2.2; exact (by (with_reducible repeat (first | apply Kd.V_alloc | apply Kd.V_drewN | apply Kd.V_drew)); exact (Kd.V_mono (Kd.V_far (p := ⟨gb180, 4, none⟩) (Kd.V_far (p := ⟨gb180, 3, none⟩) (Kd.V_far (p := ⟨gb180, 2, none⟩) (Kd.V_far (p := ⟨gb180, 1, none⟩) (Kd.V_far (p := ⟨gb180, 0, none⟩) (Kd.V_mono HO166.out (fun k_ hk => (⟨hk, hk.2⟩ : _ ∧ k_ ≠ gb180))) (fun _ hk => hk.2) (.int .i64 t174)) (fun _ hk => hk.2) (.int .i64 t175)) (fun _ hk => hk.2) (.int .i64 t176)) (fun _ hk => hk.2) (.string t177)) (fun _ hk => hk.2) (.int .i64 t178)) (fun _ h_ => h_.1)))); (case side3 => exact (Kd.V_reads' HO166.out).2.1); rintro e w16 ⟨rfl, hb⟩; refine ⟨_, rfl, ?_⟩; have n0_ := Aside0.mk (Kd.V_below (by (with_reducible repeat (first | apply Kd.V_alloc | apply Kd.V_drewN | apply Kd.V_drew)); exact (Kd.V_mono (Kd.V_far (p := ⟨gb180, 4, none⟩) (Kd.V_far (p := ⟨gb180, 3, none⟩) (Kd.V_far (p := ⟨gb180, 2, none⟩) (Kd.V_far (p := ⟨gb180, 1, none⟩) (Kd.V_far (p := ⟨gb180, 0, none⟩) (Kd.V_mono HO166.out (fun k_ hk => (⟨hk, hk.2⟩ : _ ∧ k_ ≠ gb180))) (fun _ hk => hk.2) (.int .i64 t174)) (fun _ hk => hk.2) (.int .i64 t175)) (fun _ hk => hk.2) (.int .i64 t176)) (fun _ hk => hk.2) (.string t177)) (fun _ hk => hk.2) (.int .i64 t178)) (fun _ h_ => h_.1))) hb); have n1_ := Aside0.mk (blk_below (g := gb173) (o := .cells #[.int .i64 t167, .int .i64 t168, .int .i64 t169, .string t170, .int .i64 t171] 27 (0, 0)) (by (with_reducible repeat (first | refine blk_drewN ?_ _ | refine blk_drew ?_ | refine blk_alloc ?_ _)); refine blk_far ?_ NB173_180.out _; (with_reducible repeat (first | refine blk_drewN ?_ _ | refine blk_drew ?_ | refine blk_alloc ?_ _)); refine blk_far ?_ NB173_180.out _; (with_reducible repeat (first | refine blk_drewN ?_ _ | refine blk_drew ?_ | refine blk_alloc ?_ _)); refine blk_far ?_ NB173_180.out _; (with_reducible repeat (first | refine blk_drewN ?_ _ | refine blk_drew ?_ | refine blk_alloc ?_ _)); refine blk_far ?_ NB173_180.out _; (with_reducible repeat (first | refine blk_drewN ?_ _ | refine blk_drew ?_ | refine blk_alloc ?_ _)); refine blk_far ?_ NB173_180.out _; (with_reducible repeat (first | refine blk_drewN ?_ _ | refine blk_drew ?_ | refine blk_alloc ?_ _)); exact BK173.out) hb); have n2_ := Aside0.mk (blk_below (g := gb180) (o := .cells #[.int .i64 t174, .int .i64 t175, .int .i64 t176, .string t177, .int .i64 t178] 27 (0, 0)) (by (with_reducible repeat (first | refine blk_drewN ?_ _ | refine blk_drew ?_ | refine blk_alloc ?_ _)); refine blk_put (cs := #[.int .i64 t174, .int .i64 t175, .int .i64 t176, .string t177, .int .i64 0]) ?_ 4 _ rfl; (with_reducible repeat (first | refine blk_drewN ?_ _ | refine blk_drew ?_ | refine blk_alloc ?_ _)); refine blk_put (cs := #[.int .i64 t174, .int .i64 t175, .int .i64 t176, .string (⟨#[]⟩ : ByteArray), .int .i64 0]) ?_ 3 _ rfl; (with_reducible repeat (first | refine blk_drewN ?_ _ | refine blk_drew ?_ | refine blk_alloc ?_ _)); refine blk_put (cs := #[.int .i64 t174, .int .i64 t175, .int .i64 0, .string (⟨#[]⟩ : ByteArray), .int .i64 0]) ?_ 2 _ rfl; (with_reducible repeat (first | refine blk_drewN ?_ _ | refine blk_drew ?_ | refine blk_alloc ?_ _)); refine blk_put (cs := #[.int .i64 t174, .int .i64 0, .int .i64 0, .string (⟨#[]⟩ : ByteArray), .int .i64 0]) ?_ 1 _ rfl; (with_reducible repeat (first | refine blk_drewN ?_ _ | refine blk_drew ?_ | refine blk_alloc ?_ _)); refine blk_put (cs := #[.int .i64 0, .int .i64 0, .int .i64 0, .string (⟨#[]⟩ : ByteArray), .int .i64 0]) ?_ 0 _ rfl; (with_reducible repeat (first | refine blk_drewN ?_ _ | refine blk_drew ?_ | refine blk_alloc ?_ _)); exact BK180.out) hb); have n3_ := Aside0.mk (below_step (by repeat (first | (with_reducible first | exact HB.out | apply below_alloc | apply pw_below_drewN | apply below_drew1 | refine below_set ?_ GE173.out | refine below_set ?_ GE180.out) | exact HB.out)) hb); clear HO166; clear BK173; clear BK180; clear HB; have HO166 := n0_; have BK173 := n1_; have BK180 := n2_; have HB := n3_; clear n0_ n1_ n2_ n3_; (try clear hb); (try clear hb2); (try clear hk); (try clear hi)) | ((with_reducible refine gate_dst (N := 6) rfl ?_); refine box_event ?hg (N := 6) ?hd (cs := #[.int .i64 0, .int .i64 0, .int .i64 0, .string (⟨#[]⟩ : ByteArray), .int .i64 0]) (t := 27) ?hr ?_; (case hd => rfl); (case hg => rfl); (case hr => first | (go_simp; done) | (go_simp; rfl)); intro gb187 hg w17 hbox hb; have n0_ := Aside0.mk (Kd.V_below (Kd.V_elderB (by (with_reducible repeat (first | apply Kd.V_alloc | apply Kd.V_drewN | apply Kd.V_drew)); exact HO166.out) gb187 (Nat.le_of_eq hg.symm)) hb); have n1_ := Aside0.mk (blk_below (g := gb173) (o := .cells #[.int .i64 t167, .int .i64 t168, .int .i64 t169, .string t170, .int .i64 t171] 27 (0, 0)) (by (with_reducible repeat (first | refine blk_drewN ?_ _ | refine blk_drew ?_ | refine blk_alloc ?_ _)); exact BK173.out) hb); have n2_ := Aside0.mk (blk_below (g := gb180) (o := .cells #[.int .i64 t174, .int .i64 t175, .int .i64 t176, .string t177, .int .i64 t178] 27 (0, 0)) (by (with_reducible repeat (first | refine blk_drewN ?_ _ | refine blk_drew ?_ | refine blk_alloc ?_ _)); exact BK180.out) hb); have n3_ := Aside0.mk (below_step (by repeat (first | (with_reducible first | exact HB.out | apply below_alloc | apply pw_below_drewN | apply below_drew1 | refine below_set ?_ GE173.out | refine below_set ?_ GE180.out) | exact HB.out)) hb); have n4_ := Aside0.mk (hbox); have n5_ := Aside0.mk ((by rw [hg]; exact (below_size (by repeat (first | (with_reducible first | exact HB.out | apply below_alloc | apply pw_below_drewN | apply below_drew1 | refine below_set ?_ GE173.out | refine below_set ?_ GE180.out) | exact HB.out))) : w.heap.size ≤ gb187)); have n6_ := Aside0.mk ((by rw [hg]; exact (below_size (by repeat (first | (with_reducible first | exact HB.out | apply below_alloc | apply pw_below_drewN | apply below_drew1 | refine below_set ?_ GE173.out | refine below_set ?_ GE180.out) | exact HB.out))) : w.heap.size ≤ gb187)); have n7_ := Aside0.mk ((by rw [hg]; exact Nat.ne_of_lt (blk_lt (g := gb173) (o := .cells #[.int .i64 t167, .int .i64 t168, .int .i64 t169, .string t170, .int .i64 t171] 27 (0, 0)) (by (with_reducible repeat (first | refine blk_drewN ?_ _ | refine blk_drew ?_ | refine blk_alloc ?_ _)); exact BK173.out)) : gb173 ≠ gb187)); have n8_ := Aside0.mk ((by rw [hg]; exact Nat.ne_of_gt (blk_lt (g := gb173) (o := .cells #[.int .i64 t167, .int .i64 t168, .int .i64 t169, .string t170, .int .i64 t171] 27 (0, 0)) (by (with_reducible repeat (first | refine blk_drewN ?_ _ | refine blk_drew ?_ | refine blk_alloc ?_ _)); exact BK173.out)) : gb187 ≠ gb173)); have n9_ := Aside0.mk ((by rw [hg]; exact Nat.ne_of_lt (blk_lt (g := gb180) (o := .cells #[.int .i64 t174, .int .i64 t175, .int .i64 t176, .string t177, .int .i64 t178] 27 (0, 0)) (by (with_reducible repeat (first | refine blk_drewN ?_ _ | refine blk_drew ?_ | refine blk_alloc ?_ _)); exact BK180.out)) : gb180 ≠ gb187)); have n10_ := Aside0.mk ((by rw [hg]; exact Nat.ne_of_gt (blk_lt (g := gb180) (o := .cells #[.int .i64 t174, .int .i64 t175, .int .i64 t176, .string t177, .int .i64 t178] 27 (0, 0)) (by (with_reducible repeat (first | refine blk_drewN ?_ _ | refine blk_drew ?_ | refine blk_alloc ?_ _)); exact BK180.out)) : gb187 ≠ gb180)); clear HO166; clear BK173; clear BK180; clear HB; have HO166 := n0_; have BK173 := n1_; have BK180 := n2_; have HB := n3_; have BK187 := n4_; have GW187 := n5_; have GE187 := n6_; have NB173_187 := n7_; have NB187_173 := n8_; have NB180_187 := n9_; have NB187_180 := n10_; clear n0_ n1_ n2_ n3_ n4_ n5_ n6_ n7_ n8_ n9_ n10_; clear hb hbox hg; have hnb18 := NB187_173.out; have hnc18 := NB173_187.out; have hnb19 := NB187_180.out; have hnc19 := NB180_187.out; have hcz20_0 : w17.cell? ⟨gb187, 0, none⟩ = some (.int .i64 0) := (blk_cell BK187.out 0).trans rfl; have hcz20_1 : w17.cell? ⟨gb187, 1, none⟩ = some (.int .i64 0) := (blk_cell BK187.out 1).trans rfl; have hcz20_2 : w17.cell? ⟨gb187, 2, none⟩ = some (.int .i64 0) := (blk_cell BK187.out 2).trans rfl; have hcz20_3 : w17.cell? ⟨gb187, 3, none⟩ = some (.string (⟨#[]⟩ : ByteArray)) := (blk_cell BK187.out 3).trans rfl; have hcz20_4 : w17.cell? ⟨gb187, 4, none⟩ = some (.int .i64 0) := (blk_cell BK187.out 4).trans rfl; have hfz20_0 := blk_frozen BK187.out 0; have hfz20_1 := blk_frozen BK187.out 1; have hfz20_2 := blk_frozen BK187.out 2; have hfz20_3 := blk_frozen BK187.out 3; have hfz20_4 := blk_frozen BK187.out 4) | ((with_reducible refine gate_callee (f := 11) rfl ?_); refine goesL_ (some 29) rfl rfl Tryd.func11 (by kernel_rfl) rfl #[.slice Ao8 y164.length co8, .int .i64 6] rfl (by (try simp only [List.map_toArray, List.map_cons, List.map_nil]); first | done | rfl | (simp only [List.length_drop, List.length_take]; rfl)) ?_; (with_reducible refine (token_Next.calls k _ _ y164 6 t188 t189 t190 t191 t192 t193 _ ?side1 ?side2 ?side3 A4.out).mono ?_); (case side1 => exact Gl.below HG.out (by repeat (first | (with_reducible first | exact HB.out | apply below_alloc | apply pw_below_drewN | apply below_drew1 | refine below_set ?_ GE173.out | refine below_set ?_ GE180.out | refine below_set ?_ GE187.out) | exact HB.out))); (case side2 => refine (Kd.V_reads' (e := 5) (base := w.heap.size) (ok := fun k_ => (((True ∧ k_ ≠ gb173) ∧ k_ ≠ gb180) ∧ k_ ≠ gb187)) (n := y164.length) (c := co8) ?_).2.2; exact (by (with_reducible repeat (first | apply Kd.V_alloc | apply Kd.V_drewN | apply Kd.V_drew)); exact (Kd.V_mono (Kd.V_far (p := ⟨gb187, 4, none⟩) (Kd.V_far (p := ⟨gb187, 3, none⟩) (Kd.V_far (p := ⟨gb187, 2, none⟩) (Kd.V_far (p := ⟨gb187, 1, none⟩) (Kd.V_far (p := ⟨gb187, 0, none⟩) (Kd.V_mono HO166.out (fun k_ hk => (⟨hk, hk.2⟩ : _ ∧ k_ ≠ gb187))) (fun _ hk => hk.2) (.int .i64 t181)) (fun _ hk => hk.2) (.int .i64 t182)) (fun _ hk => hk.2) (.int .i64 t183)) (fun _ hk => hk.2) (.string t184)) (fun _ hk => hk.2) (.int .i64 t185)) (fun _ h_ => h_.1)))); (case side3 => exact (Kd.V_reads' HO166.out).2.1); rintro e w21 ⟨rfl, hb⟩; refine ⟨_, rfl, ?_⟩; have n0_ := Aside0.mk (Kd.V_below (by (with_reducible repeat (first | apply Kd.V_alloc | apply Kd.V_drewN | apply Kd.V_drew)); exact (Kd.V_mono (Kd.V_far (p := ⟨gb187, 4, none⟩) (Kd.V_far (p := ⟨gb187, 3, none⟩) (Kd.V_far (p := ⟨gb187, 2, none⟩) (Kd.V_far (p := ⟨gb187, 1, none⟩) (Kd.V_far (p := ⟨gb187, 0, none⟩) (Kd.V_mono HO166.out (fun k_ hk => (⟨hk, hk.2⟩ : _ ∧ k_ ≠ gb187))) (fun _ hk => hk.2) (.int .i64 t181)) (fun _ hk => hk.2) (.int .i64 t182)) (fun _ hk => hk.2) (.int .i64 t183)) (fun _ hk => hk.2) (.string t184)) (fun _ hk => hk.2) (.int .i64 t185)) (fun _ h_ => h_.1))) hb); have n1_ := Aside0.mk (blk_below (g := gb173) (o := .cells #[.int .i64 t167, .int .i64 t168, .int .i64 t169, .string t170, .int .i64 t171] 27 (0, 0)) (by (with_reducible repeat (first | refine blk_drewN ?_ _ | refine blk_drew ?_ | refine blk_alloc ?_ _)); refine blk_far ?_ NB173_187.out _; (with_reducible repeat (first | refine blk_drewN ?_ _ | refine blk_drew ?_ | refine blk_alloc ?_ _)); refine blk_far ?_ NB173_187.out _; (with_reducible repeat (first | refine blk_drewN ?_ _ | refine blk_drew ?_ | refine blk_alloc ?_ _)); refine blk_far ?_ NB173_187.out _; (with_reducible repeat (first | refine blk_drewN ?_ _ | refine blk_drew ?_ | refine blk_alloc ?_ _)); refine blk_far ?_ NB173_187.out _; (with_reducible repeat (first | refine blk_drewN ?_ _ | refine blk_drew ?_ | refine blk_alloc ?_ _)); refine blk_far ?_ NB173_187.out _; (with_reducible repeat (first | refine blk_drewN ?_ _ | refine blk_drew ?_ | refine blk_alloc ?_ _)); exact BK173.out) hb); have n2_ := Aside0.mk (blk_below (g := gb180) (o := .cells #[.int .i64 t174, .int .i64 t175, .int .i64 t176, .string t177, .int .i64 t178] 27 (0, 0)) (by (with_reducible repeat (first | refine blk_drewN ?_ _ | refine blk_drew ?_ | refine blk_alloc ?_ _)); refine blk_far ?_ NB180_187.out _; (with_reducible repeat (first | refine blk_drewN ?_ _ | refine blk_drew ?_ | refine blk_alloc ?_ _)); refine blk_far ?_ NB180_187.out _; (with_reducible repeat (first | refine blk_drewN ?_ _ | refine blk_drew ?_ | refine blk_alloc ?_ _)); refine blk_far ?_ NB180_187.out _; (with_reducible repeat (first | refine blk_drewN ?_ _ | refine blk_drew ?_ | refine blk_alloc ?_ _)); refine blk_far ?_ NB180_187.out _; (with_reducible repeat (first | refine blk_drewN ?_ _ | refine blk_drew ?_ | refine blk_alloc ?_ _)); refine blk_far ?_ NB180_187.out _; (with_reducible repeat (first | refine blk_drewN ?_ _ | refine blk_drew ?_ | refine blk_alloc ?_ _)); exact BK180.out) hb); have n3_ := Aside0.mk (blk_below (g := gb187) (o := .cells #[.int .i64 t181, .int .i64 t182, .int .i64 t183, .string t184, .int .i64 t185] 27 (0, 0)) (by (with_reducible repeat (first | refine blk_drewN ?_ _ | refine blk_drew ?_ | refine blk_alloc ?_ _)); refine blk_put (cs := #[.int .i64 t181, .int .i64 t182, .int .i64 t183, .string t184, .int .i64 0]) ?_ 4 _ rfl; (with_reducible repeat (first | refine blk_drewN ?_ _ | refine blk_drew ?_ | refine blk_alloc ?_ _)); refine blk_put (cs := #[.int .i64 t181, .int .i64 t182, .int .i64 t183, .string (⟨#[]⟩ : ByteArray), .int .i64 0]) ?_ 3 _ rfl; (with_reducible repeat (first | refine blk_drewN ?_ _ | refine blk_drew ?_ | refine blk_alloc ?_ _)); refine blk_put (cs := #[.int .i64 t181, .int .i64 t182, .int .i64 0, .string (⟨#[]⟩ : ByteArray), .int .i64 0]) ?_ 2 _ rfl; (with_reducible repeat (first | refine blk_drewN ?_ _ | refine blk_drew ?_ | refine blk_alloc ?_ _)); refine blk_put (cs := #[.int .i64 t181, .int .i64 0, .int .i64 0, .string (⟨#[]⟩ : ByteArray), .int .i64 0]) ?_ 1 _ rfl; (with_reducible repeat (first | refine blk_drewN ?_ _ | refine blk_drew ?_ | refine blk_alloc ?_ _)); refine blk_put (cs := #[.int .i64 0, .int .i64 0, .int .i64 0, .string (⟨#[]⟩ : ByteArray), .int .i64 0]) ?_ 0 _ rfl; (with_reducible repeat (first | refine blk_drewN ?_ _ | refine blk_drew ?_ | refine blk_alloc ?_ _)); exact BK187.out) hb); have n4_ := Aside0.mk (below_step (by repeat (first | (with_reducible first | exact HB.out | apply below_alloc | apply pw_below_drewN | apply below_drew1 | refine below_set ?_ GE173.out | refine below_set ?_ GE180.out | refine below_set ?_ GE187.out) | exact HB.out)) hb); clear HO166; clear BK173; clear BK180; clear BK187; clear HB; have HO166 := n0_; have BK173 := n1_; have BK180 := n2_; have BK187 := n3_; have HB := n4_; clear n0_ n1_ n2_ n3_ n4_; (try clear hb); (try clear hb2); (try clear hk); (try clear hi)) | ((with_reducible refine gate_dst (N := 8) rfl ?_); refine box_event ?hg (N := 8) ?hd (cs := #[.int .i64 0, .int .i64 0, .int .i64 0, .string (⟨#[]⟩ : ByteArray), .int .i64 0]) (t := 27) ?hr ?_; (case hd => rfl); (case hg => rfl); (case hr => first | (go_simp; done) | (go_simp; rfl)); intro gb194 hg w22 hbox hb; have n0_ := Aside0.mk (Kd.V_below (Kd.V_elderB (by (with_reducible repeat (first | apply Kd.V_alloc | apply Kd.V_drewN | apply Kd.V_drew)); exact HO166.out) gb194 (Nat.le_of_eq hg.symm)) hb); have n1_ := Aside0.mk (blk_below (g := gb173) (o := .cells #[.int .i64 t167, .int .i64 t168, .int .i64 t169, .string t170, .int .i64 t171] 27 (0, 0)) (by (with_reducible repeat (first | refine blk_drewN ?_ _ | refine blk_drew ?_ | refine blk_alloc ?_ _)); exact BK173.out) hb); have n2_ := Aside0.mk (blk_below (g := gb180) (o := .cells #[.int .i64 t174, .int .i64 t175, .int .i64 t176, .string t177, .int .i64 t178] 27 (0, 0)) (by (with_reducible repeat (first | refine blk_drewN ?_ _ | refine blk_drew ?_ | refine blk_alloc ?_ _)); exact BK180.out) hb); have n3_ := Aside0.mk (blk_below (g := gb187) (o := .cells #[.int .i64 t181, .int .i64 t182, .int .i64 t183, .string t184, .int .i64 t185] 27 (0, 0)) (by (with_reducible repeat (first | refine blk_drewN ?_ _ | refine blk_drew ?_ | refine blk_alloc ?_ _)); exact BK187.out) hb); have n4_ := Aside0.mk (below_step (by repeat (first | (with_reducible first | exact HB.out | apply below_alloc | apply pw_below_drewN | apply below_drew1 | refine below_set ?_ GE173.out | refine below_set ?_ GE180.out | refine below_set ?_ GE187.out) | exact HB.out)) hb); have n5_ := Aside0.mk (hbox); have n6_ := Aside0.mk ((by rw [hg]; exact (below_size (by repeat (first | (with_reducible first | exact HB.out | apply below_alloc | apply pw_below_drewN | apply below_drew1 | refine below_set ?_ GE173.out | refine below_set ?_ GE180.out | refine below_set ?_ GE187.out) | exact HB.out))) : w.heap.size ≤ gb194)); have n7_ := Aside0.mk ((by rw [hg]; exact (below_size (by repeat (first | (with_reducible first | exact HB.out | apply below_alloc | apply pw_below_drewN | apply below_drew1 | refine below_set ?_ GE173.out | refine below_set ?_ GE180.out | refine below_set ?_ GE187.out) | exact HB.out))) : w.heap.size ≤ gb194)); have n8_ := Aside0.mk ((by rw [hg]; exact Nat.ne_of_lt (blk_lt (g := gb173) (o := .cells #[.int .i64 t167, .int .i64 t168, .int .i64 t169, .string t170, .int .i64 t171] 27 (0, 0)) (by (with_reducible repeat (first | refine blk_drewN ?_ _ | refine blk_drew ?_ | refine blk_alloc ?_ _)); exact BK173.out)) : gb173 ≠ gb194)); have n9_ := Aside0.mk ((by rw [hg]; exact Nat.ne_of_gt (blk_lt (g := gb173) (o := .cells #[.int .i64 t167, .int .i64 t168, .int .i64 t169, .string t170, .int .i64 t171] 27 (0, 0)) (by (with_reducible repeat (first | refine blk_drewN ?_ _ | refine blk_drew ?_ | refine blk_alloc ?_ _)); exact BK173.out)) : gb194 ≠ gb173)); have n10_ := Aside0.mk ((by rw [hg]; exact Nat.ne_of_lt (blk_lt (g := gb180) (o := .cells #[.int .i64 t174, .int .i64 t175, .int .i64 t176, .string t177, .int .i64 t178] 27 (0, 0)) (by (with_reducible repeat (first | refine blk_drewN ?_ _ | refine blk_drew ?_ | refine blk_alloc ?_ _)); exact BK180.out)) : gb180 ≠ gb194)); have n11_ := Aside0.mk ((by rw [hg]; exact Nat.ne_of_gt (blk_lt (g := gb180) (o := .cells #[.int .i64 t174, .int .i64 t175, .int .i64 t176, .string t177, .int .i64 t178] 27 (0, 0)) (by (with_reducible repeat (first | refine blk_drewN ?_ _ | refine blk_drew ?_ | refine blk_alloc ?_ _)); exact BK180.out)) : gb194 ≠ gb180)); have n12_ := Aside0.mk ((by rw [hg]; exact Nat.ne_of_lt (blk_lt (g := gb187) (o := .cells #[.int .i64 t181, .int .i64 t182, .int .i64 t183, .string t184, .int .i64 t185] 27 (0, 0)) (by (with_reducible repeat (first | refine blk_drewN ?_ _ | refine blk_drew ?_ | refine blk_alloc ?_ _)); exact BK187.out)) : gb187 ≠ gb194)); have n13_ := Aside0.mk ((by rw [hg]; exact Nat.ne_of_gt (blk_lt (g := gb187) (o := .cells #[.int .i64 t181, .int .i64 t182, .int .i64 t183, .string t184, .int .i64 t185] 27 (0, 0)) (by (with_reducible repeat (first | refine blk_drewN ?_ _ | refine blk_drew ?_ | refine blk_alloc ?_ _)); exact BK187.out)) : gb194 ≠ gb187)); clear HO166; clear BK173; clear BK180; clear BK187; clear HB; have HO166 := n0_; have BK173 := n1_; have BK180 := n2_; have BK187 := n3_; have HB := n4_; have BK194 := n5_; have GW194 := n6_; have GE194 := n7_; have NB173_194 := n8_; have NB194_173 := n9_; have NB180_194 := n10_; have NB194_180 := n11_; have NB187_194 := n12_; have NB194_187 := n13_; clear n0_ n1_ n2_ n3_ n4_ n5_ n6_ n7_ n8_ n9_ n10_ n11_ n12_ n13_; clear hb hbox hg; have hnb23 := NB194_173.out; have hnc23 := NB173_194.out; have hnb24 := NB194_180.out; have hnc24 := NB180_194.out; have hnb25 := NB194_187.out; have hnc25 := NB187_194.out; have hcz26_0 : w22.cell? ⟨gb194, 0, none⟩ = some (.int .i64 0) := (blk_cell BK194.out 0).trans rfl; have hcz26_1 : w22.cell? ⟨gb194, 1, none⟩ = some (.int .i64 0) := (blk_cell BK194.out 1).trans rfl; have hcz26_2 : w22.cell? ⟨gb194, 2, none⟩ = some (.int .i64 0) := (blk_cell BK194.out 2).trans rfl; have hcz26_3 : w22.cell? ⟨gb194, 3, none⟩ = some (.string (⟨#[]⟩ : ByteArray)) := (blk_cell BK194.out 3).trans rfl; have hcz26_4 : w22.cell? ⟨gb194, 4, none⟩ = some (.int .i64 0) := (blk_cell BK194.out 4).trans rfl; have hfz26_0 := blk_frozen BK194.out 0; have hfz26_1 := blk_frozen BK194.out 1; have hfz26_2 := blk_frozen BK194.out 2; have hfz26_3 := blk_frozen BK194.out 3; have hfz26_4 := blk_frozen BK194.out 4))
 (try simp only [Act.put, List.setIfInBounds_toArray, List.set_cons_zero, List.set_cons_succ])
 go_cut [0] (fun v0 wc => ∃ (kq : Nat) (x0_4 : Bool), v0 = .bool x0_4 ∧ Aside0 (tmesislaw06_shown.j0 kq x0_4 = some r) ∧ Aside0 (kq ≤ k) ∧ Aside0 (wc.heap[gb173]? = some (.cells #[.int .i64 t167, .int .i64 t168, .int .i64 t169, .string t170, .int .i64 t171] 27 (0, 0))) ∧ Aside0 (wc.heap[gb180]? = some (.cells #[.int .i64 t174, .int .i64 t175, .int .i64 t176, .string t177, .int .i64 t178] 27 (0, 0))) ∧ Aside0 (wc.heap[gb187]? = some (.cells #[.int .i64 t181, .int .i64 t182, .int .i64 t183, .string t184, .int .i64 t185] 27 (0, 0))) ∧ Aside0 (wc.heap[gb194]? = some (.cells #[.int .i64 t188, .int .i64 t189, .int .i64 t190, .string t191, .int .i64 t192] 27 (0, 0))) ∧ Aside0 (Below w.heap.size w wc))
 case first =>
  have H := HC5.out
  clear HC5
  by_cases c27 : t167 = 2
  ·rw [if_pos c27] at H
   have c27b0 : (t167 == 2) = true := beq_iff_eq.mpr c27
   have c27b1 : (t167 != 2) = false := bne_eq_false_iff_eq.mpr c27
   clear c27
   (first | rw [c27b0] | (simp only [i64_w, i32_w]; rw [c27b0]) | skip)
   by_cases c28 : t172 = true
   ·subst c28
    have H1 : (if (t174 == 7 && (t175 == 3 && (t176 == 4 && (t177.toList == ([46] : List UInt8) && (t178 == 0))))) = true then (if t179 = true then (if (t181 == 3 && (t182 == 5 && (t183 == 6 && (t184.toList == ([88] : List UInt8) && (t185 == 0))))) = true then (if t186 = true then (tmesislaw06_shown.j0 k (!t193)) else (tmesislaw06_shown.j0 k false)) else (tmesislaw06_shown.j0 k false)) else (tmesislaw06_shown.j0 k false)) else (tmesislaw06_shown.j0 k false)) = some r := by rw [if_pos rfl] at H; exact H
    clear H
    have H := H1
    clear H1
    by_cases c29 : (t174 == 7 && (t175 == 3 && (t176 == 4 && (t177.toList == ([46] : List UInt8) && (t178 == 0))))) = true
    ·rw [if_pos c29] at H
     have c29b0 : (t174 == 7 && (t175 == 3 && (t176 == 4 && (t177.toList == ([46] : List UInt8) && (t178 == 0))))) = true := c29
     (try (have c29b1 : decide (t174 = 7 && (t175 == 3 && (t176 == 4 && (t177.toList == ([46] : List UInt8) && (t178 == 0))))) = true := by simpa using c29))
     (try (have c29b2 : (t174 == 7 && (t175 == 3 && (t176 == 4 && (t177.toList == ([46] : List UInt8) && (t178 == 0))))) = true := by simpa using c29))
     clear c29
     by_cases c30 : t179 = true
     ·subst c30
      have H1 : (if (t181 == 3 && (t182 == 5 && (t183 == 6 && (t184.toList == ([88] : List UInt8) && (t185 == 0))))) = true then (if t186 = true then (tmesislaw06_shown.j0 k (!t193)) else (tmesislaw06_shown.j0 k false)) else (tmesislaw06_shown.j0 k false)) = some r := by rw [if_pos rfl] at H; exact H
      clear H
      have H := H1
      clear H1
      by_cases c31 : (t181 == 3 && (t182 == 5 && (t183 == 6 && (t184.toList == ([88] : List UInt8) && (t185 == 0))))) = true
      ·rw [if_pos c31] at H
       have c31b0 : (t181 == 3 && (t182 == 5 && (t183 == 6 && (t184.toList == ([88] : List UInt8) && (t185 == 0))))) = true := c31
       (try (have c31b1 : decide (t181 = 3 && (t182 == 5 && (t183 == 6 && (t184.toList == ([88] : List UInt8) && (t185 == 0))))) = true := by simpa using c31))
       (try (have c31b2 : (t181 == 3 && (t182 == 5 && (t183 == 6 && (t184.toList == ([88] : List UInt8) && (t185 == 0))))) = true := by simpa using c31))
       clear c31
       by_cases c32 : t186 = true
       ·subst c32
        have H1 : (tmesislaw06_shown.j0 k (!t193)) = some r := by rw [if_pos rfl] at H; exact H
        clear H
        have H := H1
        clear H1
        have H' := Aside0.mk H
        clear H
        have hnb33 := NB173_180.out
        have hnc33 := NB180_173.out
        have hnb34 := NB173_187.out
        have hnc34 := NB187_173.out
        have hnb35 := NB173_194.out
        have hnc35 := NB194_173.out
        have hcz36_0 : w22.cell? ⟨gb173, 0, none⟩ = some (.int .i64 t167) := (blk_cell BK173.out 0).trans rfl
        have hcz36_1 : w22.cell? ⟨gb173, 1, none⟩ = some (.int .i64 t168) := (blk_cell BK173.out 1).trans rfl
        have hcz36_2 : w22.cell? ⟨gb173, 2, none⟩ = some (.int .i64 t169) := (blk_cell BK173.out 2).trans rfl
        have hcz36_3 : w22.cell? ⟨gb173, 3, none⟩ = some (.string t170) := (blk_cell BK173.out 3).trans rfl
        have hcz36_4 : w22.cell? ⟨gb173, 4, none⟩ = some (.int .i64 t171) := (blk_cell BK173.out 4).trans rfl
        have hfz36_0 := blk_frozen BK173.out 0
        have hfz36_1 := blk_frozen BK173.out 1
        have hfz36_2 := blk_frozen BK173.out 2
        have hfz36_3 := blk_frozen BK173.out 3
        have hfz36_4 := blk_frozen BK173.out 4
        have hnb37 := NB180_187.out
        have hnc37 := NB187_180.out
        have hnb38 := NB180_194.out
        have hnc38 := NB194_180.out
        have hcz39_0 : w22.cell? ⟨gb180, 0, none⟩ = some (.int .i64 t174) := (blk_cell BK180.out 0).trans rfl
        have hcz39_1 : w22.cell? ⟨gb180, 1, none⟩ = some (.int .i64 t175) := (blk_cell BK180.out 1).trans rfl
        have hcz39_2 : w22.cell? ⟨gb180, 2, none⟩ = some (.int .i64 t176) := (blk_cell BK180.out 2).trans rfl
        have hcz39_3 : w22.cell? ⟨gb180, 3, none⟩ = some (.string t177) := (blk_cell BK180.out 3).trans rfl
        have hcz39_4 : w22.cell? ⟨gb180, 4, none⟩ = some (.int .i64 t178) := (blk_cell BK180.out 4).trans rfl
        have hfz39_0 := blk_frozen BK180.out 0
        have hfz39_1 := blk_frozen BK180.out 1
        have hfz39_2 := blk_frozen BK180.out 2
        have hfz39_3 := blk_frozen BK180.out 3
        have hfz39_4 := blk_frozen BK180.out 4
        have hnb40 := NB187_194.out
        have hnc40 := NB194_187.out
        have hcz41_0 : w22.cell? ⟨gb187, 0, none⟩ = some (.int .i64 t181) := (blk_cell BK187.out 0).trans rfl
        have hcz41_1 : w22.cell? ⟨gb187, 1, none⟩ = some (.int .i64 t182) := (blk_cell BK187.out 1).trans rfl
        have hcz41_2 : w22.cell? ⟨gb187, 2, none⟩ = some (.int .i64 t183) := (blk_cell BK187.out 2).trans rfl
        have hcz41_3 : w22.cell? ⟨gb187, 3, none⟩ = some (.string t184) := (blk_cell BK187.out 3).trans rfl
        have hcz41_4 : w22.cell? ⟨gb187, 4, none⟩ = some (.int .i64 t185) := (blk_cell BK187.out 4).trans rfl
        have hfz41_0 := blk_frozen BK187.out 0
        have hfz41_1 := blk_frozen BK187.out 1
        have hfz41_2 := blk_frozen BK187.out 2
        have hfz41_3 := blk_frozen BK187.out 3
        have hfz41_4 := blk_frozen BK187.out 4
        go_wp2
        go_meet
        case rel => exact ⟨_, (!t193), (by first | rfl | (simp; done) | (simp [*]; done)), H', ⟨by first | omega | exact Nat.le_refl _⟩, ⟨by (with_reducible repeat (first | refine blk_drewN ?_ _ | refine blk_drew ?_ | refine blk_alloc ?_ _)); refine blk_far ?_ NB173_194.out _; (with_reducible repeat (first | refine blk_drewN ?_ _ | refine blk_drew ?_ | refine blk_alloc ?_ _)); refine blk_far ?_ NB173_194.out _; (with_reducible repeat (first | refine blk_drewN ?_ _ | refine blk_drew ?_ | refine blk_alloc ?_ _)); refine blk_far ?_ NB173_194.out _; (with_reducible repeat (first | refine blk_drewN ?_ _ | refine blk_drew ?_ | refine blk_alloc ?_ _)); refine blk_far ?_ NB173_194.out _; (with_reducible repeat (first | refine blk_drewN ?_ _ | refine blk_drew ?_ | refine blk_alloc ?_ _)); refine blk_far ?_ NB173_194.out _; (with_reducible repeat (first | refine blk_drewN ?_ _ | refine blk_drew ?_ | refine blk_alloc ?_ _)); exact BK173.out⟩, ⟨by (with_reducible repeat (first | refine blk_drewN ?_ _ | refine blk_drew ?_ | refine blk_alloc ?_ _)); refine blk_far ?_ NB180_194.out _; (with_reducible repeat (first | refine blk_drewN ?_ _ | refine blk_drew ?_ | refine blk_alloc ?_ _)); refine blk_far ?_ NB180_194.out _; (with_reducible repeat (first | refine blk_drewN ?_ _ | refine blk_drew ?_ | refine blk_alloc ?_ _)); refine blk_far ?_ NB180_194.out _; (with_reducible repeat (first | refine blk_drewN ?_ _ | refine blk_drew ?_ | refine blk_alloc ?_ _)); refine blk_far ?_ NB180_194.out _; (with_reducible repeat (first | refine blk_drewN ?_ _ | refine blk_drew ?_ | refine blk_alloc ?_ _)); refine blk_far ?_ NB180_194.out _; (with_reducible repeat (first | refine blk_drewN ?_ _ | refine blk_drew ?_ | refine blk_alloc ?_ _)); exact BK180.out⟩, ⟨by (with_reducible repeat (first | refine blk_drewN ?_ _ | refine blk_drew ?_ | refine blk_alloc ?_ _)); refine blk_far ?_ NB187_194.out _; (with_reducible repeat (first | refine blk_drewN ?_ _ | refine blk_drew ?_ | refine blk_alloc ?_ _)); refine blk_far ?_ NB187_194.out _; (with_reducible repeat (first | refine blk_drewN ?_ _ | refine blk_drew ?_ | refine blk_alloc ?_ _)); refine blk_far ?_ NB187_194.out _; (with_reducible repeat (first | refine blk_drewN ?_ _ | refine blk_drew ?_ | refine blk_alloc ?_ _)); refine blk_far ?_ NB187_194.out _; (with_reducible repeat (first | refine blk_drewN ?_ _ | refine blk_drew ?_ | refine blk_alloc ?_ _)); refine blk_far ?_ NB187_194.out _; (with_reducible repeat (first | refine blk_drewN ?_ _ | refine blk_drew ?_ | refine blk_alloc ?_ _)); exact BK187.out⟩, ⟨by (with_reducible repeat (first | refine blk_drewN ?_ _ | refine blk_drew ?_ | refine blk_alloc ?_ _)); refine blk_put (cs := #[.int .i64 t188, .int .i64 t189, .int .i64 t190, .string t191, .int .i64 0]) ?_ 4 _ rfl; (with_reducible repeat (first | refine blk_drewN ?_ _ | refine blk_drew ?_ | refine blk_alloc ?_ _)); refine blk_put (cs := #[.int .i64 t188, .int .i64 t189, .int .i64 t190, .string (⟨#[]⟩ : ByteArray), .int .i64 0]) ?_ 3 _ rfl; (with_reducible repeat (first | refine blk_drewN ?_ _ | refine blk_drew ?_ | refine blk_alloc ?_ _)); refine blk_put (cs := #[.int .i64 t188, .int .i64 t189, .int .i64 0, .string (⟨#[]⟩ : ByteArray), .int .i64 0]) ?_ 2 _ rfl; (with_reducible repeat (first | refine blk_drewN ?_ _ | refine blk_drew ?_ | refine blk_alloc ?_ _)); refine blk_put (cs := #[.int .i64 t188, .int .i64 0, .int .i64 0, .string (⟨#[]⟩ : ByteArray), .int .i64 0]) ?_ 1 _ rfl; (with_reducible repeat (first | refine blk_drewN ?_ _ | refine blk_drew ?_ | refine blk_alloc ?_ _)); refine blk_put (cs := #[.int .i64 0, .int .i64 0, .int .i64 0, .string (⟨#[]⟩ : ByteArray), .int .i64 0]) ?_ 0 _ rfl; (with_reducible repeat (first | refine blk_drewN ?_ _ | refine blk_drew ?_ | refine blk_alloc ?_ _)); exact BK194.out⟩, ⟨by repeat (first | (with_reducible first | exact HB.out | apply below_alloc | apply pw_below_drewN | apply below_drew1 | refine below_set ?_ GE173.out | refine below_set ?_ GE180.out | refine below_set ?_ GE187.out | refine below_set ?_ GE194.out) | exact HB.out)⟩⟩
       ·replace c32 := Bool.eq_false_iff.mpr c32
        subst c32
        have H1 : (tmesislaw06_shown.j0 k false) = some r := by rw [if_neg (show ¬ (false = true) by decide)] at H; exact H
        clear H
        have H := H1
        clear H1
        have H' := Aside0.mk H
        clear H
        have hnb42 := NB173_180.out
        have hnc42 := NB180_173.out
        have hnb43 := NB173_187.out
        have hnc43 := NB187_173.out
        have hnb44 := NB173_194.out
        have hnc44 := NB194_173.out
        have hcz45_0 : w22.cell? ⟨gb173, 0, none⟩ = some (.int .i64 t167) := (blk_cell BK173.out 0).trans rfl
        have hcz45_1 : w22.cell? ⟨gb173, 1, none⟩ = some (.int .i64 t168) := (blk_cell BK173.out 1).trans rfl
        have hcz45_2 : w22.cell? ⟨gb173, 2, none⟩ = some (.int .i64 t169) := (blk_cell BK173.out 2).trans rfl
        have hcz45_3 : w22.cell? ⟨gb173, 3, none⟩ = some (.string t170) := (blk_cell BK173.out 3).trans rfl
        have hcz45_4 : w22.cell? ⟨gb173, 4, none⟩ = some (.int .i64 t171) := (blk_cell BK173.out 4).trans rfl
        have hfz45_0 := blk_frozen BK173.out 0
        have hfz45_1 := blk_frozen BK173.out 1
        have hfz45_2 := blk_frozen BK173.out 2
        have hfz45_3 := blk_frozen BK173.out 3
        have hfz45_4 := blk_frozen BK173.out 4
        have hnb46 := NB180_187.out
        have hnc46 := NB187_180.out
        have hnb47 := NB180_194.out
        have hnc47 := NB194_180.out
        have hcz48_0 : w22.cell? ⟨gb180, 0, none⟩ = some (.int .i64 t174) := (blk_cell BK180.out 0).trans rfl
        have hcz48_1 : w22.cell? ⟨gb180, 1, none⟩ = some (.int .i64 t175) := (blk_cell BK180.out 1).trans rfl
        have hcz48_2 : w22.cell? ⟨gb180, 2, none⟩ = some (.int .i64 t176) := (blk_cell BK180.out 2).trans rfl
        have hcz48_3 : w22.cell? ⟨gb180, 3, none⟩ = some (.string t177) := (blk_cell BK180.out 3).trans rfl
        have hcz48_4 : w22.cell? ⟨gb180, 4, none⟩ = some (.int .i64 t178) := (blk_cell BK180.out 4).trans rfl
        have hfz48_0 := blk_frozen BK180.out 0
        have hfz48_1 := blk_frozen BK180.out 1
        have hfz48_2 := blk_frozen BK180.out 2
        have hfz48_3 := blk_frozen BK180.out 3
        have hfz48_4 := blk_frozen BK180.out 4
        have hnb49 := NB187_194.out
        have hnc49 := NB194_187.out
        have hcz50_0 : w22.cell? ⟨gb187, 0, none⟩ = some (.int .i64 t181) := (blk_cell BK187.out 0).trans rfl
        have hcz50_1 : w22.cell? ⟨gb187, 1, none⟩ = some (.int .i64 t182) := (blk_cell BK187.out 1).trans rfl
        have hcz50_2 : w22.cell? ⟨gb187, 2, none⟩ = some (.int .i64 t183) := (blk_cell BK187.out 2).trans rfl
        have hcz50_3 : w22.cell? ⟨gb187, 3, none⟩ = some (.string t184) := (blk_cell BK187.out 3).trans rfl
        have hcz50_4 : w22.cell? ⟨gb187, 4, none⟩ = some (.int .i64 t185) := (blk_cell BK187.out 4).trans rfl
        have hfz50_0 := blk_frozen BK187.out 0
        have hfz50_1 := blk_frozen BK187.out 1
        have hfz50_2 := blk_frozen BK187.out 2
        have hfz50_3 := blk_frozen BK187.out 3
        have hfz50_4 := blk_frozen BK187.out 4
        go_wp2
        go_meet
        case rel => exact ⟨_, (false), (by first | rfl | (simp; done) | (simp [*]; done)), H', ⟨by first | omega | exact Nat.le_refl _⟩, ⟨by (with_reducible repeat (first | refine blk_drewN ?_ _ | refine blk_drew ?_ | refine blk_alloc ?_ _)); refine blk_far ?_ NB173_194.out _; (with_reducible repeat (first | refine blk_drewN ?_ _ | refine blk_drew ?_ | refine blk_alloc ?_ _)); refine blk_far ?_ NB173_194.out _; (with_reducible repeat (first | refine blk_drewN ?_ _ | refine blk_drew ?_ | refine blk_alloc ?_ _)); refine blk_far ?_ NB173_194.out _; (with_reducible repeat (first | refine blk_drewN ?_ _ | refine blk_drew ?_ | refine blk_alloc ?_ _)); refine blk_far ?_ NB173_194.out _; (with_reducible repeat (first | refine blk_drewN ?_ _ | refine blk_drew ?_ | refine blk_alloc ?_ _)); refine blk_far ?_ NB173_194.out _; (with_reducible repeat (first | refine blk_drewN ?_ _ | refine blk_drew ?_ | refine blk_alloc ?_ _)); exact BK173.out⟩, ⟨by (with_reducible repeat (first | refine blk_drewN ?_ _ | refine blk_drew ?_ | refine blk_alloc ?_ _)); refine blk_far ?_ NB180_194.out _; (with_reducible repeat (first | refine blk_drewN ?_ _ | refine blk_drew ?_ | refine blk_alloc ?_ _)); refine blk_far ?_ NB180_194.out _; (with_reducible repeat (first | refine blk_drewN ?_ _ | refine blk_drew ?_ | refine blk_alloc ?_ _)); refine blk_far ?_ NB180_194.out _; (with_reducible repeat (first | refine blk_drewN ?_ _ | refine blk_drew ?_ | refine blk_alloc ?_ _)); refine blk_far ?_ NB180_194.out _; (with_reducible repeat (first | refine blk_drewN ?_ _ | refine blk_drew ?_ | refine blk_alloc ?_ _)); refine blk_far ?_ NB180_194.out _; (with_reducible repeat (first | refine blk_drewN ?_ _ | refine blk_drew ?_ | refine blk_alloc ?_ _)); exact BK180.out⟩, ⟨by (with_reducible repeat (first | refine blk_drewN ?_ _ | refine blk_drew ?_ | refine blk_alloc ?_ _)); refine blk_far ?_ NB187_194.out _; (with_reducible repeat (first | refine blk_drewN ?_ _ | refine blk_drew ?_ | refine blk_alloc ?_ _)); refine blk_far ?_ NB187_194.out _; (with_reducible repeat (first | refine blk_drewN ?_ _ | refine blk_drew ?_ | refine blk_alloc ?_ _)); refine blk_far ?_ NB187_194.out _; (with_reducible repeat (first | refine blk_drewN ?_ _ | refine blk_drew ?_ | refine blk_alloc ?_ _)); refine blk_far ?_ NB187_194.out _; (with_reducible repeat (first | refine blk_drewN ?_ _ | refine blk_drew ?_ | refine blk_alloc ?_ _)); refine blk_far ?_ NB187_194.out _; (with_reducible repeat (first | refine blk_drewN ?_ _ | refine blk_drew ?_ | refine blk_alloc ?_ _)); exact BK187.out⟩, ⟨by (with_reducible repeat (first | refine blk_drewN ?_ _ | refine blk_drew ?_ | refine blk_alloc ?_ _)); refine blk_put (cs := #[.int .i64 t188, .int .i64 t189, .int .i64 t190, .string t191, .int .i64 0]) ?_ 4 _ rfl; (with_reducible repeat (first | refine blk_drewN ?_ _ | refine blk_drew ?_ | refine blk_alloc ?_ _)); refine blk_put (cs := #[.int .i64 t188, .int .i64 t189, .int .i64 t190, .string (⟨#[]⟩ : ByteArray), .int .i64 0]) ?_ 3 _ rfl; (with_reducible repeat (first | refine blk_drewN ?_ _ | refine blk_drew ?_ | refine blk_alloc ?_ _)); refine blk_put (cs := #[.int .i64 t188, .int .i64 t189, .int .i64 0, .string (⟨#[]⟩ : ByteArray), .int .i64 0]) ?_ 2 _ rfl; (with_reducible repeat (first | refine blk_drewN ?_ _ | refine blk_drew ?_ | refine blk_alloc ?_ _)); refine blk_put (cs := #[.int .i64 t188, .int .i64 0, .int .i64 0, .string (⟨#[]⟩ : ByteArray), .int .i64 0]) ?_ 1 _ rfl; (with_reducible repeat (first | refine blk_drewN ?_ _ | refine blk_drew ?_ | refine blk_alloc ?_ _)); refine blk_put (cs := #[.int .i64 0, .int .i64 0, .int .i64 0, .string (⟨#[]⟩ : ByteArray), .int .i64 0]) ?_ 0 _ rfl; (with_reducible repeat (first | refine blk_drewN ?_ _ | refine blk_drew ?_ | refine blk_alloc ?_ _)); exact BK194.out⟩, ⟨by repeat (first | (with_reducible first | exact HB.out | apply below_alloc | apply pw_below_drewN | apply below_drew1 | refine below_set ?_ GE173.out | refine below_set ?_ GE180.out | refine below_set ?_ GE187.out | refine below_set ?_ GE194.out) | exact HB.out)⟩⟩
      ·rw [if_neg c31] at H
       have c31b0 : (t181 == 3 && (t182 == 5 && (t183 == 6 && (t184.toList == ([88] : List UInt8) && (t185 == 0))))) = false := by simpa using c31
       (try (have c31b1 : decide (t181 = 3 && (t182 == 5 && (t183 == 6 && (t184.toList == ([88] : List UInt8) && (t185 == 0))))) = false := by simpa using c31))
       (try (have c31b2 : (t181 == 3 && (t182 == 5 && (t183 == 6 && (t184.toList == ([88] : List UInt8) && (t185 == 0))))) = false := by simpa using c31))
       (try (have c31b3 : ¬ (t181 = 3 && (t182 == 5 && (t183 == 6 && (t184.toList == ([88] : List UInt8) && (t185 == 0))))) := by simpa using c31))
       clear c31
       have H' := Aside0.mk H
       clear H
       have hnb51 := NB173_180.out
       have hnc51 := NB180_173.out
       have hnb52 := NB173_187.out
       have hnc52 := NB187_173.out
       have hnb53 := NB173_194.out
       have hnc53 := NB194_173.out
       have hcz54_0 : w22.cell? ⟨gb173, 0, none⟩ = some (.int .i64 t167) := (blk_cell BK173.out 0).trans rfl
       have hcz54_1 : w22.cell? ⟨gb173, 1, none⟩ = some (.int .i64 t168) := (blk_cell BK173.out 1).trans rfl
       have hcz54_2 : w22.cell? ⟨gb173, 2, none⟩ = some (.int .i64 t169) := (blk_cell BK173.out 2).trans rfl
       have hcz54_3 : w22.cell? ⟨gb173, 3, none⟩ = some (.string t170) := (blk_cell BK173.out 3).trans rfl
       have hcz54_4 : w22.cell? ⟨gb173, 4, none⟩ = some (.int .i64 t171) := (blk_cell BK173.out 4).trans rfl
       have hfz54_0 := blk_frozen BK173.out 0
       have hfz54_1 := blk_frozen BK173.out 1
       have hfz54_2 := blk_frozen BK173.out 2
       have hfz54_3 := blk_frozen BK173.out 3
       have hfz54_4 := blk_frozen BK173.out 4
       have hnb55 := NB180_187.out
       have hnc55 := NB187_180.out
       have hnb56 := NB180_194.out
       have hnc56 := NB194_180.out
       have hcz57_0 : w22.cell? ⟨gb180, 0, none⟩ = some (.int .i64 t174) := (blk_cell BK180.out 0).trans rfl
       have hcz57_1 : w22.cell? ⟨gb180, 1, none⟩ = some (.int .i64 t175) := (blk_cell BK180.out 1).trans rfl
       have hcz57_2 : w22.cell? ⟨gb180, 2, none⟩ = some (.int .i64 t176) := (blk_cell BK180.out 2).trans rfl
       have hcz57_3 : w22.cell? ⟨gb180, 3, none⟩ = some (.string t177) := (blk_cell BK180.out 3).trans rfl
       have hcz57_4 : w22.cell? ⟨gb180, 4, none⟩ = some (.int .i64 t178) := (blk_cell BK180.out 4).trans rfl
       have hfz57_0 := blk_frozen BK180.out 0
       have hfz57_1 := blk_frozen BK180.out 1
       have hfz57_2 := blk_frozen BK180.out 2
       have hfz57_3 := blk_frozen BK180.out 3
       have hfz57_4 := blk_frozen BK180.out 4
       have hnb58 := NB187_194.out
       have hnc58 := NB194_187.out
       have hcz59_0 : w22.cell? ⟨gb187, 0, none⟩ = some (.int .i64 t181) := (blk_cell BK187.out 0).trans rfl
       have hcz59_1 : w22.cell? ⟨gb187, 1, none⟩ = some (.int .i64 t182) := (blk_cell BK187.out 1).trans rfl
       have hcz59_2 : w22.cell? ⟨gb187, 2, none⟩ = some (.int .i64 t183) := (blk_cell BK187.out 2).trans rfl
       have hcz59_3 : w22.cell? ⟨gb187, 3, none⟩ = some (.string t184) := (blk_cell BK187.out 3).trans rfl
       have hcz59_4 : w22.cell? ⟨gb187, 4, none⟩ = some (.int .i64 t185) := (blk_cell BK187.out 4).trans rfl
       have hfz59_0 := blk_frozen BK187.out 0
       have hfz59_1 := blk_frozen BK187.out 1
       have hfz59_2 := blk_frozen BK187.out 2
       have hfz59_3 := blk_frozen BK187.out 3
       have hfz59_4 := blk_frozen BK187.out 4
       go_wp2
       go_meet
       case rel => exact ⟨_, (false), (by first | rfl | (simp; done) | (simp [*]; done)), H', ⟨by first | omega | exact Nat.le_refl _⟩, ⟨by (with_reducible repeat (first | refine blk_drewN ?_ _ | refine blk_drew ?_ | refine blk_alloc ?_ _)); refine blk_far ?_ NB173_194.out _; (with_reducible repeat (first | refine blk_drewN ?_ _ | refine blk_drew ?_ | refine blk_alloc ?_ _)); refine blk_far ?_ NB173_194.out _; (with_reducible repeat (first | refine blk_drewN ?_ _ | refine blk_drew ?_ | refine blk_alloc ?_ _)); refine blk_far ?_ NB173_194.out _; (with_reducible repeat (first | refine blk_drewN ?_ _ | refine blk_drew ?_ | refine blk_alloc ?_ _)); refine blk_far ?_ NB173_194.out _; (with_reducible repeat (first | refine blk_drewN ?_ _ | refine blk_drew ?_ | refine blk_alloc ?_ _)); refine blk_far ?_ NB173_194.out _; (with_reducible repeat (first | refine blk_drewN ?_ _ | refine blk_drew ?_ | refine blk_alloc ?_ _)); exact BK173.out⟩, ⟨by (with_reducible repeat (first | refine blk_drewN ?_ _ | refine blk_drew ?_ | refine blk_alloc ?_ _)); refine blk_far ?_ NB180_194.out _; (with_reducible repeat (first | refine blk_drewN ?_ _ | refine blk_drew ?_ | refine blk_alloc ?_ _)); refine blk_far ?_ NB180_194.out _; (with_reducible repeat (first | refine blk_drewN ?_ _ | refine blk_drew ?_ | refine blk_alloc ?_ _)); refine blk_far ?_ NB180_194.out _; (with_reducible repeat (first | refine blk_drewN ?_ _ | refine blk_drew ?_ | refine blk_alloc ?_ _)); refine blk_far ?_ NB180_194.out _; (with_reducible repeat (first | refine blk_drewN ?_ _ | refine blk_drew ?_ | refine blk_alloc ?_ _)); refine blk_far ?_ NB180_194.out _; (with_reducible repeat (first | refine blk_drewN ?_ _ | refine blk_drew ?_ | refine blk_alloc ?_ _)); exact BK180.out⟩, ⟨by (with_reducible repeat (first | refine blk_drewN ?_ _ | refine blk_drew ?_ | refine blk_alloc ?_ _)); refine blk_far ?_ NB187_194.out _; (with_reducible repeat (first | refine blk_drewN ?_ _ | refine blk_drew ?_ | refine blk_alloc ?_ _)); refine blk_far ?_ NB187_194.out _; (with_reducible repeat (first | refine blk_drewN ?_ _ | refine blk_drew ?_ | refine blk_alloc ?_ _)); refine blk_far ?_ NB187_194.out _; (with_reducible repeat (first | refine blk_drewN ?_ _ | refine blk_drew ?_ | refine blk_alloc ?_ _)); refine blk_far ?_ NB187_194.out _; (with_reducible repeat (first | refine blk_drewN ?_ _ | refine blk_drew ?_ | refine blk_alloc ?_ _)); refine blk_far ?_ NB187_194.out _; (with_reducible repeat (first | refine blk_drewN ?_ _ | refine blk_drew ?_ | refine blk_alloc ?_ _)); exact BK187.out⟩, ⟨by (with_reducible repeat (first | refine blk_drewN ?_ _ | refine blk_drew ?_ | refine blk_alloc ?_ _)); refine blk_put (cs := #[.int .i64 t188, .int .i64 t189, .int .i64 t190, .string t191, .int .i64 0]) ?_ 4 _ rfl; (with_reducible repeat (first | refine blk_drewN ?_ _ | refine blk_drew ?_ | refine blk_alloc ?_ _)); refine blk_put (cs := #[.int .i64 t188, .int .i64 t189, .int .i64 t190, .string (⟨#[]⟩ : ByteArray), .int .i64 0]) ?_ 3 _ rfl; (with_reducible repeat (first | refine blk_drewN ?_ _ | refine blk_drew ?_ | refine blk_alloc ?_ _)); refine blk_put (cs := #[.int .i64 t188, .int .i64 t189, .int .i64 0, .string (⟨#[]⟩ : ByteArray), .int .i64 0]) ?_ 2 _ rfl; (with_reducible repeat (first | refine blk_drewN ?_ _ | refine blk_drew ?_ | refine blk_alloc ?_ _)); refine blk_put (cs := #[.int .i64 t188, .int .i64 0, .int .i64 0, .string (⟨#[]⟩ : ByteArray), .int .i64 0]) ?_ 1 _ rfl; (with_reducible repeat (first | refine blk_drewN ?_ _ | refine blk_drew ?_ | refine blk_alloc ?_ _)); refine blk_put (cs := #[.int .i64 0, .int .i64 0, .int .i64 0, .string (⟨#[]⟩ : ByteArray), .int .i64 0]) ?_ 0 _ rfl; (with_reducible repeat (first | refine blk_drewN ?_ _ | refine blk_drew ?_ | refine blk_alloc ?_ _)); exact BK194.out⟩, ⟨by repeat (first | (with_reducible first | exact HB.out | apply below_alloc | apply pw_below_drewN | apply below_drew1 | refine below_set ?_ GE173.out | refine below_set ?_ GE180.out | refine below_set ?_ GE187.out | refine below_set ?_ GE194.out) | exact HB.out)⟩⟩
     ·replace c30 := Bool.eq_false_iff.mpr c30
      subst c30
      have H1 : (tmesislaw06_shown.j0 k false) = some r := by rw [if_neg (show ¬ (false = true) by decide)] at H; exact H
      clear H
      have H := H1
      clear H1
      have H' := Aside0.mk H
      clear H
      have hnb60 := NB173_180.out
      have hnc60 := NB180_173.out
      have hnb61 := NB173_187.out
      have hnc61 := NB187_173.out
      have hnb62 := NB173_194.out
      have hnc62 := NB194_173.out
      have hcz63_0 : w22.cell? ⟨gb173, 0, none⟩ = some (.int .i64 t167) := (blk_cell BK173.out 0).trans rfl
      have hcz63_1 : w22.cell? ⟨gb173, 1, none⟩ = some (.int .i64 t168) := (blk_cell BK173.out 1).trans rfl
      have hcz63_2 : w22.cell? ⟨gb173, 2, none⟩ = some (.int .i64 t169) := (blk_cell BK173.out 2).trans rfl
      have hcz63_3 : w22.cell? ⟨gb173, 3, none⟩ = some (.string t170) := (blk_cell BK173.out 3).trans rfl
      have hcz63_4 : w22.cell? ⟨gb173, 4, none⟩ = some (.int .i64 t171) := (blk_cell BK173.out 4).trans rfl
      have hfz63_0 := blk_frozen BK173.out 0
      have hfz63_1 := blk_frozen BK173.out 1
      have hfz63_2 := blk_frozen BK173.out 2
      have hfz63_3 := blk_frozen BK173.out 3
      have hfz63_4 := blk_frozen BK173.out 4
      have hnb64 := NB180_187.out
      have hnc64 := NB187_180.out
      have hnb65 := NB180_194.out
      have hnc65 := NB194_180.out
      have hcz66_0 : w22.cell? ⟨gb180, 0, none⟩ = some (.int .i64 t174) := (blk_cell BK180.out 0).trans rfl
      have hcz66_1 : w22.cell? ⟨gb180, 1, none⟩ = some (.int .i64 t175) := (blk_cell BK180.out 1).trans rfl
      have hcz66_2 : w22.cell? ⟨gb180, 2, none⟩ = some (.int .i64 t176) := (blk_cell BK180.out 2).trans rfl
      have hcz66_3 : w22.cell? ⟨gb180, 3, none⟩ = some (.string t177) := (blk_cell BK180.out 3).trans rfl
      have hcz66_4 : w22.cell? ⟨gb180, 4, none⟩ = some (.int .i64 t178) := (blk_cell BK180.out 4).trans rfl
      have hfz66_0 := blk_frozen BK180.out 0
      have hfz66_1 := blk_frozen BK180.out 1
      have hfz66_2 := blk_frozen BK180.out 2
      have hfz66_3 := blk_frozen BK180.out 3
      have hfz66_4 := blk_frozen BK180.out 4
      go_wp2
      go_meet
      case rel => exact ⟨_, (false), (by first | rfl | (simp; done) | (simp [*]; done)), H', ⟨by first | omega | exact Nat.le_refl _⟩, ⟨by (with_reducible repeat (first | refine blk_drewN ?_ _ | refine blk_drew ?_ | refine blk_alloc ?_ _)); refine blk_far ?_ NB173_194.out _; (with_reducible repeat (first | refine blk_drewN ?_ _ | refine blk_drew ?_ | refine blk_alloc ?_ _)); refine blk_far ?_ NB173_194.out _; (with_reducible repeat (first | refine blk_drewN ?_ _ | refine blk_drew ?_ | refine blk_alloc ?_ _)); refine blk_far ?_ NB173_194.out _; (with_reducible repeat (first | refine blk_drewN ?_ _ | refine blk_drew ?_ | refine blk_alloc ?_ _)); refine blk_far ?_ NB173_194.out _; (with_reducible repeat (first | refine blk_drewN ?_ _ | refine blk_drew ?_ | refine blk_alloc ?_ _)); refine blk_far ?_ NB173_194.out _; (with_reducible repeat (first | refine blk_drewN ?_ _ | refine blk_drew ?_ | refine blk_alloc ?_ _)); exact BK173.out⟩, ⟨by (with_reducible repeat (first | refine blk_drewN ?_ _ | refine blk_drew ?_ | refine blk_alloc ?_ _)); refine blk_far ?_ NB180_194.out _; (with_reducible repeat (first | refine blk_drewN ?_ _ | refine blk_drew ?_ | refine blk_alloc ?_ _)); refine blk_far ?_ NB180_194.out _; (with_reducible repeat (first | refine blk_drewN ?_ _ | refine blk_drew ?_ | refine blk_alloc ?_ _)); refine blk_far ?_ NB180_194.out _; (with_reducible repeat (first | refine blk_drewN ?_ _ | refine blk_drew ?_ | refine blk_alloc ?_ _)); refine blk_far ?_ NB180_194.out _; (with_reducible repeat (first | refine blk_drewN ?_ _ | refine blk_drew ?_ | refine blk_alloc ?_ _)); refine blk_far ?_ NB180_194.out _; (with_reducible repeat (first | refine blk_drewN ?_ _ | refine blk_drew ?_ | refine blk_alloc ?_ _)); exact BK180.out⟩, ⟨by (with_reducible repeat (first | refine blk_drewN ?_ _ | refine blk_drew ?_ | refine blk_alloc ?_ _)); refine blk_far ?_ NB187_194.out _; (with_reducible repeat (first | refine blk_drewN ?_ _ | refine blk_drew ?_ | refine blk_alloc ?_ _)); refine blk_far ?_ NB187_194.out _; (with_reducible repeat (first | refine blk_drewN ?_ _ | refine blk_drew ?_ | refine blk_alloc ?_ _)); refine blk_far ?_ NB187_194.out _; (with_reducible repeat (first | refine blk_drewN ?_ _ | refine blk_drew ?_ | refine blk_alloc ?_ _)); refine blk_far ?_ NB187_194.out _; (with_reducible repeat (first | refine blk_drewN ?_ _ | refine blk_drew ?_ | refine blk_alloc ?_ _)); refine blk_far ?_ NB187_194.out _; (with_reducible repeat (first | refine blk_drewN ?_ _ | refine blk_drew ?_ | refine blk_alloc ?_ _)); exact BK187.out⟩, ⟨by (with_reducible repeat (first | refine blk_drewN ?_ _ | refine blk_drew ?_ | refine blk_alloc ?_ _)); refine blk_put (cs := #[.int .i64 t188, .int .i64 t189, .int .i64 t190, .string t191, .int .i64 0]) ?_ 4 _ rfl; (with_reducible repeat (first | refine blk_drewN ?_ _ | refine blk_drew ?_ | refine blk_alloc ?_ _)); refine blk_put (cs := #[.int .i64 t188, .int .i64 t189, .int .i64 t190, .string (⟨#[]⟩ : ByteArray), .int .i64 0]) ?_ 3 _ rfl; (with_reducible repeat (first | refine blk_drewN ?_ _ | refine blk_drew ?_ | refine blk_alloc ?_ _)); refine blk_put (cs := #[.int .i64 t188, .int .i64 t189, .int .i64 0, .string (⟨#[]⟩ : ByteArray), .int .i64 0]) ?_ 2 _ rfl; (with_reducible repeat (first | refine blk_drewN ?_ _ | refine blk_drew ?_ | refine blk_alloc ?_ _)); refine blk_put (cs := #[.int .i64 t188, .int .i64 0, .int .i64 0, .string (⟨#[]⟩ : ByteArray), .int .i64 0]) ?_ 1 _ rfl; (with_reducible repeat (first | refine blk_drewN ?_ _ | refine blk_drew ?_ | refine blk_alloc ?_ _)); refine blk_put (cs := #[.int .i64 0, .int .i64 0, .int .i64 0, .string (⟨#[]⟩ : ByteArray), .int .i64 0]) ?_ 0 _ rfl; (with_reducible repeat (first | refine blk_drewN ?_ _ | refine blk_drew ?_ | refine blk_alloc ?_ _)); exact BK194.out⟩, ⟨by repeat (first | (with_reducible first | exact HB.out | apply below_alloc | apply pw_below_drewN | apply below_drew1 | refine below_set ?_ GE173.out | refine below_set ?_ GE180.out | refine below_set ?_ GE187.out | refine below_set ?_ GE194.out) | exact HB.out)⟩⟩
    ·rw [if_neg c29] at H
     have c29b0 : (t174 == 7 && (t175 == 3 && (t176 == 4 && (t177.toList == ([46] : List UInt8) && (t178 == 0))))) = false := by simpa using c29
     (try (have c29b1 : decide (t174 = 7 && (t175 == 3 && (t176 == 4 && (t177.toList == ([46] : List UInt8) && (t178 == 0))))) = false := by simpa using c29))
     (try (have c29b2 : (t174 == 7 && (t175 == 3 && (t176 == 4 && (t177.toList == ([46] : List UInt8) && (t178 == 0))))) = false := by simpa using c29))
     (try (have c29b3 : ¬ (t174 = 7 && (t175 == 3 && (t176 == 4 && (t177.toList == ([46] : List UInt8) && (t178 == 0))))) := by simpa using c29))
     clear c29
     have H' := Aside0.mk H
     clear H
     have hnb67 := NB173_180.out
     have hnc67 := NB180_173.out
     have hnb68 := NB173_187.out
     have hnc68 := NB187_173.out
     have hnb69 := NB173_194.out
     have hnc69 := NB194_173.out
     have hcz70_0 : w22.cell? ⟨gb173, 0, none⟩ = some (.int .i64 t167) := (blk_cell BK173.out 0).trans rfl
     have hcz70_1 : w22.cell? ⟨gb173, 1, none⟩ = some (.int .i64 t168) := (blk_cell BK173.out 1).trans rfl
     have hcz70_2 : w22.cell? ⟨gb173, 2, none⟩ = some (.int .i64 t169) := (blk_cell BK173.out 2).trans rfl
     have hcz70_3 : w22.cell? ⟨gb173, 3, none⟩ = some (.string t170) := (blk_cell BK173.out 3).trans rfl
     have hcz70_4 : w22.cell? ⟨gb173, 4, none⟩ = some (.int .i64 t171) := (blk_cell BK173.out 4).trans rfl
     have hfz70_0 := blk_frozen BK173.out 0
     have hfz70_1 := blk_frozen BK173.out 1
     have hfz70_2 := blk_frozen BK173.out 2
     have hfz70_3 := blk_frozen BK173.out 3
     have hfz70_4 := blk_frozen BK173.out 4
     have hnb71 := NB180_187.out
     have hnc71 := NB187_180.out
     have hnb72 := NB180_194.out
     have hnc72 := NB194_180.out
     have hcz73_0 : w22.cell? ⟨gb180, 0, none⟩ = some (.int .i64 t174) := (blk_cell BK180.out 0).trans rfl
     have hcz73_1 : w22.cell? ⟨gb180, 1, none⟩ = some (.int .i64 t175) := (blk_cell BK180.out 1).trans rfl
     have hcz73_2 : w22.cell? ⟨gb180, 2, none⟩ = some (.int .i64 t176) := (blk_cell BK180.out 2).trans rfl
     have hcz73_3 : w22.cell? ⟨gb180, 3, none⟩ = some (.string t177) := (blk_cell BK180.out 3).trans rfl
     have hcz73_4 : w22.cell? ⟨gb180, 4, none⟩ = some (.int .i64 t178) := (blk_cell BK180.out 4).trans rfl
     have hfz73_0 := blk_frozen BK180.out 0
     have hfz73_1 := blk_frozen BK180.out 1
     have hfz73_2 := blk_frozen BK180.out 2
     have hfz73_3 := blk_frozen BK180.out 3
     have hfz73_4 := blk_frozen BK180.out 4
     go_wp2
     go_meet
     case rel => exact ⟨_, (false), (by first | rfl | (simp; done) | (simp [*]; done)), H', ⟨by first | omega | exact Nat.le_refl _⟩, ⟨by (with_reducible repeat (first | refine blk_drewN ?_ _ | refine blk_drew ?_ | refine blk_alloc ?_ _)); refine blk_far ?_ NB173_194.out _; (with_reducible repeat (first | refine blk_drewN ?_ _ | refine blk_drew ?_ | refine blk_alloc ?_ _)); refine blk_far ?_ NB173_194.out _; (with_reducible repeat (first | refine blk_drewN ?_ _ | refine blk_drew ?_ | refine blk_alloc ?_ _)); refine blk_far ?_ NB173_194.out _; (with_reducible repeat (first | refine blk_drewN ?_ _ | refine blk_drew ?_ | refine blk_alloc ?_ _)); refine blk_far ?_ NB173_194.out _; (with_reducible repeat (first | refine blk_drewN ?_ _ | refine blk_drew ?_ | refine blk_alloc ?_ _)); refine blk_far ?_ NB173_194.out _; (with_reducible repeat (first | refine blk_drewN ?_ _ | refine blk_drew ?_ | refine blk_alloc ?_ _)); exact BK173.out⟩, ⟨by (with_reducible repeat (first | refine blk_drewN ?_ _ | refine blk_drew ?_ | refine blk_alloc ?_ _)); refine blk_far ?_ NB180_194.out _; (with_reducible repeat (first | refine blk_drewN ?_ _ | refine blk_drew ?_ | refine blk_alloc ?_ _)); refine blk_far ?_ NB180_194.out _; (with_reducible repeat (first | refine blk_drewN ?_ _ | refine blk_drew ?_ | refine blk_alloc ?_ _)); refine blk_far ?_ NB180_194.out _; (with_reducible repeat (first | refine blk_drewN ?_ _ | refine blk_drew ?_ | refine blk_alloc ?_ _)); refine blk_far ?_ NB180_194.out _; (with_reducible repeat (first | refine blk_drewN ?_ _ | refine blk_drew ?_ | refine blk_alloc ?_ _)); refine blk_far ?_ NB180_194.out _; (with_reducible repeat (first | refine blk_drewN ?_ _ | refine blk_drew ?_ | refine blk_alloc ?_ _)); exact BK180.out⟩, ⟨by (with_reducible repeat (first | refine blk_drewN ?_ _ | refine blk_drew ?_ | refine blk_alloc ?_ _)); refine blk_far ?_ NB187_194.out _; (with_reducible repeat (first | refine blk_drewN ?_ _ | refine blk_drew ?_ | refine blk_alloc ?_ _)); refine blk_far ?_ NB187_194.out _; (with_reducible repeat (first | refine blk_drewN ?_ _ | refine blk_drew ?_ | refine blk_alloc ?_ _)); refine blk_far ?_ NB187_194.out _; (with_reducible repeat (first | refine blk_drewN ?_ _ | refine blk_drew ?_ | refine blk_alloc ?_ _)); refine blk_far ?_ NB187_194.out _; (with_reducible repeat (first | refine blk_drewN ?_ _ | refine blk_drew ?_ | refine blk_alloc ?_ _)); refine blk_far ?_ NB187_194.out _; (with_reducible repeat (first | refine blk_drewN ?_ _ | refine blk_drew ?_ | refine blk_alloc ?_ _)); exact BK187.out⟩, ⟨by (with_reducible repeat (first | refine blk_drewN ?_ _ | refine blk_drew ?_ | refine blk_alloc ?_ _)); refine blk_put (cs := #[.int .i64 t188, .int .i64 t189, .int .i64 t190, .string t191, .int .i64 0]) ?_ 4 _ rfl; (with_reducible repeat (first | refine blk_drewN ?_ _ | refine blk_drew ?_ | refine blk_alloc ?_ _)); refine blk_put (cs := #[.int .i64 t188, .int .i64 t189, .int .i64 t190, .string (⟨#[]⟩ : ByteArray), .int .i64 0]) ?_ 3 _ rfl; (with_reducible repeat (first | refine blk_drewN ?_ _ | refine blk_drew ?_ | refine blk_alloc ?_ _)); refine blk_put (cs := #[.int .i64 t188, .int .i64 t189, .int .i64 0, .string (⟨#[]⟩ : ByteArray), .int .i64 0]) ?_ 2 _ rfl; (with_reducible repeat (first | refine blk_drewN ?_ _ | refine blk_drew ?_ | refine blk_alloc ?_ _)); refine blk_put (cs := #[.int .i64 t188, .int .i64 0, .int .i64 0, .string (⟨#[]⟩ : ByteArray), .int .i64 0]) ?_ 1 _ rfl; (with_reducible repeat (first | refine blk_drewN ?_ _ | refine blk_drew ?_ | refine blk_alloc ?_ _)); refine blk_put (cs := #[.int .i64 0, .int .i64 0, .int .i64 0, .string (⟨#[]⟩ : ByteArray), .int .i64 0]) ?_ 0 _ rfl; (with_reducible repeat (first | refine blk_drewN ?_ _ | refine blk_drew ?_ | refine blk_alloc ?_ _)); exact BK194.out⟩, ⟨by repeat (first | (with_reducible first | exact HB.out | apply below_alloc | apply pw_below_drewN | apply below_drew1 | refine below_set ?_ GE173.out | refine below_set ?_ GE180.out | refine below_set ?_ GE187.out | refine below_set ?_ GE194.out) | exact HB.out)⟩⟩
   ·replace c28 := Bool.eq_false_iff.mpr c28
    subst c28
    have H1 : (tmesislaw06_shown.j0 k false) = some r := by rw [if_neg (show ¬ (false = true) by decide)] at H; exact H
    clear H
    have H := H1
    clear H1
    have H' := Aside0.mk H
    clear H
    have hnb74 := NB173_180.out
    have hnc74 := NB180_173.out
    have hnb75 := NB173_187.out
    have hnc75 := NB187_173.out
    have hnb76 := NB173_194.out
    have hnc76 := NB194_173.out
    have hcz77_0 : w22.cell? ⟨gb173, 0, none⟩ = some (.int .i64 t167) := (blk_cell BK173.out 0).trans rfl
    have hcz77_1 : w22.cell? ⟨gb173, 1, none⟩ = some (.int .i64 t168) := (blk_cell BK173.out 1).trans rfl
    have hcz77_2 : w22.cell? ⟨gb173, 2, none⟩ = some (.int .i64 t169) := (blk_cell BK173.out 2).trans rfl
    have hcz77_3 : w22.cell? ⟨gb173, 3, none⟩ = some (.string t170) := (blk_cell BK173.out 3).trans rfl
    have hcz77_4 : w22.cell? ⟨gb173, 4, none⟩ = some (.int .i64 t171) := (blk_cell BK173.out 4).trans rfl
    have hfz77_0 := blk_frozen BK173.out 0
    have hfz77_1 := blk_frozen BK173.out 1
    have hfz77_2 := blk_frozen BK173.out 2
    have hfz77_3 := blk_frozen BK173.out 3
    have hfz77_4 := blk_frozen BK173.out 4
    go_wp2
    go_meet
    case rel => exact ⟨_, (false), (by first | rfl | (simp; done) | (simp [*]; done)), H', ⟨by first | omega | exact Nat.le_refl _⟩, ⟨by (with_reducible repeat (first | refine blk_drewN ?_ _ | refine blk_drew ?_ | refine blk_alloc ?_ _)); refine blk_far ?_ NB173_194.out _; (with_reducible repeat (first | refine blk_drewN ?_ _ | refine blk_drew ?_ | refine blk_alloc ?_ _)); refine blk_far ?_ NB173_194.out _; (with_reducible repeat (first | refine blk_drewN ?_ _ | refine blk_drew ?_ | refine blk_alloc ?_ _)); refine blk_far ?_ NB173_194.out _; (with_reducible repeat (first | refine blk_drewN ?_ _ | refine blk_drew ?_ | refine blk_alloc ?_ _)); refine blk_far ?_ NB173_194.out _; (with_reducible repeat (first | refine blk_drewN ?_ _ | refine blk_drew ?_ | refine blk_alloc ?_ _)); refine blk_far ?_ NB173_194.out _; (with_reducible repeat (first | refine blk_drewN ?_ _ | refine blk_drew ?_ | refine blk_alloc ?_ _)); exact BK173.out⟩, ⟨by (with_reducible repeat (first | refine blk_drewN ?_ _ | refine blk_drew ?_ | refine blk_alloc ?_ _)); refine blk_far ?_ NB180_194.out _; (with_reducible repeat (first | refine blk_drewN ?_ _ | refine blk_drew ?_ | refine blk_alloc ?_ _)); refine blk_far ?_ NB180_194.out _; (with_reducible repeat (first | refine blk_drewN ?_ _ | refine blk_drew ?_ | refine blk_alloc ?_ _)); refine blk_far ?_ NB180_194.out _; (with_reducible repeat (first | refine blk_drewN ?_ _ | refine blk_drew ?_ | refine blk_alloc ?_ _)); refine blk_far ?_ NB180_194.out _; (with_reducible repeat (first | refine blk_drewN ?_ _ | refine blk_drew ?_ | refine blk_alloc ?_ _)); refine blk_far ?_ NB180_194.out _; (with_reducible repeat (first | refine blk_drewN ?_ _ | refine blk_drew ?_ | refine blk_alloc ?_ _)); exact BK180.out⟩, ⟨by (with_reducible repeat (first | refine blk_drewN ?_ _ | refine blk_drew ?_ | refine blk_alloc ?_ _)); refine blk_far ?_ NB187_194.out _; (with_reducible repeat (first | refine blk_drewN ?_ _ | refine blk_drew ?_ | refine blk_alloc ?_ _)); refine blk_far ?_ NB187_194.out _; (with_reducible repeat (first | refine blk_drewN ?_ _ | refine blk_drew ?_ | refine blk_alloc ?_ _)); refine blk_far ?_ NB187_194.out _; (with_reducible repeat (first | refine blk_drewN ?_ _ | refine blk_drew ?_ | refine blk_alloc ?_ _)); refine blk_far ?_ NB187_194.out _; (with_reducible repeat (first | refine blk_drewN ?_ _ | refine blk_drew ?_ | refine blk_alloc ?_ _)); refine blk_far ?_ NB187_194.out _; (with_reducible repeat (first | refine blk_drewN ?_ _ | refine blk_drew ?_ | refine blk_alloc ?_ _)); exact BK187.out⟩, ⟨by (with_reducible repeat (first | refine blk_drewN ?_ _ | refine blk_drew ?_ | refine blk_alloc ?_ _)); refine blk_put (cs := #[.int .i64 t188, .int .i64 t189, .int .i64 t190, .string t191, .int .i64 0]) ?_ 4 _ rfl; (with_reducible repeat (first | refine blk_drewN ?_ _ | refine blk_drew ?_ | refine blk_alloc ?_ _)); refine blk_put (cs := #[.int .i64 t188, .int .i64 t189, .int .i64 t190, .string (⟨#[]⟩ : ByteArray), .int .i64 0]) ?_ 3 _ rfl; (with_reducible repeat (first | refine blk_drewN ?_ _ | refine blk_drew ?_ | refine blk_alloc ?_ _)); refine blk_put (cs := #[.int .i64 t188, .int .i64 t189, .int .i64 0, .string (⟨#[]⟩ : ByteArray), .int .i64 0]) ?_ 2 _ rfl; (with_reducible repeat (first | refine blk_drewN ?_ _ | refine blk_drew ?_ | refine blk_alloc ?_ _)); refine blk_put (cs := #[.int .i64 t188, .int .i64 0, .int .i64 0, .string (⟨#[]⟩ : ByteArray), .int .i64 0]) ?_ 1 _ rfl; (with_reducible repeat (first | refine blk_drewN ?_ _ | refine blk_drew ?_ | refine blk_alloc ?_ _)); refine blk_put (cs := #[.int .i64 0, .int .i64 0, .int .i64 0, .string (⟨#[]⟩ : ByteArray), .int .i64 0]) ?_ 0 _ rfl; (with_reducible repeat (first | refine blk_drewN ?_ _ | refine blk_drew ?_ | refine blk_alloc ?_ _)); exact BK194.out⟩, ⟨by repeat (first | (with_reducible first | exact HB.out | apply below_alloc | apply pw_below_drewN | apply below_drew1 | refine below_set ?_ GE173.out | refine below_set ?_ GE180.out | refine below_set ?_ GE187.out | refine below_set ?_ GE194.out) | exact HB.out)⟩⟩
  ·rw [if_neg c27] at H
   have c27b0 : (t167 == 2) = false := beq_eq_false_iff_ne.mpr c27
   have c27b1 : (t167 != 2) = true := bne_iff_ne.mpr c27
   (first | rw [c27b0] | (simp only [i64_w, i32_w]; rw [c27b0]) | skip)
   have H' := Aside0.mk H
   clear H
   have hnb78 := NB173_180.out
   have hnc78 := NB180_173.out
   have hnb79 := NB173_187.out
   have hnc79 := NB187_173.out
   have hnb80 := NB173_194.out
   have hnc80 := NB194_173.out
   have hcz81_0 : w22.cell? ⟨gb173, 0, none⟩ = some (.int .i64 t167) := (blk_cell BK173.out 0).trans rfl
   have hcz81_1 : w22.cell? ⟨gb173, 1, none⟩ = some (.int .i64 t168) := (blk_cell BK173.out 1).trans rfl
   have hcz81_2 : w22.cell? ⟨gb173, 2, none⟩ = some (.int .i64 t169) := (blk_cell BK173.out 2).trans rfl
   have hcz81_3 : w22.cell? ⟨gb173, 3, none⟩ = some (.string t170) := (blk_cell BK173.out 3).trans rfl
   have hcz81_4 : w22.cell? ⟨gb173, 4, none⟩ = some (.int .i64 t171) := (blk_cell BK173.out 4).trans rfl
   have hfz81_0 := blk_frozen BK173.out 0
   have hfz81_1 := blk_frozen BK173.out 1
   have hfz81_2 := blk_frozen BK173.out 2
   have hfz81_3 := blk_frozen BK173.out 3
   have hfz81_4 := blk_frozen BK173.out 4
   go_wp2
   go_meet
   case rel => exact ⟨_, (false), (by first | rfl | (simp; done) | (simp [*]; done)), H', ⟨by first | omega | exact Nat.le_refl _⟩, ⟨by (with_reducible repeat (first | refine blk_drewN ?_ _ | refine blk_drew ?_ | refine blk_alloc ?_ _)); refine blk_far ?_ NB173_194.out _; (with_reducible repeat (first | refine blk_drewN ?_ _ | refine blk_drew ?_ | refine blk_alloc ?_ _)); refine blk_far ?_ NB173_194.out _; (with_reducible repeat (first | refine blk_drewN ?_ _ | refine blk_drew ?_ | refine blk_alloc ?_ _)); refine blk_far ?_ NB173_194.out _; (with_reducible repeat (first | refine blk_drewN ?_ _ | refine blk_drew ?_ | refine blk_alloc ?_ _)); refine blk_far ?_ NB173_194.out _; (with_reducible repeat (first | refine blk_drewN ?_ _ | refine blk_drew ?_ | refine blk_alloc ?_ _)); refine blk_far ?_ NB173_194.out _; (with_reducible repeat (first | refine blk_drewN ?_ _ | refine blk_drew ?_ | refine blk_alloc ?_ _)); exact BK173.out⟩, ⟨by (with_reducible repeat (first | refine blk_drewN ?_ _ | refine blk_drew ?_ | refine blk_alloc ?_ _)); refine blk_far ?_ NB180_194.out _; (with_reducible repeat (first | refine blk_drewN ?_ _ | refine blk_drew ?_ | refine blk_alloc ?_ _)); refine blk_far ?_ NB180_194.out _; (with_reducible repeat (first | refine blk_drewN ?_ _ | refine blk_drew ?_ | refine blk_alloc ?_ _)); refine blk_far ?_ NB180_194.out _; (with_reducible repeat (first | refine blk_drewN ?_ _ | refine blk_drew ?_ | refine blk_alloc ?_ _)); refine blk_far ?_ NB180_194.out _; (with_reducible repeat (first | refine blk_drewN ?_ _ | refine blk_drew ?_ | refine blk_alloc ?_ _)); refine blk_far ?_ NB180_194.out _; (with_reducible repeat (first | refine blk_drewN ?_ _ | refine blk_drew ?_ | refine blk_alloc ?_ _)); exact BK180.out⟩, ⟨by (with_reducible repeat (first | refine blk_drewN ?_ _ | refine blk_drew ?_ | refine blk_alloc ?_ _)); refine blk_far ?_ NB187_194.out _; (with_reducible repeat (first | refine blk_drewN ?_ _ | refine blk_drew ?_ | refine blk_alloc ?_ _)); refine blk_far ?_ NB187_194.out _; (with_reducible repeat (first | refine blk_drewN ?_ _ | refine blk_drew ?_ | refine blk_alloc ?_ _)); refine blk_far ?_ NB187_194.out _; (with_reducible repeat (first | refine blk_drewN ?_ _ | refine blk_drew ?_ | refine blk_alloc ?_ _)); refine blk_far ?_ NB187_194.out _; (with_reducible repeat (first | refine blk_drewN ?_ _ | refine blk_drew ?_ | refine blk_alloc ?_ _)); refine blk_far ?_ NB187_194.out _; (with_reducible repeat (first | refine blk_drewN ?_ _ | refine blk_drew ?_ | refine blk_alloc ?_ _)); exact BK187.out⟩, ⟨by (with_reducible repeat (first | refine blk_drewN ?_ _ | refine blk_drew ?_ | refine blk_alloc ?_ _)); refine blk_put (cs := #[.int .i64 t188, .int .i64 t189, .int .i64 t190, .string t191, .int .i64 0]) ?_ 4 _ rfl; (with_reducible repeat (first | refine blk_drewN ?_ _ | refine blk_drew ?_ | refine blk_alloc ?_ _)); refine blk_put (cs := #[.int .i64 t188, .int .i64 t189, .int .i64 t190, .string (⟨#[]⟩ : ByteArray), .int .i64 0]) ?_ 3 _ rfl; (with_reducible repeat (first | refine blk_drewN ?_ _ | refine blk_drew ?_ | refine blk_alloc ?_ _)); refine blk_put (cs := #[.int .i64 t188, .int .i64 t189, .int .i64 0, .string (⟨#[]⟩ : ByteArray), .int .i64 0]) ?_ 2 _ rfl; (with_reducible repeat (first | refine blk_drewN ?_ _ | refine blk_drew ?_ | refine blk_alloc ?_ _)); refine blk_put (cs := #[.int .i64 t188, .int .i64 0, .int .i64 0, .string (⟨#[]⟩ : ByteArray), .int .i64 0]) ?_ 1 _ rfl; (with_reducible repeat (first | refine blk_drewN ?_ _ | refine blk_drew ?_ | refine blk_alloc ?_ _)); refine blk_put (cs := #[.int .i64 0, .int .i64 0, .int .i64 0, .string (⟨#[]⟩ : ByteArray), .int .i64 0]) ?_ 0 _ rfl; (with_reducible repeat (first | refine blk_drewN ?_ _ | refine blk_drew ?_ | refine blk_alloc ?_ _)); exact BK194.out⟩, ⟨by repeat (first | (with_reducible first | exact HB.out | apply below_alloc | apply pw_below_drewN | apply below_drew1 | refine below_set ?_ GE173.out | refine below_set ?_ GE180.out | refine below_set ?_ GE187.out | refine below_set ?_ GE194.out) | exact HB.out)⟩⟩
 case rest =>
  clear HC5
  try clear c1
  try clear c2
  try clear p2
  try clear c3
  try clear c4
  try clear c5
  try clear c6
  try clear c7
  try clear c8
  try clear c9
  try clear c11
  try clear c14
  try clear c18
  try clear c19
  try clear c23
  try clear c24
  try clear c25
  try clear c27
  try clear c27b0
  try clear c27b1
  try clear c28
  try clear c29
  try clear c29b0
  try clear c29b1
  try clear c29b2
  try clear c30
  try clear c31
  try clear c31b0
  try clear c31b1
  try clear c31b2
  try clear c32
  try clear c33
  try clear c34
  try clear c35
  try clear c37
  try clear c38
  try clear c40
  try clear c42
  try clear c43
  try clear c44
  try clear c46
  try clear c47
  try clear c49
  try clear c51
  try clear c52
  try clear c53
  try clear c55
  try clear c56
  try clear c58
  try clear c60
  try clear c61
  try clear c62
  try clear c64
  try clear c65
  try clear c67
  try clear c68
  try clear c69
  try clear c71
  try clear c72
  try clear c74
  try clear c75
  try clear c76
  try clear c78
  try clear c79
  try clear c80
  try clear hcz11_0
  try clear hcz11_1
  try clear hcz11_2
  try clear hcz11_3
  try clear hcz11_4
  try clear hcz15_0
  try clear hcz15_1
  try clear hcz15_2
  try clear hcz15_3
  try clear hcz15_4
  try clear hcz20_0
  try clear hcz20_1
  try clear hcz20_2
  try clear hcz20_3
  try clear hcz20_4
  try clear hcz26_0
  try clear hcz26_1
  try clear hcz26_2
  try clear hcz26_3
  try clear hcz26_4
  try clear hcz36_0
  try clear hcz36_1
  try clear hcz36_2
  try clear hcz36_3
  try clear hcz36_4
  try clear hcz39_0
  try clear hcz39_1
  try clear hcz39_2
  try clear hcz39_3
  try clear hcz39_4
  try clear hcz41_0
  try clear hcz41_1
  try clear hcz41_2
  try clear hcz41_3
  try clear hcz41_4
  try clear hcz45_0
  try clear hcz45_1
  try clear hcz45_2
  try clear hcz45_3
  try clear hcz45_4
  try clear hcz48_0
  try clear hcz48_1
  try clear hcz48_2
  try clear hcz48_3
  try clear hcz48_4
  try clear hcz50_0
  try clear hcz50_1
  try clear hcz50_2
  try clear hcz50_3
  try clear hcz50_4
  try clear hcz54_0
  try clear hcz54_1
  try clear hcz54_2
  try clear hcz54_3
  try clear hcz54_4
  try clear hcz57_0
  try clear hcz57_1
  try clear hcz57_2
  try clear hcz57_3
  try clear hcz57_4
  try clear hcz59_0
  try clear hcz59_1
  try clear hcz59_2
  try clear hcz59_3
  try clear hcz59_4
  try clear hcz63_0
  try clear hcz63_1
  try clear hcz63_2
  try clear hcz63_3
  try clear hcz63_4
  try clear hcz66_0
  try clear hcz66_1
  try clear hcz66_2
  try clear hcz66_3
  try clear hcz66_4
  try clear hcz70_0
  try clear hcz70_1
  try clear hcz70_2
  try clear hcz70_3
  try clear hcz70_4
  try clear hcz73_0
  try clear hcz73_1
  try clear hcz73_2
  try clear hcz73_3
  try clear hcz73_4
  try clear hcz77_0
  try clear hcz77_1
  try clear hcz77_2
  try clear hcz77_3
  try clear hcz77_4
  try clear hcz81_0
  try clear hcz81_1
  try clear hcz81_2
  try clear hcz81_3
  try clear hcz81_4
  try clear hfz11_0
  try clear hfz11_1
  try clear hfz11_2
  try clear hfz11_3
  try clear hfz11_4
  try clear hfz15_0
  try clear hfz15_1
  try clear hfz15_2
  try clear hfz15_3
  try clear hfz15_4
  try clear hfz20_0
  try clear hfz20_1
  try clear hfz20_2
  try clear hfz20_3
  try clear hfz20_4
  try clear hfz26_0
  try clear hfz26_1
  try clear hfz26_2
  try clear hfz26_3
  try clear hfz26_4
  try clear hfz36_0
  try clear hfz36_1
  try clear hfz36_2
  try clear hfz36_3
  try clear hfz36_4
  try clear hfz39_0
  try clear hfz39_1
  try clear hfz39_2
  try clear hfz39_3
  try clear hfz39_4
  try clear hfz41_0
  try clear hfz41_1
  try clear hfz41_2
  try clear hfz41_3
  try clear hfz41_4
  try clear hfz45_0
  try clear hfz45_1
  try clear hfz45_2
  try clear hfz45_3
  try clear hfz45_4
  try clear hfz48_0
  try clear hfz48_1
  try clear hfz48_2
  try clear hfz48_3
  try clear hfz48_4
  try clear hfz50_0
  try clear hfz50_1
  try clear hfz50_2
  try clear hfz50_3
  try clear hfz50_4
  try clear hfz54_0
  try clear hfz54_1
  try clear hfz54_2
  try clear hfz54_3
  try clear hfz54_4
  try clear hfz57_0
  try clear hfz57_1
  try clear hfz57_2
  try clear hfz57_3
  try clear hfz57_4
  try clear hfz59_0
  try clear hfz59_1
  try clear hfz59_2
  try clear hfz59_3
  try clear hfz59_4
  try clear hfz63_0
  try clear hfz63_1
  try clear hfz63_2
  try clear hfz63_3
  try clear hfz63_4
  try clear hfz66_0
  try clear hfz66_1
  try clear hfz66_2
  try clear hfz66_3
  try clear hfz66_4
  try clear hfz70_0
  try clear hfz70_1
  try clear hfz70_2
  try clear hfz70_3
  try clear hfz70_4
  try clear hfz73_0
  try clear hfz73_1
  try clear hfz73_2
  try clear hfz73_3
  try clear hfz73_4
  try clear hfz77_0
  try clear hfz77_1
  try clear hfz77_2
  try clear hfz77_3
  try clear hfz77_4
  try clear hfz81_0
  try clear hfz81_1
  try clear hfz81_2
  try clear hfz81_3
  try clear hfz81_4
  obtain ⟨kq, x0_4, rfl, HA, HJ4, BK173, BK180, BK187, BK194, HB⟩ := hcut
  cases kq with
  | zero => exact absurd HA.out (by simp [tmesislaw06_shown.j0])
  | succ kj4 =>
   have H := HA.out
   clear HA
   simp only [tmesislaw06_shown.j0] at H
   obtain rfl := Option.some.inj H
   go_wp2
   go_ret
   exact ⟨by first | rfl | (simp [errW_none, errW_some] <;> rfl) | (simp [*, errW_none, errW_some] <;> rfl), by repeat (first | (with_reducible first | exact HB.out | apply below_alloc | apply pw_below_drewN | apply below_drew1 | refine below_set ?_ GE173.out | refine below_set ?_ GE180.out | refine below_set ?_ GE187.out | refine below_set ?_ GE194.out) | exact HB.out)⟩
end Go.Proofs.YtflekegjmjjdmaaDoor.P
