/- Part of the proof: what the theorem needs of this text. -/
import Derived.Test.YtflekegjmjjdmaaDoorKHG
import Derived.Test.YtflekegjmjjdmaaDoorKHTX
import Derived.Test.YtflekegjmjjdmaaDoorKPx0
import Derived.Test.YtflekegjmjjdmaaDoorKPx1
namespace Go.Proofs.YtflekegjmjjdmaaDoor.P
open Go.RowKit Go.Proofs.YtflekegjmjjdmaaDoorW.PrintWords Go.Proofs.YtflekegjmjjdmaaDoorW.PrintLast Go.Proofs.YtflekegjmjjdmaaDoorW.PrintMore
attribute [local go_sem] max2_int min2_int max_two min_two max_three min_three max_four min_four   -- for this text's walks alone
set_option linter.unusedVariables false
set_option linter.unusedSimpArgs false
attribute [local go_sem high] eqA27
def tmesislaw06_shown.j0 : Nat → Bool → Option (Bool)
 | 0, _ => none
 | k + 1, x0 => some x0
def tmesislaw06_shown.f (k : Nat)  : Option (Bool) := (some (([97, 46, 98, 46, 32, 88] : List Int) : List Int)).bind fun y164 => ((token_Next.f k y164 1).bind fun bt167 => ((token_Next.f k y164 3).bind fun bt174 => ((token_Next.f k y164 4).bind fun bt181 => ((token_Next.f k y164 6).bind fun bt188 => (if bt167.1 = 2 then (if bt167.2.2.2.2.2 = true then (if (bt174.1 == 7 && (bt174.2.1 == 3 && (bt174.2.2.1 == 4 && (bt174.2.2.2.1.toList == ([46] : List UInt8) && (bt174.2.2.2.2.1 == 0))))) = true then (if bt174.2.2.2.2.2 = true then (if (bt181.1 == 3 && (bt181.2.1 == 5 && (bt181.2.2.1 == 6 && (bt181.2.2.2.1.toList == ([88] : List UInt8) && (bt181.2.2.2.2.1 == 0))))) = true then (if bt181.2.2.2.2.2 = true then (tmesislaw06_shown.j0 k (!bt188.2.2.2.2.2)) else (tmesislaw06_shown.j0 k false)) else (tmesislaw06_shown.j0 k false)) else (tmesislaw06_shown.j0 k false)) else (tmesislaw06_shown.j0 k false)) else (tmesislaw06_shown.j0 k false)) else (tmesislaw06_shown.j0 k false))))))
theorem tmesislaw06_shown.mono_l : ∀ k, (∀ y0, LeO (tmesislaw06_shown.j0 k y0) (tmesislaw06_shown.j0 (k + 1) y0))
 | 0 => fun _ r h => by simp [tmesislaw06_shown.j0] at h
 | k + 1 => by
  have ih0 := tmesislaw06_shown.mono_l k
  ·intro y0
   unfold tmesislaw06_shown.j0
   repeat' with_reducible first | exact ih0 _ | exact token_Next.mono _ _ _ | exact LeO.refl _ | exact LeO.none _ | refine LeO.ite ?_ ?_ | refine LeO.bind ?_ (fun _ => ?_)
theorem tmesislaw06_shown.mono : ∀ k, LeO (tmesislaw06_shown.f k ) (tmesislaw06_shown.f (k + 1) ) := by
 intro  k
 have ih0 := tmesislaw06_shown.mono_l k
 unfold tmesislaw06_shown.f
 repeat' with_reducible first | exact ih0 _ | exact token_Next.mono _ _ _ | exact LeO.refl _ | exact LeO.none _ | refine LeO.ite ?_ ?_ | refine LeO.bind ?_ (fun _ => ?_)
set_option maxHeartbeats 8000000 in
set_option maxRecDepth 100000 in
theorem tmesislaw06_shown.calls (k : Nat)  (r : Bool) (w : World) (hG : Gl w) (h : tmesislaw06_shown.f k  = some r) :
  Calls Tryd.prog 9 #[] w fun e w' => e = .returned (.bool r) ∧ Below w.heap.size w w' := by
 have hu27 := Tryd.underlying27
 have HB := Aside0.mk (Below.refl w.heap.size w)
 have HG := Aside0.mk hG
 clear hG
 have H : ((some (([97, 46, 98, 46, 32, 88] : List Int) : List Int)).bind fun y164 => ((token_Next.f k y164 1).bind fun bt167 => ((token_Next.f k y164 3).bind fun bt174 => ((token_Next.f k y164 4).bind fun bt181 => ((token_Next.f k y164 6).bind fun bt188 => (if bt167.1 = 2 then (if bt167.2.2.2.2.2 = true then (if (bt174.1 == 7 && (bt174.2.1 == 3 && (bt174.2.2.1 == 4 && (bt174.2.2.2.1.toList == ([46] : List UInt8) && (bt174.2.2.2.2.1 == 0))))) = true then (if bt174.2.2.2.2.2 = true then (if (bt181.1 == 3 && (bt181.2.1 == 5 && (bt181.2.2.1 == 6 && (bt181.2.2.2.1.toList == ([88] : List UInt8) && (bt181.2.2.2.2.1 == 0))))) = true then (if bt181.2.2.2.2.2 = true then (tmesislaw06_shown.j0 k (!bt188.2.2.2.2.2)) else (tmesislaw06_shown.j0 k false)) else (tmesislaw06_shown.j0 k false)) else (tmesislaw06_shown.j0 k false)) else (tmesislaw06_shown.j0 k false)) else (tmesislaw06_shown.j0 k false)) else (tmesislaw06_shown.j0 k false))))))) = some r := h
 clear h
 obtain ⟨y164, hy164⟩ : ∃ y_ : List Int, y_ = (([97, 46, 98, 46, 32, 88] : List Int)) := ⟨_, rfl⟩
 replace H : ((token_Next.f k y164 1).bind fun bt167 => ((token_Next.f k y164 3).bind fun bt174 => ((token_Next.f k y164 4).bind fun bt181 => ((token_Next.f k y164 6).bind fun bt188 => (if bt167.1 = 2 then (if bt167.2.2.2.2.2 = true then (if (bt174.1 == 7 && (bt174.2.1 == 3 && (bt174.2.2.1 == 4 && (bt174.2.2.2.1.toList == ([46] : List UInt8) && (bt174.2.2.2.2.1 == 0))))) = true then (if bt174.2.2.2.2.2 = true then (if (bt181.1 == 3 && (bt181.2.1 == 5 && (bt181.2.2.1 == 6 && (bt181.2.2.2.1.toList == ([88] : List UInt8) && (bt181.2.2.2.2.1 == 0))))) = true then (if bt181.2.2.2.2.2 = true then (tmesislaw06_shown.j0 k (!bt188.2.2.2.2.2)) else (tmesislaw06_shown.j0 k false)) else (tmesislaw06_shown.j0 k false)) else (tmesislaw06_shown.j0 k false)) else (tmesislaw06_shown.j0 k false)) else (tmesislaw06_shown.j0 k false)) else (tmesislaw06_shown.j0 k false)))))) = some r := by first | (rw [hy164]; with_reducible exact H) | (have H2_ := (Option.bind_some _ _).symm.trans H; rw [hy164]; with_reducible exact H2_) | (have H2_ := (Option.bind_some _ _).symm.trans H; with_reducible exact H2_) | with_reducible exact H | (rw [hy164]; exact H) | exact H
 have Ny164 := Aside0.mk hy164
 clear hy164
 obtain ⟨⟨t167, t168, t169, t170, t171, t172⟩, A1, H⟩ := bE H
 replace H : ((token_Next.f k y164 3).bind fun bt174 => ((token_Next.f k y164 4).bind fun bt181 => ((token_Next.f k y164 6).bind fun bt188 => (if t167 = 2 then (if t172 = true then (if (bt174.1 == 7 && (bt174.2.1 == 3 && (bt174.2.2.1 == 4 && (bt174.2.2.2.1.toList == ([46] : List UInt8) && (bt174.2.2.2.2.1 == 0))))) = true then (if bt174.2.2.2.2.2 = true then (if (bt181.1 == 3 && (bt181.2.1 == 5 && (bt181.2.2.1 == 6 && (bt181.2.2.2.1.toList == ([88] : List UInt8) && (bt181.2.2.2.2.1 == 0))))) = true then (if bt181.2.2.2.2.2 = true then (tmesislaw06_shown.j0 k (!bt188.2.2.2.2.2)) else (tmesislaw06_shown.j0 k false)) else (tmesislaw06_shown.j0 k false)) else (tmesislaw06_shown.j0 k false)) else (tmesislaw06_shown.j0 k false)) else (tmesislaw06_shown.j0 k false)) else (tmesislaw06_shown.j0 k false))))) = some r := H
 obtain ⟨⟨t174, t175, t176, t177, t178, t179⟩, A2, H⟩ := bE H
 replace H : ((token_Next.f k y164 4).bind fun bt181 => ((token_Next.f k y164 6).bind fun bt188 => (if t167 = 2 then (if t172 = true then (if (t174 == 7 && (t175 == 3 && (t176 == 4 && (t177.toList == ([46] : List UInt8) && (t178 == 0))))) = true then (if t179 = true then (if (bt181.1 == 3 && (bt181.2.1 == 5 && (bt181.2.2.1 == 6 && (bt181.2.2.2.1.toList == ([88] : List UInt8) && (bt181.2.2.2.2.1 == 0))))) = true then (if bt181.2.2.2.2.2 = true then (tmesislaw06_shown.j0 k (!bt188.2.2.2.2.2)) else (tmesislaw06_shown.j0 k false)) else (tmesislaw06_shown.j0 k false)) else (tmesislaw06_shown.j0 k false)) else (tmesislaw06_shown.j0 k false)) else (tmesislaw06_shown.j0 k false)) else (tmesislaw06_shown.j0 k false)))) = some r := H
 obtain ⟨⟨t181, t182, t183, t184, t185, t186⟩, A3, H⟩ := bE H
 replace H : ((token_Next.f k y164 6).bind fun bt188 => (if t167 = 2 then (if t172 = true then (if (t174 == 7 && (t175 == 3 && (t176 == 4 && (t177.toList == ([46] : List UInt8) && (t178 == 0))))) = true then (if t179 = true then (if (t181 == 3 && (t182 == 5 && (t183 == 6 && (t184.toList == ([88] : List UInt8) && (t185 == 0))))) = true then (if t186 = true then (tmesislaw06_shown.j0 k (!bt188.2.2.2.2.2)) else (tmesislaw06_shown.j0 k false)) else (tmesislaw06_shown.j0 k false)) else (tmesislaw06_shown.j0 k false)) else (tmesislaw06_shown.j0 k false)) else (tmesislaw06_shown.j0 k false)) else (tmesislaw06_shown.j0 k false))) = some r := H
 obtain ⟨⟨t188, t189, t190, t191, t192, t193⟩, A4, H⟩ := bE H
 replace H : (if t167 = 2 then (if t172 = true then (if (t174 == 7 && (t175 == 3 && (t176 == 4 && (t177.toList == ([46] : List UInt8) && (t178 == 0))))) = true then (if t179 = true then (if (t181 == 3 && (t182 == 5 && (t183 == 6 && (t184.toList == ([88] : List UInt8) && (t185 == 0))))) = true then (if t186 = true then (tmesislaw06_shown.j0 k (!t193)) else (tmesislaw06_shown.j0 k false)) else (tmesislaw06_shown.j0 k false)) else (tmesislaw06_shown.j0 k false)) else (tmesislaw06_shown.j0 k false)) else (tmesislaw06_shown.j0 k false)) else (tmesislaw06_shown.j0 k false)) = some r := H
 have HC5 := Aside0.mk H
 clear H
 go_enter Tryd.func9, Tryd.ntmps9
 go_upto_region 6 with (first | ((with_reducible refine gate_dst (N := 10) rfl ?_); refine V_litsG _ 5 ?hg (N := 10) ?hd (xs := ([97, 46, 98, 46, 32, 88] : List Int)) ?hr ?hw2 ?hr2 (Below.refl _ _) (Nat.le_refl _) (by simp) ?_; (case hd => rfl); (case hg => rfl); (case hr => intro W_; first | (go_simp; done) | (go_simp; rfl)); (case hw2 => rfl); (case hr2 => intro W_; go_simp; rw [run_convert_lit _ 22 5 _ _ _ Tryd.underlying22 Tryd.underlying5]; rfl); intro v165 w6 ho7 hb hg_ hnew_; clear hg_ hnew_; (first | rw [← Ny164.out] at ho7 | (simp only [Int.reduceToNat] at ho7; rw [← Ny164.out] at ho7)); have HO166 := Aside0.mk (Kd.V_lower (Kd.V_mono (ok' := fun k_ => True) ho7 (fun k_ hk_ => trivial)) (below_size (bAt HB.out))); replace HB := Aside0.mk (below_step (bAt HB.out) hb); clear hb ho7; obtain ⟨Ao8, co8, eo8⟩ := Kd.V_slice HO166.out; subst eo8) | ((with_reducible refine gate_callee (f := 11) rfl ?_); refine gL (some 14) Tryd.func11 #[.slice Ao8 y164.length co8, .int .i64 1] rfl gA ?_; (with_reducible refine (token_Next.calls k _ _ y164 1 t167 t168 t169 t170 t171 t172 _ ?side1 ?side2 ?side3 A1.out).mono ?_); (case side1 => exact Gl.below HG.out (bAt HB.out)); (case side2 => exact CAt ((Kd.V_reads' HO166.out).2.2)); (case side3 => exact (Kd.V_reads' HO166.out).2.1); rintro e w9 ⟨rfl, hb⟩; refine ⟨_, rfl, ?_⟩; replace HO166 := Aside0.mk (Kd.V_below (VAt HO166.out) hb); replace HB := Aside0.mk (below_step (bAt HB.out) hb); (try clear hb); (try clear hb2); (try clear hk); (try clear hi)) | ((with_reducible refine gate_dst (N := 2) rfl ?_); refine box_event ?hg (N := 2) ?hd (cs := #[.int .i64 0, .int .i64 0, .int .i64 0, .string (⟨#[]⟩ : ByteArray), .int .i64 0]) (t := 27) ?hr ?_; (case hd => rfl); (case hg => rfl); (case hr => first | (go_simp; done) | (go_simp; rfl)); intro gb173 hg w10 hbox hb; replace HO166 := Aside0.mk (Kd.V_below (Kd.V_elderB (VAt HO166.out) gb173 (Nat.le_of_eq hg.symm)) hb); have BK173 := Aside0.mk (hbox); have GW173 := Aside0.mk (gE (g := gb173) hg HB.out); have GE173 := Aside0.mk (gE (g := gb173) hg HB.out); replace HB := Aside0.mk (below_step (bAt HB.out) hb); clear hb hbox hg; obtain ⟨hcz11_0, hcz11_1, hcz11_2, hcz11_3, hcz11_4, hfz11_0, hfz11_1, hfz11_2, hfz11_3, hfz11_4⟩ := blk5 BK173.out) | ((with_reducible refine gate_callee (f := 11) rfl ?_); refine gL (some 19) Tryd.func11 #[.slice Ao8 y164.length co8, .int .i64 3] rfl gA ?_; (with_reducible refine (token_Next.calls k _ _ y164 3 t174 t175 t176 t177 t178 t179 _ ?side1 ?side2 ?side3 A2.out).mono ?_); (case side1 => exact Gl.below HG.out (bAt HB.out)); (case side2 => refine (Kd.V_reads' (e := 5) (base := w.heap.size) (ok := fun k_ => (True ∧ k_ ≠ gb173)) (n := y164.length) (c := co8) ?_).2.2; exact (VAt (Kd.V_mono (Kd.V_far (p := ⟨gb173, 4, none⟩) (Kd.V_far (p := ⟨gb173, 3, none⟩) (Kd.V_far (p := ⟨gb173, 2, none⟩) (Kd.V_far (p := ⟨gb173, 1, none⟩) (Kd.V_far (p := ⟨gb173, 0, none⟩) (Kd.V_mono HO166.out (fun k_ hk => (⟨hk, hk.2⟩ : _ ∧ k_ ≠ gb173))) (fun _ hk => hk.2) (.int .i64 t167)) (fun _ hk => hk.2) (.int .i64 t168)) (fun _ hk => hk.2) (.int .i64 t169)) (fun _ hk => hk.2) (.string t170)) (fun _ hk => hk.2) (.int .i64 t171)) (fun _ h_ => h_.1)))); (case side3 => exact (Kd.V_reads' HO166.out).2.1); rintro e w12 ⟨rfl, hb⟩; refine ⟨_, rfl, ?_⟩; replace HO166 := Aside0.mk (Kd.V_below (VAt (Kd.V_mono (Kd.V_far (p := ⟨gb173, 4, none⟩) (Kd.V_far (p := ⟨gb173, 3, none⟩) (Kd.V_far (p := ⟨gb173, 2, none⟩) (Kd.V_far (p := ⟨gb173, 1, none⟩) (Kd.V_far (p := ⟨gb173, 0, none⟩) (Kd.V_mono HO166.out (fun k_ hk => (⟨hk, hk.2⟩ : _ ∧ k_ ≠ gb173))) (fun _ hk => hk.2) (.int .i64 t167)) (fun _ hk => hk.2) (.int .i64 t168)) (fun _ hk => hk.2) (.int .i64 t169)) (fun _ hk => hk.2) (.string t170)) (fun _ hk => hk.2) (.int .i64 t171)) (fun _ h_ => h_.1))) hb); replace BK173 := Aside0.mk (blk_below (g := gb173) (o := .cells #[.int .i64 t167, .int .i64 t168, .int .i64 t169, .string t170, .int .i64 t171] 27 (0, 0)) (by refine bP #[.int .i64 t167, .int .i64 t168, .int .i64 t169, .string t170, .int .i64 0] 4 ?_; refine bP #[.int .i64 t167, .int .i64 t168, .int .i64 t169, .string (⟨#[]⟩ : ByteArray), .int .i64 0] 3 ?_; refine bP #[.int .i64 t167, .int .i64 t168, .int .i64 0, .string (⟨#[]⟩ : ByteArray), .int .i64 0] 2 ?_; refine bP #[.int .i64 t167, .int .i64 0, .int .i64 0, .string (⟨#[]⟩ : ByteArray), .int .i64 0] 1 ?_; refine bP #[.int .i64 0, .int .i64 0, .int .i64 0, .string (⟨#[]⟩ : ByteArray), .int .i64 0] 0 ?_; (with_reducible repeat (first | refine blk_drewN ?_ _ | refine blk_drew ?_ | refine blk_alloc ?_ _)); exact BK173.out) hb); replace HB := Aside0.mk (below_step (bAt HB.out) hb); (try clear hb); (try clear hb2); (try clear hk); (try clear hi)) | ((with_reducible refine gate_dst (N := 4) rfl ?_); refine box_event ?hg (N := 4) ?hd (cs := #[.int .i64 0, .int .i64 0, .int .i64 0, .string (⟨#[]⟩ : ByteArray), .int .i64 0]) (t := 27) ?hr ?_; (case hd => rfl); (case hg => rfl); (case hr => first | (go_simp; done) | (go_simp; rfl)); intro gb180 hg w13 hbox hb; replace HO166 := Aside0.mk (Kd.V_below (Kd.V_elderB (VAt HO166.out) gb180 (Nat.le_of_eq hg.symm)) hb); have BK180 := Aside0.mk (hbox); have GW180 := Aside0.mk (gE (g := gb180) hg HB.out); have GE180 := Aside0.mk (gE (g := gb180) hg HB.out); replace HB := Aside0.mk (below_step (bAt HB.out) hb); have NB173_180 := Aside0.mk ((by rw [hg]; exact Nat.ne_of_lt (blk_lt (g := gb173) (o := .cells #[.int .i64 t167, .int .i64 t168, .int .i64 t169, .string t170, .int .i64 t171] 27 (0, 0)) (kAt BK173.out)) : gb173 ≠ gb180)); have NB180_173 := Aside0.mk ((by rw [hg]; exact Nat.ne_of_gt (blk_lt (g := gb173) (o := .cells #[.int .i64 t167, .int .i64 t168, .int .i64 t169, .string t170, .int .i64 t171] 27 (0, 0)) (kAt BK173.out)) : gb180 ≠ gb173)); replace BK173 := Aside0.mk (blk_below (g := gb173) (o := .cells #[.int .i64 t167, .int .i64 t168, .int .i64 t169, .string t170, .int .i64 t171] 27 (0, 0)) (kAt BK173.out) hb); clear hb hbox hg; have hnb14 := NB180_173.out; have hnc14 := NB173_180.out; obtain ⟨hcz15_0, hcz15_1, hcz15_2, hcz15_3, hcz15_4, hfz15_0, hfz15_1, hfz15_2, hfz15_3, hfz15_4⟩ := blk5 BK180.out) | ((with_reducible refine gate_callee (f := 11) rfl ?_); refine gL (some 24) Tryd.func11 #[.slice Ao8 y164.length co8, .int .i64 4] rfl gA ?_; (with_reducible refine (token_Next.calls k _ _ y164 4 t181 t182 t183 t184 t185 t186 _ ?side1 ?side2 ?side3 A3.out).mono ?_); (case side1 => exact Gl.below HG.out (bAt HB.out)); (case side2 => refine (Kd.V_reads' (e := 5) (base := w.heap.size) (ok := fun k_ => ((True ∧ k_ ≠ gb173) ∧ k_ ≠ gb180)) (n := y164.length) (c := co8) ?_).2.2; exact (VAt (Kd.V_mono (Kd.V_far (p := ⟨gb180, 4, none⟩) (Kd.V_far (p := ⟨gb180, 3, none⟩) (Kd.V_far (p := ⟨gb180, 2, none⟩) (Kd.V_far (p := ⟨gb180, 1, none⟩) (Kd.V_far (p := ⟨gb180, 0, none⟩) (Kd.V_mono HO166.out (fun k_ hk => (⟨hk, hk.2⟩ : _ ∧ k_ ≠ gb180))) (fun _ hk => hk.2) (.int .i64 t174)) (fun _ hk => hk.2) (.int .i64 t175)) (fun _ hk => hk.2) (.int .i64 t176)) (fun _ hk => hk.2) (.string t177)) (fun _ hk => hk.2) (.int .i64 t178)) (fun _ h_ => h_.1)))); (case side3 => exact (Kd.V_reads' HO166.out).2.1); rintro e w16 ⟨rfl, hb⟩; refine ⟨_, rfl, ?_⟩; replace HO166 := Aside0.mk (Kd.V_below (VAt (Kd.V_mono (Kd.V_far (p := ⟨gb180, 4, none⟩) (Kd.V_far (p := ⟨gb180, 3, none⟩) (Kd.V_far (p := ⟨gb180, 2, none⟩) (Kd.V_far (p := ⟨gb180, 1, none⟩) (Kd.V_far (p := ⟨gb180, 0, none⟩) (Kd.V_mono HO166.out (fun k_ hk => (⟨hk, hk.2⟩ : _ ∧ k_ ≠ gb180))) (fun _ hk => hk.2) (.int .i64 t174)) (fun _ hk => hk.2) (.int .i64 t175)) (fun _ hk => hk.2) (.int .i64 t176)) (fun _ hk => hk.2) (.string t177)) (fun _ hk => hk.2) (.int .i64 t178)) (fun _ h_ => h_.1))) hb); replace BK173 := Aside0.mk (blk_below (g := gb173) (o := .cells #[.int .i64 t167, .int .i64 t168, .int .i64 t169, .string t170, .int .i64 t171] 27 (0, 0)) (by (with_reducible repeat (first | refine blk_drewN ?_ _ | refine blk_drew ?_ | refine blk_alloc ?_ _)); refine blk_far ?_ NB173_180.out _; (with_reducible repeat (first | refine blk_drewN ?_ _ | refine blk_drew ?_ | refine blk_alloc ?_ _)); refine blk_far ?_ NB173_180.out _; (with_reducible repeat (first | refine blk_drewN ?_ _ | refine blk_drew ?_ | refine blk_alloc ?_ _)); refine blk_far ?_ NB173_180.out _; (with_reducible repeat (first | refine blk_drewN ?_ _ | refine blk_drew ?_ | refine blk_alloc ?_ _)); refine blk_far ?_ NB173_180.out _; (with_reducible repeat (first | refine blk_drewN ?_ _ | refine blk_drew ?_ | refine blk_alloc ?_ _)); refine blk_far ?_ NB173_180.out _; (with_reducible repeat (first | refine blk_drewN ?_ _ | refine blk_drew ?_ | refine blk_alloc ?_ _)); exact BK173.out) hb); replace BK180 := Aside0.mk (blk_below (g := gb180) (o := .cells #[.int .i64 t174, .int .i64 t175, .int .i64 t176, .string t177, .int .i64 t178] 27 (0, 0)) (by refine bP #[.int .i64 t174, .int .i64 t175, .int .i64 t176, .string t177, .int .i64 0] 4 ?_; refine bP #[.int .i64 t174, .int .i64 t175, .int .i64 t176, .string (⟨#[]⟩ : ByteArray), .int .i64 0] 3 ?_; refine bP #[.int .i64 t174, .int .i64 t175, .int .i64 0, .string (⟨#[]⟩ : ByteArray), .int .i64 0] 2 ?_; refine bP #[.int .i64 t174, .int .i64 0, .int .i64 0, .string (⟨#[]⟩ : ByteArray), .int .i64 0] 1 ?_; refine bP #[.int .i64 0, .int .i64 0, .int .i64 0, .string (⟨#[]⟩ : ByteArray), .int .i64 0] 0 ?_; (with_reducible repeat (first | refine blk_drewN ?_ _ | refine blk_drew ?_ | refine blk_alloc ?_ _)); exact BK180.out) hb); replace HB := Aside0.mk (below_step (bAt HB.out) hb); (try clear hb); (try clear hb2); (try clear hk); (try clear hi)) | ((with_reducible refine gate_dst (N := 6) rfl ?_); refine box_event ?hg (N := 6) ?hd (cs := #[.int .i64 0, .int .i64 0, .int .i64 0, .string (⟨#[]⟩ : ByteArray), .int .i64 0]) (t := 27) ?hr ?_; (case hd => rfl); (case hg => rfl); (case hr => first | (go_simp; done) | (go_simp; rfl)); intro gb187 hg w17 hbox hb; replace HO166 := Aside0.mk (Kd.V_below (Kd.V_elderB (VAt HO166.out) gb187 (Nat.le_of_eq hg.symm)) hb); have BK187 := Aside0.mk (hbox); have GW187 := Aside0.mk (gE (g := gb187) hg HB.out); have GE187 := Aside0.mk (gE (g := gb187) hg HB.out); replace HB := Aside0.mk (below_step (bAt HB.out) hb); have NB173_187 := Aside0.mk ((by rw [hg]; exact Nat.ne_of_lt (blk_lt (g := gb173) (o := .cells #[.int .i64 t167, .int .i64 t168, .int .i64 t169, .string t170, .int .i64 t171] 27 (0, 0)) (kAt BK173.out)) : gb173 ≠ gb187)); have NB187_173 := Aside0.mk ((by rw [hg]; exact Nat.ne_of_gt (blk_lt (g := gb173) (o := .cells #[.int .i64 t167, .int .i64 t168, .int .i64 t169, .string t170, .int .i64 t171] 27 (0, 0)) (kAt BK173.out)) : gb187 ≠ gb173)); replace BK173 := Aside0.mk (blk_below (g := gb173) (o := .cells #[.int .i64 t167, .int .i64 t168, .int .i64 t169, .string t170, .int .i64 t171] 27 (0, 0)) (kAt BK173.out) hb); have NB180_187 := Aside0.mk ((by rw [hg]; exact Nat.ne_of_lt (blk_lt (g := gb180) (o := .cells #[.int .i64 t174, .int .i64 t175, .int .i64 t176, .string t177, .int .i64 t178] 27 (0, 0)) (kAt BK180.out)) : gb180 ≠ gb187)); have NB187_180 := Aside0.mk ((by rw [hg]; exact Nat.ne_of_gt (blk_lt (g := gb180) (o := .cells #[.int .i64 t174, .int .i64 t175, .int .i64 t176, .string t177, .int .i64 t178] 27 (0, 0)) (kAt BK180.out)) : gb187 ≠ gb180)); replace BK180 := Aside0.mk (blk_below (g := gb180) (o := .cells #[.int .i64 t174, .int .i64 t175, .int .i64 t176, .string t177, .int .i64 t178] 27 (0, 0)) (kAt BK180.out) hb); clear hb hbox hg; have hnb18 := NB187_173.out; have hnc18 := NB173_187.out; have hnb19 := NB187_180.out; have hnc19 := NB180_187.out; obtain ⟨hcz20_0, hcz20_1, hcz20_2, hcz20_3, hcz20_4, hfz20_0, hfz20_1, hfz20_2, hfz20_3, hfz20_4⟩ := blk5 BK187.out) | ((with_reducible refine gate_callee (f := 11) rfl ?_); refine gL (some 29) Tryd.func11 #[.slice Ao8 y164.length co8, .int .i64 6] rfl gA ?_; (with_reducible refine (token_Next.calls k _ _ y164 6 t188 t189 t190 t191 t192 t193 _ ?side1 ?side2 ?side3 A4.out).mono ?_); (case side1 => exact Gl.below HG.out (bAt HB.out)); (case side2 => refine (Kd.V_reads' (e := 5) (base := w.heap.size) (ok := fun k_ => (((True ∧ k_ ≠ gb173) ∧ k_ ≠ gb180) ∧ k_ ≠ gb187)) (n := y164.length) (c := co8) ?_).2.2; exact (VAt (Kd.V_mono (Kd.V_far (p := ⟨gb187, 4, none⟩) (Kd.V_far (p := ⟨gb187, 3, none⟩) (Kd.V_far (p := ⟨gb187, 2, none⟩) (Kd.V_far (p := ⟨gb187, 1, none⟩) (Kd.V_far (p := ⟨gb187, 0, none⟩) (Kd.V_mono HO166.out (fun k_ hk => (⟨hk, hk.2⟩ : _ ∧ k_ ≠ gb187))) (fun _ hk => hk.2) (.int .i64 t181)) (fun _ hk => hk.2) (.int .i64 t182)) (fun _ hk => hk.2) (.int .i64 t183)) (fun _ hk => hk.2) (.string t184)) (fun _ hk => hk.2) (.int .i64 t185)) (fun _ h_ => h_.1)))); (case side3 => exact (Kd.V_reads' HO166.out).2.1); rintro e w21 ⟨rfl, hb⟩; refine ⟨_, rfl, ?_⟩; replace HO166 := Aside0.mk (Kd.V_below (VAt (Kd.V_mono (Kd.V_far (p := ⟨gb187, 4, none⟩) (Kd.V_far (p := ⟨gb187, 3, none⟩) (Kd.V_far (p := ⟨gb187, 2, none⟩) (Kd.V_far (p := ⟨gb187, 1, none⟩) (Kd.V_far (p := ⟨gb187, 0, none⟩) (Kd.V_mono HO166.out (fun k_ hk => (⟨hk, hk.2⟩ : _ ∧ k_ ≠ gb187))) (fun _ hk => hk.2) (.int .i64 t181)) (fun _ hk => hk.2) (.int .i64 t182)) (fun _ hk => hk.2) (.int .i64 t183)) (fun _ hk => hk.2) (.string t184)) (fun _ hk => hk.2) (.int .i64 t185)) (fun _ h_ => h_.1))) hb); replace BK173 := Aside0.mk (blk_below (g := gb173) (o := .cells #[.int .i64 t167, .int .i64 t168, .int .i64 t169, .string t170, .int .i64 t171] 27 (0, 0)) (by (with_reducible repeat (first | refine blk_drewN ?_ _ | refine blk_drew ?_ | refine blk_alloc ?_ _)); refine blk_far ?_ NB173_187.out _; (with_reducible repeat (first | refine blk_drewN ?_ _ | refine blk_drew ?_ | refine blk_alloc ?_ _)); refine blk_far ?_ NB173_187.out _; (with_reducible repeat (first | refine blk_drewN ?_ _ | refine blk_drew ?_ | refine blk_alloc ?_ _)); refine blk_far ?_ NB173_187.out _; (with_reducible repeat (first | refine blk_drewN ?_ _ | refine blk_drew ?_ | refine blk_alloc ?_ _)); refine blk_far ?_ NB173_187.out _; (with_reducible repeat (first | refine blk_drewN ?_ _ | refine blk_drew ?_ | refine blk_alloc ?_ _)); refine blk_far ?_ NB173_187.out _; (with_reducible repeat (first | refine blk_drewN ?_ _ | refine blk_drew ?_ | refine blk_alloc ?_ _)); exact BK173.out) hb); replace BK180 := Aside0.mk (blk_below (g := gb180) (o := .cells #[.int .i64 t174, .int .i64 t175, .int .i64 t176, .string t177, .int .i64 t178] 27 (0, 0)) (by (with_reducible repeat (first | refine blk_drewN ?_ _ | refine blk_drew ?_ | refine blk_alloc ?_ _)); refine blk_far ?_ NB180_187.out _; (with_reducible repeat (first | refine blk_drewN ?_ _ | refine blk_drew ?_ | refine blk_alloc ?_ _)); refine blk_far ?_ NB180_187.out _; (with_reducible repeat (first | refine blk_drewN ?_ _ | refine blk_drew ?_ | refine blk_alloc ?_ _)); refine blk_far ?_ NB180_187.out _; (with_reducible repeat (first | refine blk_drewN ?_ _ | refine blk_drew ?_ | refine blk_alloc ?_ _)); refine blk_far ?_ NB180_187.out _; (with_reducible repeat (first | refine blk_drewN ?_ _ | refine blk_drew ?_ | refine blk_alloc ?_ _)); refine blk_far ?_ NB180_187.out _; (with_reducible repeat (first | refine blk_drewN ?_ _ | refine blk_drew ?_ | refine blk_alloc ?_ _)); exact BK180.out) hb); replace BK187 := Aside0.mk (blk_below (g := gb187) (o := .cells #[.int .i64 t181, .int .i64 t182, .int .i64 t183, .string t184, .int .i64 t185] 27 (0, 0)) (by refine bP #[.int .i64 t181, .int .i64 t182, .int .i64 t183, .string t184, .int .i64 0] 4 ?_; refine bP #[.int .i64 t181, .int .i64 t182, .int .i64 t183, .string (⟨#[]⟩ : ByteArray), .int .i64 0] 3 ?_; refine bP #[.int .i64 t181, .int .i64 t182, .int .i64 0, .string (⟨#[]⟩ : ByteArray), .int .i64 0] 2 ?_; refine bP #[.int .i64 t181, .int .i64 0, .int .i64 0, .string (⟨#[]⟩ : ByteArray), .int .i64 0] 1 ?_; refine bP #[.int .i64 0, .int .i64 0, .int .i64 0, .string (⟨#[]⟩ : ByteArray), .int .i64 0] 0 ?_; (with_reducible repeat (first | refine blk_drewN ?_ _ | refine blk_drew ?_ | refine blk_alloc ?_ _)); exact BK187.out) hb); replace HB := Aside0.mk (below_step (bAt HB.out) hb); (try clear hb); (try clear hb2); (try clear hk); (try clear hi)) | ((with_reducible refine gate_dst (N := 8) rfl ?_); refine box_event ?hg (N := 8) ?hd (cs := #[.int .i64 0, .int .i64 0, .int .i64 0, .string (⟨#[]⟩ : ByteArray), .int .i64 0]) (t := 27) ?hr ?_; (case hd => rfl); (case hg => rfl); (case hr => first | (go_simp; done) | (go_simp; rfl)); intro gb194 hg w22 hbox hb; replace HO166 := Aside0.mk (Kd.V_below (Kd.V_elderB (VAt HO166.out) gb194 (Nat.le_of_eq hg.symm)) hb); have BK194 := Aside0.mk (hbox); have GW194 := Aside0.mk (gE (g := gb194) hg HB.out); have GE194 := Aside0.mk (gE (g := gb194) hg HB.out); replace HB := Aside0.mk (below_step (bAt HB.out) hb); have NB173_194 := Aside0.mk ((by rw [hg]; exact Nat.ne_of_lt (blk_lt (g := gb173) (o := .cells #[.int .i64 t167, .int .i64 t168, .int .i64 t169, .string t170, .int .i64 t171] 27 (0, 0)) (kAt BK173.out)) : gb173 ≠ gb194)); have NB194_173 := Aside0.mk ((by rw [hg]; exact Nat.ne_of_gt (blk_lt (g := gb173) (o := .cells #[.int .i64 t167, .int .i64 t168, .int .i64 t169, .string t170, .int .i64 t171] 27 (0, 0)) (kAt BK173.out)) : gb194 ≠ gb173)); replace BK173 := Aside0.mk (blk_below (g := gb173) (o := .cells #[.int .i64 t167, .int .i64 t168, .int .i64 t169, .string t170, .int .i64 t171] 27 (0, 0)) (kAt BK173.out) hb); have NB180_194 := Aside0.mk ((by rw [hg]; exact Nat.ne_of_lt (blk_lt (g := gb180) (o := .cells #[.int .i64 t174, .int .i64 t175, .int .i64 t176, .string t177, .int .i64 t178] 27 (0, 0)) (kAt BK180.out)) : gb180 ≠ gb194)); have NB194_180 := Aside0.mk ((by rw [hg]; exact Nat.ne_of_gt (blk_lt (g := gb180) (o := .cells #[.int .i64 t174, .int .i64 t175, .int .i64 t176, .string t177, .int .i64 t178] 27 (0, 0)) (kAt BK180.out)) : gb194 ≠ gb180)); replace BK180 := Aside0.mk (blk_below (g := gb180) (o := .cells #[.int .i64 t174, .int .i64 t175, .int .i64 t176, .string t177, .int .i64 t178] 27 (0, 0)) (kAt BK180.out) hb); have NB187_194 := Aside0.mk ((by rw [hg]; exact Nat.ne_of_lt (blk_lt (g := gb187) (o := .cells #[.int .i64 t181, .int .i64 t182, .int .i64 t183, .string t184, .int .i64 t185] 27 (0, 0)) (kAt BK187.out)) : gb187 ≠ gb194)); have NB194_187 := Aside0.mk ((by rw [hg]; exact Nat.ne_of_gt (blk_lt (g := gb187) (o := .cells #[.int .i64 t181, .int .i64 t182, .int .i64 t183, .string t184, .int .i64 t185] 27 (0, 0)) (kAt BK187.out)) : gb194 ≠ gb187)); replace BK187 := Aside0.mk (blk_below (g := gb187) (o := .cells #[.int .i64 t181, .int .i64 t182, .int .i64 t183, .string t184, .int .i64 t185] 27 (0, 0)) (kAt BK187.out) hb); clear hb hbox hg; have hnb23 := NB194_173.out; have hnc23 := NB173_194.out; have hnb24 := NB194_180.out; have hnc24 := NB180_194.out; have hnb25 := NB194_187.out; have hnc25 := NB187_194.out; obtain ⟨hcz26_0, hcz26_1, hcz26_2, hcz26_3, hcz26_4, hfz26_0, hfz26_1, hfz26_2, hfz26_3, hfz26_4⟩ := blk5 BK194.out))
 (try simp only [Act.put, List.setIfInBounds_toArray, List.set_cons_zero, List.set_cons_succ])
 go_cut [0] (fun v0 wc => ∃ (kq : Nat) (x0_4 : Bool), v0 = .bool x0_4 ∧ Aside0 (tmesislaw06_shown.j0 kq x0_4 = some r) ∧ Aside0 (kq ≤ k) ∧ Aside0 (wc.heap[gb173]? = some (.cells #[.int .i64 t167, .int .i64 t168, .int .i64 t169, .string t170, .int .i64 t171] 27 (0, 0))) ∧ Aside0 (wc.heap[gb180]? = some (.cells #[.int .i64 t174, .int .i64 t175, .int .i64 t176, .string t177, .int .i64 t178] 27 (0, 0))) ∧ Aside0 (wc.heap[gb187]? = some (.cells #[.int .i64 t181, .int .i64 t182, .int .i64 t183, .string t184, .int .i64 t185] 27 (0, 0))) ∧ Aside0 (wc.heap[gb194]? = some (.cells #[.int .i64 t188, .int .i64 t189, .int .i64 t190, .string t191, .int .i64 t192] 27 (0, 0))) ∧ Aside0 (Below w.heap.size w wc))
 case first =>
  have H := HC5.out
  clear HC5
  by_cases c27 : t167 = 2
  ·rw [if_pos c27] at H
   obtain ⟨c27b0, c27b1⟩ := eqB c27
   clear c27
   (first | rw [c27b0] | (simp only [i64_w, i32_w]; rw [c27b0]) | skip)
   by_cases c28 : t172 = true
   ·subst c28
    replace H := tP H
    by_cases c29 : (t174 == 7 && (t175 == 3 && (t176 == 4 && (t177.toList == ([46] : List UInt8) && (t178 == 0))))) = true
    ·rw [if_pos c29] at H
     have c29b0 : (t174 == 7 && (t175 == 3 && (t176 == 4 && (t177.toList == ([46] : List UInt8) && (t178 == 0))))) = true := c29
     (try (have c29b1 : decide (t174 = 7 && (t175 == 3 && (t176 == 4 && (t177.toList == ([46] : List UInt8) && (t178 == 0))))) = true := by simpa using c29))
     (try (have c29b2 : (t174 == 7 && (t175 == 3 && (t176 == 4 && (t177.toList == ([46] : List UInt8) && (t178 == 0))))) = true := by simpa using c29))
     clear c29
     by_cases c30 : t179 = true
     ·subst c30
      replace H := tP H
      by_cases c31 : (t181 == 3 && (t182 == 5 && (t183 == 6 && (t184.toList == ([88] : List UInt8) && (t185 == 0))))) = true
      ·rw [if_pos c31] at H
       have c31b0 : (t181 == 3 && (t182 == 5 && (t183 == 6 && (t184.toList == ([88] : List UInt8) && (t185 == 0))))) = true := c31
       (try (have c31b1 : decide (t181 = 3 && (t182 == 5 && (t183 == 6 && (t184.toList == ([88] : List UInt8) && (t185 == 0))))) = true := by simpa using c31))
       (try (have c31b2 : (t181 == 3 && (t182 == 5 && (t183 == 6 && (t184.toList == ([88] : List UInt8) && (t185 == 0))))) = true := by simpa using c31))
       clear c31
       by_cases c32 : t186 = true
       ·subst c32
        replace H := tP H
        have H' := Aside0.mk H
        clear H
        have hnb33 := NB173_180.out
        have hnc33 := NB180_173.out
        have hnb34 := NB173_187.out
        have hnc34 := NB187_173.out
        have hnb35 := NB173_194.out
        have hnc35 := NB194_173.out
        obtain ⟨hcz36_0, hcz36_1, hcz36_2, hcz36_3, hcz36_4, hfz36_0, hfz36_1, hfz36_2, hfz36_3, hfz36_4⟩ := blk5 BK173.out
        have hnb37 := NB180_187.out
        have hnc37 := NB187_180.out
        have hnb38 := NB180_194.out
        have hnc38 := NB194_180.out
        obtain ⟨hcz39_0, hcz39_1, hcz39_2, hcz39_3, hcz39_4, hfz39_0, hfz39_1, hfz39_2, hfz39_3, hfz39_4⟩ := blk5 BK180.out
        have hnb40 := NB187_194.out
        have hnc40 := NB194_187.out
        obtain ⟨hcz41_0, hcz41_1, hcz41_2, hcz41_3, hcz41_4, hfz41_0, hfz41_1, hfz41_2, hfz41_3, hfz41_4⟩ := blk5 BK187.out
        go_wp2
        go_meet
        case rel => exact ⟨_, (!t193), sR, H', ⟨by first | omega | exact Nat.le_refl _⟩, ⟨by (with_reducible repeat (first | refine blk_drewN ?_ _ | refine blk_drew ?_ | refine blk_alloc ?_ _)); refine blk_far ?_ NB173_194.out _; (with_reducible repeat (first | refine blk_drewN ?_ _ | refine blk_drew ?_ | refine blk_alloc ?_ _)); refine blk_far ?_ NB173_194.out _; (with_reducible repeat (first | refine blk_drewN ?_ _ | refine blk_drew ?_ | refine blk_alloc ?_ _)); refine blk_far ?_ NB173_194.out _; (with_reducible repeat (first | refine blk_drewN ?_ _ | refine blk_drew ?_ | refine blk_alloc ?_ _)); refine blk_far ?_ NB173_194.out _; (with_reducible repeat (first | refine blk_drewN ?_ _ | refine blk_drew ?_ | refine blk_alloc ?_ _)); refine blk_far ?_ NB173_194.out _; (with_reducible repeat (first | refine blk_drewN ?_ _ | refine blk_drew ?_ | refine blk_alloc ?_ _)); exact BK173.out⟩, ⟨by (with_reducible repeat (first | refine blk_drewN ?_ _ | refine blk_drew ?_ | refine blk_alloc ?_ _)); refine blk_far ?_ NB180_194.out _; (with_reducible repeat (first | refine blk_drewN ?_ _ | refine blk_drew ?_ | refine blk_alloc ?_ _)); refine blk_far ?_ NB180_194.out _; (with_reducible repeat (first | refine blk_drewN ?_ _ | refine blk_drew ?_ | refine blk_alloc ?_ _)); refine blk_far ?_ NB180_194.out _; (with_reducible repeat (first | refine blk_drewN ?_ _ | refine blk_drew ?_ | refine blk_alloc ?_ _)); refine blk_far ?_ NB180_194.out _; (with_reducible repeat (first | refine blk_drewN ?_ _ | refine blk_drew ?_ | refine blk_alloc ?_ _)); refine blk_far ?_ NB180_194.out _; (with_reducible repeat (first | refine blk_drewN ?_ _ | refine blk_drew ?_ | refine blk_alloc ?_ _)); exact BK180.out⟩, ⟨by (with_reducible repeat (first | refine blk_drewN ?_ _ | refine blk_drew ?_ | refine blk_alloc ?_ _)); refine blk_far ?_ NB187_194.out _; (with_reducible repeat (first | refine blk_drewN ?_ _ | refine blk_drew ?_ | refine blk_alloc ?_ _)); refine blk_far ?_ NB187_194.out _; (with_reducible repeat (first | refine blk_drewN ?_ _ | refine blk_drew ?_ | refine blk_alloc ?_ _)); refine blk_far ?_ NB187_194.out _; (with_reducible repeat (first | refine blk_drewN ?_ _ | refine blk_drew ?_ | refine blk_alloc ?_ _)); refine blk_far ?_ NB187_194.out _; (with_reducible repeat (first | refine blk_drewN ?_ _ | refine blk_drew ?_ | refine blk_alloc ?_ _)); refine blk_far ?_ NB187_194.out _; (with_reducible repeat (first | refine blk_drewN ?_ _ | refine blk_drew ?_ | refine blk_alloc ?_ _)); exact BK187.out⟩, ⟨by refine bP #[.int .i64 t188, .int .i64 t189, .int .i64 t190, .string t191, .int .i64 0] 4 ?_; refine bP #[.int .i64 t188, .int .i64 t189, .int .i64 t190, .string (⟨#[]⟩ : ByteArray), .int .i64 0] 3 ?_; refine bP #[.int .i64 t188, .int .i64 t189, .int .i64 0, .string (⟨#[]⟩ : ByteArray), .int .i64 0] 2 ?_; refine bP #[.int .i64 t188, .int .i64 0, .int .i64 0, .string (⟨#[]⟩ : ByteArray), .int .i64 0] 1 ?_; refine bP #[.int .i64 0, .int .i64 0, .int .i64 0, .string (⟨#[]⟩ : ByteArray), .int .i64 0] 0 ?_; (with_reducible repeat (first | refine blk_drewN ?_ _ | refine blk_drew ?_ | refine blk_alloc ?_ _)); exact BK194.out⟩, ⟨bAt HB.out⟩⟩
       ·replace c32 := Bool.eq_false_iff.mpr c32
        subst c32
        replace H := fP H
        have H' := Aside0.mk H
        clear H
        have hnb42 := NB173_180.out
        have hnc42 := NB180_173.out
        have hnb43 := NB173_187.out
        have hnc43 := NB187_173.out
        have hnb44 := NB173_194.out
        have hnc44 := NB194_173.out
        obtain ⟨hcz45_0, hcz45_1, hcz45_2, hcz45_3, hcz45_4, hfz45_0, hfz45_1, hfz45_2, hfz45_3, hfz45_4⟩ := blk5 BK173.out
        have hnb46 := NB180_187.out
        have hnc46 := NB187_180.out
        have hnb47 := NB180_194.out
        have hnc47 := NB194_180.out
        obtain ⟨hcz48_0, hcz48_1, hcz48_2, hcz48_3, hcz48_4, hfz48_0, hfz48_1, hfz48_2, hfz48_3, hfz48_4⟩ := blk5 BK180.out
        have hnb49 := NB187_194.out
        have hnc49 := NB194_187.out
        obtain ⟨hcz50_0, hcz50_1, hcz50_2, hcz50_3, hcz50_4, hfz50_0, hfz50_1, hfz50_2, hfz50_3, hfz50_4⟩ := blk5 BK187.out
        go_wp2
        go_meet
        case rel => exact ⟨_, (false), sR, H', ⟨by first | omega | exact Nat.le_refl _⟩, ⟨by (with_reducible repeat (first | refine blk_drewN ?_ _ | refine blk_drew ?_ | refine blk_alloc ?_ _)); refine blk_far ?_ NB173_194.out _; (with_reducible repeat (first | refine blk_drewN ?_ _ | refine blk_drew ?_ | refine blk_alloc ?_ _)); refine blk_far ?_ NB173_194.out _; (with_reducible repeat (first | refine blk_drewN ?_ _ | refine blk_drew ?_ | refine blk_alloc ?_ _)); refine blk_far ?_ NB173_194.out _; (with_reducible repeat (first | refine blk_drewN ?_ _ | refine blk_drew ?_ | refine blk_alloc ?_ _)); refine blk_far ?_ NB173_194.out _; (with_reducible repeat (first | refine blk_drewN ?_ _ | refine blk_drew ?_ | refine blk_alloc ?_ _)); refine blk_far ?_ NB173_194.out _; (with_reducible repeat (first | refine blk_drewN ?_ _ | refine blk_drew ?_ | refine blk_alloc ?_ _)); exact BK173.out⟩, ⟨by (with_reducible repeat (first | refine blk_drewN ?_ _ | refine blk_drew ?_ | refine blk_alloc ?_ _)); refine blk_far ?_ NB180_194.out _; (with_reducible repeat (first | refine blk_drewN ?_ _ | refine blk_drew ?_ | refine blk_alloc ?_ _)); refine blk_far ?_ NB180_194.out _; (with_reducible repeat (first | refine blk_drewN ?_ _ | refine blk_drew ?_ | refine blk_alloc ?_ _)); refine blk_far ?_ NB180_194.out _; (with_reducible repeat (first | refine blk_drewN ?_ _ | refine blk_drew ?_ | refine blk_alloc ?_ _)); refine blk_far ?_ NB180_194.out _; (with_reducible repeat (first | refine blk_drewN ?_ _ | refine blk_drew ?_ | refine blk_alloc ?_ _)); refine blk_far ?_ NB180_194.out _; (with_reducible repeat (first | refine blk_drewN ?_ _ | refine blk_drew ?_ | refine blk_alloc ?_ _)); exact BK180.out⟩, ⟨by (with_reducible repeat (first | refine blk_drewN ?_ _ | refine blk_drew ?_ | refine blk_alloc ?_ _)); refine blk_far ?_ NB187_194.out _; (with_reducible repeat (first | refine blk_drewN ?_ _ | refine blk_drew ?_ | refine blk_alloc ?_ _)); refine blk_far ?_ NB187_194.out _; (with_reducible repeat (first | refine blk_drewN ?_ _ | refine blk_drew ?_ | refine blk_alloc ?_ _)); refine blk_far ?_ NB187_194.out _; (with_reducible repeat (first | refine blk_drewN ?_ _ | refine blk_drew ?_ | refine blk_alloc ?_ _)); refine blk_far ?_ NB187_194.out _; (with_reducible repeat (first | refine blk_drewN ?_ _ | refine blk_drew ?_ | refine blk_alloc ?_ _)); refine blk_far ?_ NB187_194.out _; (with_reducible repeat (first | refine blk_drewN ?_ _ | refine blk_drew ?_ | refine blk_alloc ?_ _)); exact BK187.out⟩, ⟨by refine bP #[.int .i64 t188, .int .i64 t189, .int .i64 t190, .string t191, .int .i64 0] 4 ?_; refine bP #[.int .i64 t188, .int .i64 t189, .int .i64 t190, .string (⟨#[]⟩ : ByteArray), .int .i64 0] 3 ?_; refine bP #[.int .i64 t188, .int .i64 t189, .int .i64 0, .string (⟨#[]⟩ : ByteArray), .int .i64 0] 2 ?_; refine bP #[.int .i64 t188, .int .i64 0, .int .i64 0, .string (⟨#[]⟩ : ByteArray), .int .i64 0] 1 ?_; refine bP #[.int .i64 0, .int .i64 0, .int .i64 0, .string (⟨#[]⟩ : ByteArray), .int .i64 0] 0 ?_; (with_reducible repeat (first | refine blk_drewN ?_ _ | refine blk_drew ?_ | refine blk_alloc ?_ _)); exact BK194.out⟩, ⟨bAt HB.out⟩⟩
      ·rw [if_neg c31] at H
       have c31b0 : (t181 == 3 && (t182 == 5 && (t183 == 6 && (t184.toList == ([88] : List UInt8) && (t185 == 0))))) = false := by simpa using c31
       (try (have c31b1 : decide (t181 = 3 && (t182 == 5 && (t183 == 6 && (t184.toList == ([88] : List UInt8) && (t185 == 0))))) = false := by simpa using c31))
       (try (have c31b2 : (t181 == 3 && (t182 == 5 && (t183 == 6 && (t184.toList == ([88] : List UInt8) && (t185 == 0))))) = false := by simpa using c31))
       (try (have c31b3 : ¬ (t181 = 3 && (t182 == 5 && (t183 == 6 && (t184.toList == ([88] : List UInt8) && (t185 == 0))))) := by simpa using c31))
       clear c31
       have H' := Aside0.mk H
       clear H
       have hnb51 := NB173_180.out
       have hnc51 := NB180_173.out
       have hnb52 := NB173_187.out
       have hnc52 := NB187_173.out
       have hnb53 := NB173_194.out
       have hnc53 := NB194_173.out
       obtain ⟨hcz54_0, hcz54_1, hcz54_2, hcz54_3, hcz54_4, hfz54_0, hfz54_1, hfz54_2, hfz54_3, hfz54_4⟩ := blk5 BK173.out
       have hnb55 := NB180_187.out
       have hnc55 := NB187_180.out
       have hnb56 := NB180_194.out
       have hnc56 := NB194_180.out
       obtain ⟨hcz57_0, hcz57_1, hcz57_2, hcz57_3, hcz57_4, hfz57_0, hfz57_1, hfz57_2, hfz57_3, hfz57_4⟩ := blk5 BK180.out
       have hnb58 := NB187_194.out
       have hnc58 := NB194_187.out
       obtain ⟨hcz59_0, hcz59_1, hcz59_2, hcz59_3, hcz59_4, hfz59_0, hfz59_1, hfz59_2, hfz59_3, hfz59_4⟩ := blk5 BK187.out
       go_wp2
       go_meet
       case rel => exact ⟨_, (false), sR, H', ⟨by first | omega | exact Nat.le_refl _⟩, ⟨by (with_reducible repeat (first | refine blk_drewN ?_ _ | refine blk_drew ?_ | refine blk_alloc ?_ _)); refine blk_far ?_ NB173_194.out _; (with_reducible repeat (first | refine blk_drewN ?_ _ | refine blk_drew ?_ | refine blk_alloc ?_ _)); refine blk_far ?_ NB173_194.out _; (with_reducible repeat (first | refine blk_drewN ?_ _ | refine blk_drew ?_ | refine blk_alloc ?_ _)); refine blk_far ?_ NB173_194.out _; (with_reducible repeat (first | refine blk_drewN ?_ _ | refine blk_drew ?_ | refine blk_alloc ?_ _)); refine blk_far ?_ NB173_194.out _; (with_reducible repeat (first | refine blk_drewN ?_ _ | refine blk_drew ?_ | refine blk_alloc ?_ _)); refine blk_far ?_ NB173_194.out _; (with_reducible repeat (first | refine blk_drewN ?_ _ | refine blk_drew ?_ | refine blk_alloc ?_ _)); exact BK173.out⟩, ⟨by (with_reducible repeat (first | refine blk_drewN ?_ _ | refine blk_drew ?_ | refine blk_alloc ?_ _)); refine blk_far ?_ NB180_194.out _; (with_reducible repeat (first | refine blk_drewN ?_ _ | refine blk_drew ?_ | refine blk_alloc ?_ _)); refine blk_far ?_ NB180_194.out _; (with_reducible repeat (first | refine blk_drewN ?_ _ | refine blk_drew ?_ | refine blk_alloc ?_ _)); refine blk_far ?_ NB180_194.out _; (with_reducible repeat (first | refine blk_drewN ?_ _ | refine blk_drew ?_ | refine blk_alloc ?_ _)); refine blk_far ?_ NB180_194.out _; (with_reducible repeat (first | refine blk_drewN ?_ _ | refine blk_drew ?_ | refine blk_alloc ?_ _)); refine blk_far ?_ NB180_194.out _; (with_reducible repeat (first | refine blk_drewN ?_ _ | refine blk_drew ?_ | refine blk_alloc ?_ _)); exact BK180.out⟩, ⟨by (with_reducible repeat (first | refine blk_drewN ?_ _ | refine blk_drew ?_ | refine blk_alloc ?_ _)); refine blk_far ?_ NB187_194.out _; (with_reducible repeat (first | refine blk_drewN ?_ _ | refine blk_drew ?_ | refine blk_alloc ?_ _)); refine blk_far ?_ NB187_194.out _; (with_reducible repeat (first | refine blk_drewN ?_ _ | refine blk_drew ?_ | refine blk_alloc ?_ _)); refine blk_far ?_ NB187_194.out _; (with_reducible repeat (first | refine blk_drewN ?_ _ | refine blk_drew ?_ | refine blk_alloc ?_ _)); refine blk_far ?_ NB187_194.out _; (with_reducible repeat (first | refine blk_drewN ?_ _ | refine blk_drew ?_ | refine blk_alloc ?_ _)); refine blk_far ?_ NB187_194.out _; (with_reducible repeat (first | refine blk_drewN ?_ _ | refine blk_drew ?_ | refine blk_alloc ?_ _)); exact BK187.out⟩, ⟨by refine bP #[.int .i64 t188, .int .i64 t189, .int .i64 t190, .string t191, .int .i64 0] 4 ?_; refine bP #[.int .i64 t188, .int .i64 t189, .int .i64 t190, .string (⟨#[]⟩ : ByteArray), .int .i64 0] 3 ?_; refine bP #[.int .i64 t188, .int .i64 t189, .int .i64 0, .string (⟨#[]⟩ : ByteArray), .int .i64 0] 2 ?_; refine bP #[.int .i64 t188, .int .i64 0, .int .i64 0, .string (⟨#[]⟩ : ByteArray), .int .i64 0] 1 ?_; refine bP #[.int .i64 0, .int .i64 0, .int .i64 0, .string (⟨#[]⟩ : ByteArray), .int .i64 0] 0 ?_; (with_reducible repeat (first | refine blk_drewN ?_ _ | refine blk_drew ?_ | refine blk_alloc ?_ _)); exact BK194.out⟩, ⟨bAt HB.out⟩⟩
     ·replace c30 := Bool.eq_false_iff.mpr c30
      subst c30
      replace H := fP H
      have H' := Aside0.mk H
      clear H
      have hnb60 := NB173_180.out
      have hnc60 := NB180_173.out
      have hnb61 := NB173_187.out
      have hnc61 := NB187_173.out
      have hnb62 := NB173_194.out
      have hnc62 := NB194_173.out
      obtain ⟨hcz63_0, hcz63_1, hcz63_2, hcz63_3, hcz63_4, hfz63_0, hfz63_1, hfz63_2, hfz63_3, hfz63_4⟩ := blk5 BK173.out
      have hnb64 := NB180_187.out
      have hnc64 := NB187_180.out
      have hnb65 := NB180_194.out
      have hnc65 := NB194_180.out
      obtain ⟨hcz66_0, hcz66_1, hcz66_2, hcz66_3, hcz66_4, hfz66_0, hfz66_1, hfz66_2, hfz66_3, hfz66_4⟩ := blk5 BK180.out
      go_wp2
      go_meet
      case rel => exact ⟨_, (false), sR, H', ⟨by first | omega | exact Nat.le_refl _⟩, ⟨by (with_reducible repeat (first | refine blk_drewN ?_ _ | refine blk_drew ?_ | refine blk_alloc ?_ _)); refine blk_far ?_ NB173_194.out _; (with_reducible repeat (first | refine blk_drewN ?_ _ | refine blk_drew ?_ | refine blk_alloc ?_ _)); refine blk_far ?_ NB173_194.out _; (with_reducible repeat (first | refine blk_drewN ?_ _ | refine blk_drew ?_ | refine blk_alloc ?_ _)); refine blk_far ?_ NB173_194.out _; (with_reducible repeat (first | refine blk_drewN ?_ _ | refine blk_drew ?_ | refine blk_alloc ?_ _)); refine blk_far ?_ NB173_194.out _; (with_reducible repeat (first | refine blk_drewN ?_ _ | refine blk_drew ?_ | refine blk_alloc ?_ _)); refine blk_far ?_ NB173_194.out _; (with_reducible repeat (first | refine blk_drewN ?_ _ | refine blk_drew ?_ | refine blk_alloc ?_ _)); exact BK173.out⟩, ⟨by (with_reducible repeat (first | refine blk_drewN ?_ _ | refine blk_drew ?_ | refine blk_alloc ?_ _)); refine blk_far ?_ NB180_194.out _; (with_reducible repeat (first | refine blk_drewN ?_ _ | refine blk_drew ?_ | refine blk_alloc ?_ _)); refine blk_far ?_ NB180_194.out _; (with_reducible repeat (first | refine blk_drewN ?_ _ | refine blk_drew ?_ | refine blk_alloc ?_ _)); refine blk_far ?_ NB180_194.out _; (with_reducible repeat (first | refine blk_drewN ?_ _ | refine blk_drew ?_ | refine blk_alloc ?_ _)); refine blk_far ?_ NB180_194.out _; (with_reducible repeat (first | refine blk_drewN ?_ _ | refine blk_drew ?_ | refine blk_alloc ?_ _)); refine blk_far ?_ NB180_194.out _; (with_reducible repeat (first | refine blk_drewN ?_ _ | refine blk_drew ?_ | refine blk_alloc ?_ _)); exact BK180.out⟩, ⟨by (with_reducible repeat (first | refine blk_drewN ?_ _ | refine blk_drew ?_ | refine blk_alloc ?_ _)); refine blk_far ?_ NB187_194.out _; (with_reducible repeat (first | refine blk_drewN ?_ _ | refine blk_drew ?_ | refine blk_alloc ?_ _)); refine blk_far ?_ NB187_194.out _; (with_reducible repeat (first | refine blk_drewN ?_ _ | refine blk_drew ?_ | refine blk_alloc ?_ _)); refine blk_far ?_ NB187_194.out _; (with_reducible repeat (first | refine blk_drewN ?_ _ | refine blk_drew ?_ | refine blk_alloc ?_ _)); refine blk_far ?_ NB187_194.out _; (with_reducible repeat (first | refine blk_drewN ?_ _ | refine blk_drew ?_ | refine blk_alloc ?_ _)); refine blk_far ?_ NB187_194.out _; (with_reducible repeat (first | refine blk_drewN ?_ _ | refine blk_drew ?_ | refine blk_alloc ?_ _)); exact BK187.out⟩, ⟨by refine bP #[.int .i64 t188, .int .i64 t189, .int .i64 t190, .string t191, .int .i64 0] 4 ?_; refine bP #[.int .i64 t188, .int .i64 t189, .int .i64 t190, .string (⟨#[]⟩ : ByteArray), .int .i64 0] 3 ?_; refine bP #[.int .i64 t188, .int .i64 t189, .int .i64 0, .string (⟨#[]⟩ : ByteArray), .int .i64 0] 2 ?_; refine bP #[.int .i64 t188, .int .i64 0, .int .i64 0, .string (⟨#[]⟩ : ByteArray), .int .i64 0] 1 ?_; refine bP #[.int .i64 0, .int .i64 0, .int .i64 0, .string (⟨#[]⟩ : ByteArray), .int .i64 0] 0 ?_; (with_reducible repeat (first | refine blk_drewN ?_ _ | refine blk_drew ?_ | refine blk_alloc ?_ _)); exact BK194.out⟩, ⟨bAt HB.out⟩⟩
    ·rw [if_neg c29] at H
     have c29b0 : (t174 == 7 && (t175 == 3 && (t176 == 4 && (t177.toList == ([46] : List UInt8) && (t178 == 0))))) = false := by simpa using c29
     (try (have c29b1 : decide (t174 = 7 && (t175 == 3 && (t176 == 4 && (t177.toList == ([46] : List UInt8) && (t178 == 0))))) = false := by simpa using c29))
     (try (have c29b2 : (t174 == 7 && (t175 == 3 && (t176 == 4 && (t177.toList == ([46] : List UInt8) && (t178 == 0))))) = false := by simpa using c29))
     (try (have c29b3 : ¬ (t174 = 7 && (t175 == 3 && (t176 == 4 && (t177.toList == ([46] : List UInt8) && (t178 == 0))))) := by simpa using c29))
     clear c29
     have H' := Aside0.mk H
     clear H
     have hnb67 := NB173_180.out
     have hnc67 := NB180_173.out
     have hnb68 := NB173_187.out
     have hnc68 := NB187_173.out
     have hnb69 := NB173_194.out
     have hnc69 := NB194_173.out
     obtain ⟨hcz70_0, hcz70_1, hcz70_2, hcz70_3, hcz70_4, hfz70_0, hfz70_1, hfz70_2, hfz70_3, hfz70_4⟩ := blk5 BK173.out
     have hnb71 := NB180_187.out
     have hnc71 := NB187_180.out
     have hnb72 := NB180_194.out
     have hnc72 := NB194_180.out
     obtain ⟨hcz73_0, hcz73_1, hcz73_2, hcz73_3, hcz73_4, hfz73_0, hfz73_1, hfz73_2, hfz73_3, hfz73_4⟩ := blk5 BK180.out
     go_wp2
     go_meet
     case rel => exact ⟨_, (false), sR, H', ⟨by first | omega | exact Nat.le_refl _⟩, ⟨by (with_reducible repeat (first | refine blk_drewN ?_ _ | refine blk_drew ?_ | refine blk_alloc ?_ _)); refine blk_far ?_ NB173_194.out _; (with_reducible repeat (first | refine blk_drewN ?_ _ | refine blk_drew ?_ | refine blk_alloc ?_ _)); refine blk_far ?_ NB173_194.out _; (with_reducible repeat (first | refine blk_drewN ?_ _ | refine blk_drew ?_ | refine blk_alloc ?_ _)); refine blk_far ?_ NB173_194.out _; (with_reducible repeat (first | refine blk_drewN ?_ _ | refine blk_drew ?_ | refine blk_alloc ?_ _)); refine blk_far ?_ NB173_194.out _; (with_reducible repeat (first | refine blk_drewN ?_ _ | refine blk_drew ?_ | refine blk_alloc ?_ _)); refine blk_far ?_ NB173_194.out _; (with_reducible repeat (first | refine blk_drewN ?_ _ | refine blk_drew ?_ | refine blk_alloc ?_ _)); exact BK173.out⟩, ⟨by (with_reducible repeat (first | refine blk_drewN ?_ _ | refine blk_drew ?_ | refine blk_alloc ?_ _)); refine blk_far ?_ NB180_194.out _; (with_reducible repeat (first | refine blk_drewN ?_ _ | refine blk_drew ?_ | refine blk_alloc ?_ _)); refine blk_far ?_ NB180_194.out _; (with_reducible repeat (first | refine blk_drewN ?_ _ | refine blk_drew ?_ | refine blk_alloc ?_ _)); refine blk_far ?_ NB180_194.out _; (with_reducible repeat (first | refine blk_drewN ?_ _ | refine blk_drew ?_ | refine blk_alloc ?_ _)); refine blk_far ?_ NB180_194.out _; (with_reducible repeat (first | refine blk_drewN ?_ _ | refine blk_drew ?_ | refine blk_alloc ?_ _)); refine blk_far ?_ NB180_194.out _; (with_reducible repeat (first | refine blk_drewN ?_ _ | refine blk_drew ?_ | refine blk_alloc ?_ _)); exact BK180.out⟩, ⟨by (with_reducible repeat (first | refine blk_drewN ?_ _ | refine blk_drew ?_ | refine blk_alloc ?_ _)); refine blk_far ?_ NB187_194.out _; (with_reducible repeat (first | refine blk_drewN ?_ _ | refine blk_drew ?_ | refine blk_alloc ?_ _)); refine blk_far ?_ NB187_194.out _; (with_reducible repeat (first | refine blk_drewN ?_ _ | refine blk_drew ?_ | refine blk_alloc ?_ _)); refine blk_far ?_ NB187_194.out _; (with_reducible repeat (first | refine blk_drewN ?_ _ | refine blk_drew ?_ | refine blk_alloc ?_ _)); refine blk_far ?_ NB187_194.out _; (with_reducible repeat (first | refine blk_drewN ?_ _ | refine blk_drew ?_ | refine blk_alloc ?_ _)); refine blk_far ?_ NB187_194.out _; (with_reducible repeat (first | refine blk_drewN ?_ _ | refine blk_drew ?_ | refine blk_alloc ?_ _)); exact BK187.out⟩, ⟨by refine bP #[.int .i64 t188, .int .i64 t189, .int .i64 t190, .string t191, .int .i64 0] 4 ?_; refine bP #[.int .i64 t188, .int .i64 t189, .int .i64 t190, .string (⟨#[]⟩ : ByteArray), .int .i64 0] 3 ?_; refine bP #[.int .i64 t188, .int .i64 t189, .int .i64 0, .string (⟨#[]⟩ : ByteArray), .int .i64 0] 2 ?_; refine bP #[.int .i64 t188, .int .i64 0, .int .i64 0, .string (⟨#[]⟩ : ByteArray), .int .i64 0] 1 ?_; refine bP #[.int .i64 0, .int .i64 0, .int .i64 0, .string (⟨#[]⟩ : ByteArray), .int .i64 0] 0 ?_; (with_reducible repeat (first | refine blk_drewN ?_ _ | refine blk_drew ?_ | refine blk_alloc ?_ _)); exact BK194.out⟩, ⟨bAt HB.out⟩⟩
   ·replace c28 := Bool.eq_false_iff.mpr c28
    subst c28
    replace H := fP H
    have H' := Aside0.mk H
    clear H
    have hnb74 := NB173_180.out
    have hnc74 := NB180_173.out
    have hnb75 := NB173_187.out
    have hnc75 := NB187_173.out
    have hnb76 := NB173_194.out
    have hnc76 := NB194_173.out
    obtain ⟨hcz77_0, hcz77_1, hcz77_2, hcz77_3, hcz77_4, hfz77_0, hfz77_1, hfz77_2, hfz77_3, hfz77_4⟩ := blk5 BK173.out
    go_wp2
    go_meet
    case rel => exact ⟨_, (false), sR, H', ⟨by first | omega | exact Nat.le_refl _⟩, ⟨by (with_reducible repeat (first | refine blk_drewN ?_ _ | refine blk_drew ?_ | refine blk_alloc ?_ _)); refine blk_far ?_ NB173_194.out _; (with_reducible repeat (first | refine blk_drewN ?_ _ | refine blk_drew ?_ | refine blk_alloc ?_ _)); refine blk_far ?_ NB173_194.out _; (with_reducible repeat (first | refine blk_drewN ?_ _ | refine blk_drew ?_ | refine blk_alloc ?_ _)); refine blk_far ?_ NB173_194.out _; (with_reducible repeat (first | refine blk_drewN ?_ _ | refine blk_drew ?_ | refine blk_alloc ?_ _)); refine blk_far ?_ NB173_194.out _; (with_reducible repeat (first | refine blk_drewN ?_ _ | refine blk_drew ?_ | refine blk_alloc ?_ _)); refine blk_far ?_ NB173_194.out _; (with_reducible repeat (first | refine blk_drewN ?_ _ | refine blk_drew ?_ | refine blk_alloc ?_ _)); exact BK173.out⟩, ⟨by (with_reducible repeat (first | refine blk_drewN ?_ _ | refine blk_drew ?_ | refine blk_alloc ?_ _)); refine blk_far ?_ NB180_194.out _; (with_reducible repeat (first | refine blk_drewN ?_ _ | refine blk_drew ?_ | refine blk_alloc ?_ _)); refine blk_far ?_ NB180_194.out _; (with_reducible repeat (first | refine blk_drewN ?_ _ | refine blk_drew ?_ | refine blk_alloc ?_ _)); refine blk_far ?_ NB180_194.out _; (with_reducible repeat (first | refine blk_drewN ?_ _ | refine blk_drew ?_ | refine blk_alloc ?_ _)); refine blk_far ?_ NB180_194.out _; (with_reducible repeat (first | refine blk_drewN ?_ _ | refine blk_drew ?_ | refine blk_alloc ?_ _)); refine blk_far ?_ NB180_194.out _; (with_reducible repeat (first | refine blk_drewN ?_ _ | refine blk_drew ?_ | refine blk_alloc ?_ _)); exact BK180.out⟩, ⟨by (with_reducible repeat (first | refine blk_drewN ?_ _ | refine blk_drew ?_ | refine blk_alloc ?_ _)); refine blk_far ?_ NB187_194.out _; (with_reducible repeat (first | refine blk_drewN ?_ _ | refine blk_drew ?_ | refine blk_alloc ?_ _)); refine blk_far ?_ NB187_194.out _; (with_reducible repeat (first | refine blk_drewN ?_ _ | refine blk_drew ?_ | refine blk_alloc ?_ _)); refine blk_far ?_ NB187_194.out _; (with_reducible repeat (first | refine blk_drewN ?_ _ | refine blk_drew ?_ | refine blk_alloc ?_ _)); refine blk_far ?_ NB187_194.out _; (with_reducible repeat (first | refine blk_drewN ?_ _ | refine blk_drew ?_ | refine blk_alloc ?_ _)); refine blk_far ?_ NB187_194.out _; (with_reducible repeat (first | refine blk_drewN ?_ _ | refine blk_drew ?_ | refine blk_alloc ?_ _)); exact BK187.out⟩, ⟨by refine bP #[.int .i64 t188, .int .i64 t189, .int .i64 t190, .string t191, .int .i64 0] 4 ?_; refine bP #[.int .i64 t188, .int .i64 t189, .int .i64 t190, .string (⟨#[]⟩ : ByteArray), .int .i64 0] 3 ?_; refine bP #[.int .i64 t188, .int .i64 t189, .int .i64 0, .string (⟨#[]⟩ : ByteArray), .int .i64 0] 2 ?_; refine bP #[.int .i64 t188, .int .i64 0, .int .i64 0, .string (⟨#[]⟩ : ByteArray), .int .i64 0] 1 ?_; refine bP #[.int .i64 0, .int .i64 0, .int .i64 0, .string (⟨#[]⟩ : ByteArray), .int .i64 0] 0 ?_; (with_reducible repeat (first | refine blk_drewN ?_ _ | refine blk_drew ?_ | refine blk_alloc ?_ _)); exact BK194.out⟩, ⟨bAt HB.out⟩⟩
  ·rw [if_neg c27] at H
   obtain ⟨c27b0, c27b1⟩ := neB c27
   (first | rw [c27b0] | (simp only [i64_w, i32_w]; rw [c27b0]) | skip)
   have H' := Aside0.mk H
   clear H
   have hnb78 := NB173_180.out
   have hnc78 := NB180_173.out
   have hnb79 := NB173_187.out
   have hnc79 := NB187_173.out
   have hnb80 := NB173_194.out
   have hnc80 := NB194_173.out
   obtain ⟨hcz81_0, hcz81_1, hcz81_2, hcz81_3, hcz81_4, hfz81_0, hfz81_1, hfz81_2, hfz81_3, hfz81_4⟩ := blk5 BK173.out
   go_wp2
   go_meet
   case rel => exact ⟨_, (false), sR, H', ⟨by first | omega | exact Nat.le_refl _⟩, ⟨by (with_reducible repeat (first | refine blk_drewN ?_ _ | refine blk_drew ?_ | refine blk_alloc ?_ _)); refine blk_far ?_ NB173_194.out _; (with_reducible repeat (first | refine blk_drewN ?_ _ | refine blk_drew ?_ | refine blk_alloc ?_ _)); refine blk_far ?_ NB173_194.out _; (with_reducible repeat (first | refine blk_drewN ?_ _ | refine blk_drew ?_ | refine blk_alloc ?_ _)); refine blk_far ?_ NB173_194.out _; (with_reducible repeat (first | refine blk_drewN ?_ _ | refine blk_drew ?_ | refine blk_alloc ?_ _)); refine blk_far ?_ NB173_194.out _; (with_reducible repeat (first | refine blk_drewN ?_ _ | refine blk_drew ?_ | refine blk_alloc ?_ _)); refine blk_far ?_ NB173_194.out _; (with_reducible repeat (first | refine blk_drewN ?_ _ | refine blk_drew ?_ | refine blk_alloc ?_ _)); exact BK173.out⟩, ⟨by (with_reducible repeat (first | refine blk_drewN ?_ _ | refine blk_drew ?_ | refine blk_alloc ?_ _)); refine blk_far ?_ NB180_194.out _; (with_reducible repeat (first | refine blk_drewN ?_ _ | refine blk_drew ?_ | refine blk_alloc ?_ _)); refine blk_far ?_ NB180_194.out _; (with_reducible repeat (first | refine blk_drewN ?_ _ | refine blk_drew ?_ | refine blk_alloc ?_ _)); refine blk_far ?_ NB180_194.out _; (with_reducible repeat (first | refine blk_drewN ?_ _ | refine blk_drew ?_ | refine blk_alloc ?_ _)); refine blk_far ?_ NB180_194.out _; (with_reducible repeat (first | refine blk_drewN ?_ _ | refine blk_drew ?_ | refine blk_alloc ?_ _)); refine blk_far ?_ NB180_194.out _; (with_reducible repeat (first | refine blk_drewN ?_ _ | refine blk_drew ?_ | refine blk_alloc ?_ _)); exact BK180.out⟩, ⟨by (with_reducible repeat (first | refine blk_drewN ?_ _ | refine blk_drew ?_ | refine blk_alloc ?_ _)); refine blk_far ?_ NB187_194.out _; (with_reducible repeat (first | refine blk_drewN ?_ _ | refine blk_drew ?_ | refine blk_alloc ?_ _)); refine blk_far ?_ NB187_194.out _; (with_reducible repeat (first | refine blk_drewN ?_ _ | refine blk_drew ?_ | refine blk_alloc ?_ _)); refine blk_far ?_ NB187_194.out _; (with_reducible repeat (first | refine blk_drewN ?_ _ | refine blk_drew ?_ | refine blk_alloc ?_ _)); refine blk_far ?_ NB187_194.out _; (with_reducible repeat (first | refine blk_drewN ?_ _ | refine blk_drew ?_ | refine blk_alloc ?_ _)); refine blk_far ?_ NB187_194.out _; (with_reducible repeat (first | refine blk_drewN ?_ _ | refine blk_drew ?_ | refine blk_alloc ?_ _)); exact BK187.out⟩, ⟨by refine bP #[.int .i64 t188, .int .i64 t189, .int .i64 t190, .string t191, .int .i64 0] 4 ?_; refine bP #[.int .i64 t188, .int .i64 t189, .int .i64 t190, .string (⟨#[]⟩ : ByteArray), .int .i64 0] 3 ?_; refine bP #[.int .i64 t188, .int .i64 t189, .int .i64 0, .string (⟨#[]⟩ : ByteArray), .int .i64 0] 2 ?_; refine bP #[.int .i64 t188, .int .i64 0, .int .i64 0, .string (⟨#[]⟩ : ByteArray), .int .i64 0] 1 ?_; refine bP #[.int .i64 0, .int .i64 0, .int .i64 0, .string (⟨#[]⟩ : ByteArray), .int .i64 0] 0 ?_; (with_reducible repeat (first | refine blk_drewN ?_ _ | refine blk_drew ?_ | refine blk_alloc ?_ _)); exact BK194.out⟩, ⟨bAt HB.out⟩⟩
 case rest =>
  clear HC5
  try clear c1
  try clear c2
  try clear p2
  try clear c3
  try clear c4
  try clear c5
  try clear c6
  try clear c7
  try clear c8
  try clear c9
  try clear c11
  try clear c14
  try clear c18
  try clear c19
  try clear c23
  try clear c24
  try clear c25
  try clear c27
  try clear c27b0 c27b1
  try clear c28
  try clear c29
  try clear c29b0 c29b1
  try clear c29b2
  try clear c30
  try clear c31
  try clear c31b0 c31b1
  try clear c31b2
  try clear c32
  try clear c33
  try clear c34
  try clear c35
  try clear c37
  try clear c38
  try clear c40
  try clear c42
  try clear c43
  try clear c44
  try clear c46
  try clear c47
  try clear c49
  try clear c51
  try clear c52
  try clear c53
  try clear c55
  try clear c56
  try clear c58
  try clear c60
  try clear c61
  try clear c62
  try clear c64
  try clear c65
  try clear c67
  try clear c68
  try clear c69
  try clear c71
  try clear c72
  try clear c74
  try clear c75
  try clear c76
  try clear c78
  try clear c79
  try clear c80
  try clear hcz11_0
  try clear hcz11_1
  try clear hcz11_2
  try clear hcz11_3
  try clear hcz11_4
  try clear hcz15_0
  try clear hcz15_1
  try clear hcz15_2
  try clear hcz15_3
  try clear hcz15_4
  try clear hcz20_0
  try clear hcz20_1
  try clear hcz20_2
  try clear hcz20_3
  try clear hcz20_4
  try clear hcz26_0
  try clear hcz26_1
  try clear hcz26_2
  try clear hcz26_3
  try clear hcz26_4
  try clear hcz36_0
  try clear hcz36_1
  try clear hcz36_2
  try clear hcz36_3
  try clear hcz36_4
  try clear hcz39_0
  try clear hcz39_1
  try clear hcz39_2
  try clear hcz39_3
  try clear hcz39_4
  try clear hcz41_0
  try clear hcz41_1
  try clear hcz41_2
  try clear hcz41_3
  try clear hcz41_4
  try clear hcz45_0
  try clear hcz45_1
  try clear hcz45_2
  try clear hcz45_3
  try clear hcz45_4
  try clear hcz48_0
  try clear hcz48_1
  try clear hcz48_2
  try clear hcz48_3
  try clear hcz48_4
  try clear hcz50_0
  try clear hcz50_1
  try clear hcz50_2
  try clear hcz50_3
  try clear hcz50_4
  try clear hcz54_0
  try clear hcz54_1
  try clear hcz54_2
  try clear hcz54_3
  try clear hcz54_4
  try clear hcz57_0
  try clear hcz57_1
  try clear hcz57_2
  try clear hcz57_3
  try clear hcz57_4
  try clear hcz59_0
  try clear hcz59_1
  try clear hcz59_2
  try clear hcz59_3
  try clear hcz59_4
  try clear hcz63_0
  try clear hcz63_1
  try clear hcz63_2
  try clear hcz63_3
  try clear hcz63_4
  try clear hcz66_0
  try clear hcz66_1
  try clear hcz66_2
  try clear hcz66_3
  try clear hcz66_4
  try clear hcz70_0
  try clear hcz70_1
  try clear hcz70_2
  try clear hcz70_3
  try clear hcz70_4
  try clear hcz73_0
  try clear hcz73_1
  try clear hcz73_2
  try clear hcz73_3
  try clear hcz73_4
  try clear hcz77_0
  try clear hcz77_1
  try clear hcz77_2
  try clear hcz77_3
  try clear hcz77_4
  try clear hcz81_0
  try clear hcz81_1
  try clear hcz81_2
  try clear hcz81_3
  try clear hcz81_4
  try clear hfz11_0
  try clear hfz11_1
  try clear hfz11_2
  try clear hfz11_3
  try clear hfz11_4
  try clear hfz15_0
  try clear hfz15_1
  try clear hfz15_2
  try clear hfz15_3
  try clear hfz15_4
  try clear hfz20_0
  try clear hfz20_1
  try clear hfz20_2
  try clear hfz20_3
  try clear hfz20_4
  try clear hfz26_0
  try clear hfz26_1
  try clear hfz26_2
  try clear hfz26_3
  try clear hfz26_4
  try clear hfz36_0
  try clear hfz36_1
  try clear hfz36_2
  try clear hfz36_3
  try clear hfz36_4
  try clear hfz39_0
  try clear hfz39_1
  try clear hfz39_2
  try clear hfz39_3
  try clear hfz39_4
  try clear hfz41_0
  try clear hfz41_1
  try clear hfz41_2
  try clear hfz41_3
  try clear hfz41_4
  try clear hfz45_0
  try clear hfz45_1
  try clear hfz45_2
  try clear hfz45_3
  try clear hfz45_4
  try clear hfz48_0
  try clear hfz48_1
  try clear hfz48_2
  try clear hfz48_3
  try clear hfz48_4
  try clear hfz50_0
  try clear hfz50_1
  try clear hfz50_2
  try clear hfz50_3
  try clear hfz50_4
  try clear hfz54_0
  try clear hfz54_1
  try clear hfz54_2
  try clear hfz54_3
  try clear hfz54_4
  try clear hfz57_0
  try clear hfz57_1
  try clear hfz57_2
  try clear hfz57_3
  try clear hfz57_4
  try clear hfz59_0
  try clear hfz59_1
  try clear hfz59_2
  try clear hfz59_3
  try clear hfz59_4
  try clear hfz63_0
  try clear hfz63_1
  try clear hfz63_2
  try clear hfz63_3
  try clear hfz63_4
  try clear hfz66_0
  try clear hfz66_1
  try clear hfz66_2
  try clear hfz66_3
  try clear hfz66_4
  try clear hfz70_0
  try clear hfz70_1
  try clear hfz70_2
  try clear hfz70_3
  try clear hfz70_4
  try clear hfz73_0
  try clear hfz73_1
  try clear hfz73_2
  try clear hfz73_3
  try clear hfz73_4
  try clear hfz77_0
  try clear hfz77_1
  try clear hfz77_2
  try clear hfz77_3
  try clear hfz77_4
  try clear hfz81_0
  try clear hfz81_1
  try clear hfz81_2
  try clear hfz81_3
  try clear hfz81_4
  obtain ⟨kq, x0_4, rfl, HA, HJ4, BK173, BK180, BK187, BK194, HB⟩ := hcut
  cases kq with
  | zero => exact absurd HA.out (by simp [tmesislaw06_shown.j0])
  | succ kj4 =>
   have H := HA.out
   clear HA
   simp only [tmesislaw06_shown.j0] at H
   obtain rfl := Option.some.inj H
   go_wp2
   go_ret
   exact ⟨eR, bAt HB.out⟩
end Go.Proofs.YtflekegjmjjdmaaDoor.P
