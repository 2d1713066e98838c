/- Part of the proof: what the theorem needs of this text. -/
import Derived.Test.YtpkklbdclghcfaaDoorKPx0
namespace Go.Proofs.YtpkklbdclghcfaaDoor.P
open Go.RowKit Go.Proofs.YtpkklbdclghcfaaDoorW.PrintWords Go.Proofs.YtpkklbdclghcfaaDoorW.PrintLast Go.Proofs.YtpkklbdclghcfaaDoorW.PrintMore
attribute [local go_sem] max2_int min2_int max_two min_two max_three min_three max_four min_four   -- for this text's walks alone
set_option linter.unusedVariables false
set_option linter.unusedSimpArgs false
mutual
def tmesisref10_Names.l0 : Nat → List ByteArray → Int → Int → Int → Int → List (S38) → Option (List ByteArray)
 | 0, _, _, _, _, _, _ => none
 | k + 1, x3, x4, x258000, x258001, x258002, x258003 => if x4 < (x258003.length : Int) then (if 0 ≤ x4 then (if ((rd_T38 x258003 x4).f0) = 1 then (tmesisref10_Names.j1 k x3 x4 false x258000 x258001 x258002 x258003 ((rd_T38 x258003 x4).f0) ((rd_T38 x258003 x4).f1) ((rd_T38 x258003 x4).f2) ((rd_T38 x258003 x4).f3) ((rd_T38 x258003 x4).f4)) else (if ((rd_T38 x258003 x4).f0) = 2 then (tmesisref10_Names.j1 k x3 x4 false x258000 x258001 x258002 x258003 ((rd_T38 x258003 x4).f0) ((rd_T38 x258003 x4).f1) ((rd_T38 x258003 x4).f2) ((rd_T38 x258003 x4).f3) ((rd_T38 x258003 x4).f4)) else (tmesisref10_Names.j1 k x3 x4 (((rd_T38 x258003 x4).f0) != 6) x258000 x258001 x258002 x258003 ((rd_T38 x258003 x4).f0) ((rd_T38 x258003 x4).f1) ((rd_T38 x258003 x4).f2) ((rd_T38 x258003 x4).f3) ((rd_T38 x258003 x4).f4)))) else (none)) else (some x3)
def tmesisref10_Names.j1 : Nat → List ByteArray → Int → Bool → Int → Int → Int → List (S38) → Int → Int → Int → ByteArray → Int → Option (List ByteArray)
 | 0, _, _, _, _, _, _, _, _, _, _, _, _ => none
 | k + 1, x3, x4, x33, x258000, x258001, x258002, x258003, x263000, x263001, x263002, x263003, x263004 => if x33 = true then (tmesisref10_Names.l0 k x3 (wrap64 (x4 + 1)) x258000 x258001 x258002 x258003) else (tmesisref10_Names.l1 k x3 x4 0 x258000 x258001 x258002 x258003 x263000 x263001 x263002 x263003 x263004)
def tmesisref10_Names.l1 : Nat → List ByteArray → Int → Int → Int → Int → Int → List (S38) → Int → Int → Int → ByteArray → Int → Option (List ByteArray)
 | 0, _, _, _, _, _, _, _, _, _, _, _, _ => none
 | k + 1, x3, x4, x6, x258000, x258001, x258002, x258003, x263000, x263001, x263002, x263003, x263004 => if x6 < (x3.length : Int) then (if 0 ≤ x6 then (if (Op.bytesLess ((rdOf ByteArray.empty x3 x6).toList) x263003.toList) = true then (tmesisref10_Names.l1 k x3 x4 (wrap64 (x6 + 1)) x258000 x258001 x258002 x258003 x263000 x263001 x263002 x263003 x263004) else (if x6 = (x3.length : Int) then ((some (([] : List ByteArray) : List ByteArray)).bind fun y264 => (if x6 ≤ (x3.length : Int) then ((some (x3.drop (x6 : Int).toNat : List ByteArray)).bind fun y267 => (if y264.length + y267.length < 8796093022208 then ((some (y264 ++ y267 : List ByteArray)).bind fun y271 => ((some (x3.take (x6 : Int).toNat : List ByteArray)).bind fun y274 => (if y274.length < 8796093022208 then ((some (y274 ++ [x263003] : List ByteArray)).bind fun y277 => (if y277.length + y271.length < 8796093022208 then (tmesisref10_Names.l0 k (y277 ++ y271) (wrap64 (x4 + 1)) x258000 x258001 x258002 x258003) else (none))) else (none)))) else (none))) else (none))) else (if (rdOf ByteArray.empty x3 x6).toList = x263003.toList then (tmesisref10_Names.l0 k x3 (wrap64 (x4 + 1)) x258000 x258001 x258002 x258003) else ((some (([] : List ByteArray) : List ByteArray)).bind fun y284 => (if x6 ≤ (x3.length : Int) then ((some (x3.drop (x6 : Int).toNat : List ByteArray)).bind fun y287 => (if y284.length + y287.length < 8796093022208 then ((some (y284 ++ y287 : List ByteArray)).bind fun y291 => ((some (x3.take (x6 : Int).toNat : List ByteArray)).bind fun y294 => (if y294.length < 8796093022208 then ((some (y294 ++ [x263003] : List ByteArray)).bind fun y297 => (if y297.length + y291.length < 8796093022208 then (tmesisref10_Names.l0 k (y297 ++ y291) (wrap64 (x4 + 1)) x258000 x258001 x258002 x258003) else (none))) else (none)))) else (none))) else (none)))))) else (none)) else (if x6 = (x3.length : Int) then ((some (([] : List ByteArray) : List ByteArray)).bind fun y303 => (if 0 ≤ x6 then (if x6 ≤ (x3.length : Int) then ((some (x3.drop (x6 : Int).toNat : List ByteArray)).bind fun y306 => (if y303.length + y306.length < 8796093022208 then ((some (y303 ++ y306 : List ByteArray)).bind fun y310 => ((some (x3.take (x6 : Int).toNat : List ByteArray)).bind fun y313 => (if y313.length < 8796093022208 then ((some (y313 ++ [x263003] : List ByteArray)).bind fun y316 => (if y316.length + y310.length < 8796093022208 then (tmesisref10_Names.l0 k (y316 ++ y310) (wrap64 (x4 + 1)) x258000 x258001 x258002 x258003) else (none))) else (none)))) else (none))) else (none)) else (none))) else (if 0 ≤ x6 then (none) else (none)))
end
def tmesisref10_Names.f (k : Nat) (a0_0 : Int) (a0_1 : Int) (a0_2 : Int) (l0_3 : List (S38)) : Option (List ByteArray) := tmesisref10_Names.l0 k (([] : List ByteArray)) 0 a0_0 a0_1 a0_2 l0_3
theorem tmesisref10_Names.mono_l : ∀ k, (∀ y0 y1 y2 y3 y4 y5, LeO (tmesisref10_Names.l0 k y0 y1 y2 y3 y4 y5) (tmesisref10_Names.l0 (k + 1) y0 y1 y2 y3 y4 y5)) ∧ (∀ y0 y1 y2 y3 y4 y5 y6 y7 y8 y9 y10 y11, LeO (tmesisref10_Names.j1 k y0 y1 y2 y3 y4 y5 y6 y7 y8 y9 y10 y11) (tmesisref10_Names.j1 (k + 1) y0 y1 y2 y3 y4 y5 y6 y7 y8 y9 y10 y11)) ∧ (∀ y0 y1 y2 y3 y4 y5 y6 y7 y8 y9 y10 y11, LeO (tmesisref10_Names.l1 k y0 y1 y2 y3 y4 y5 y6 y7 y8 y9 y10 y11) (tmesisref10_Names.l1 (k + 1) y0 y1 y2 y3 y4 y5 y6 y7 y8 y9 y10 y11))
 | 0 => ⟨fun _ _ _ _ _ _ r h => by simp [tmesisref10_Names.l0] at h, fun _ _ _ _ _ _ _ _ _ _ _ _ r h => by simp [tmesisref10_Names.j1] at h, fun _ _ _ _ _ _ _ _ _ _ _ _ r h => by simp [tmesisref10_Names.l1] at h⟩
 | k + 1 => by
  obtain ⟨ih0, ih1, ih2⟩ := tmesisref10_Names.mono_l k
  refine ⟨?_, ?_, ?_⟩
  ·intro y0 y1 y2 y3 y4 y5
   unfold tmesisref10_Names.l0
   repeat' with_reducible first | exact ih0 _ _ _ _ _ _ | exact ih1 _ _ _ _ _ _ _ _ _ _ _ _ | exact ih2 _ _ _ _ _ _ _ _ _ _ _ _ | exact LeO.refl _ | exact LeO.none _ | refine LeO.ite ?_ ?_ | refine LeO.bind ?_ (fun _ => ?_)
  ·intro y0 y1 y2 y3 y4 y5 y6 y7 y8 y9 y10 y11
   unfold tmesisref10_Names.j1
   repeat' with_reducible first | exact ih0 _ _ _ _ _ _ | exact ih1 _ _ _ _ _ _ _ _ _ _ _ _ | exact ih2 _ _ _ _ _ _ _ _ _ _ _ _ | exact LeO.refl _ | exact LeO.none _ | refine LeO.ite ?_ ?_ | refine LeO.bind ?_ (fun _ => ?_)
  ·intro y0 y1 y2 y3 y4 y5 y6 y7 y8 y9 y10 y11
   unfold tmesisref10_Names.l1
   repeat' with_reducible first | exact ih0 _ _ _ _ _ _ | exact ih1 _ _ _ _ _ _ _ _ _ _ _ _ | exact ih2 _ _ _ _ _ _ _ _ _ _ _ _ | exact LeO.refl _ | exact LeO.none _ | refine LeO.ite ?_ ?_ | refine LeO.bind ?_ (fun _ => ?_)
theorem tmesisref10_Names.mono : ∀ a0 a1 a2 a3 k, LeO (tmesisref10_Names.f k a0 a1 a2 a3) (tmesisref10_Names.f (k + 1) a0 a1 a2 a3) := by
 intro a0 a1 a2 a3 k
 obtain ⟨ih0, ih1, ih2⟩ := tmesisref10_Names.mono_l k
 unfold tmesisref10_Names.f
 repeat' with_reducible first | exact ih0 _ _ _ _ _ _ | exact ih1 _ _ _ _ _ _ _ _ _ _ _ _ | exact ih2 _ _ _ _ _ _ _ _ _ _ _ _ | exact LeO.refl _ | exact LeO.none _ | refine LeO.ite ?_ ?_ | refine LeO.bind ?_ (fun _ => ?_)
def tmesisref10_Names.T8 : Bool × List (List Nat × List Nat) := (true, [([], []), ([], []), ([1], [1]), ([0, 2], [0, 2]), ([3], [3]), ([4], [4]), ([4], [4]), ([5, 6, 4], [4, 5, 6]), ([7, 4], [4, 7]), ([4], [4]), ([9, 4], [4, 9]), ([8, 10, 4], [4, 8, 10]), ([4, 11], [4, 11])])
def tmesisref10_Names.B8 : List Nat := [0, 0, 2, 7, 15, 31, 31, 127, 255, 31, 543, 2047, 4095]
theorem tmesisref10_Names.tab8 : rtab .any (opsOf Tryd.f11 8) = tmesisref10_Names.T8 := by kernel_rfl
theorem tmesisref10_Names.bits8 : waitsOk tmesisref10_Names.T8.2 tmesisref10_Names.B8 = true := by kernel_rfl
def tmesisref10_Names.T10 : Bool × List (List Nat × List Nat) := (true, [([], []), ([], []), ([1], [1]), ([0, 2], [0, 2]), ([3], [3]), ([4], [4]), ([4], [4]), ([5, 6, 4], [4, 5, 6]), ([7, 4], [4, 7]), ([4], [4]), ([9, 4], [4, 9]), ([8, 10, 4], [4, 8, 10]), ([4, 11], [4, 11])])
def tmesisref10_Names.B10 : List Nat := [0, 0, 2, 7, 15, 31, 31, 127, 255, 31, 543, 2047, 4095]
theorem tmesisref10_Names.tab10 : rtab .any (opsOf Tryd.f11 10) = tmesisref10_Names.T10 := by kernel_rfl
theorem tmesisref10_Names.bits10 : waitsOk tmesisref10_Names.T10.2 tmesisref10_Names.B10 = true := by kernel_rfl
def tmesisref10_Names.T12 : Bool × List (List Nat × List Nat) := (true, [([], []), ([], []), ([0, 1], [0, 1]), ([], []), ([3], [3]), ([4], [4]), ([2, 5], [2, 5]), ([], []), ([6, 7, 6], [6, 7]), ([8, 8, 0, 1, 2, 3, 4, 5, 6, 7, 8], [0, 8])])
def tmesisref10_Names.B12 : List Nat := [0, 0, 3, 0, 8, 24, 63, 0, 255, 511]
theorem tmesisref10_Names.tab12 : rtab .any (opsOf Tryd.f11 12) = tmesisref10_Names.T12 := by kernel_rfl
theorem tmesisref10_Names.bits12 : waitsOk tmesisref10_Names.T12.2 tmesisref10_Names.B12 = true := by kernel_rfl
set_option maxHeartbeats 8000000 in
set_option maxRecDepth 100000 in
theorem tmesisref10_Names.calls (k : Nat) (a0_0 : Int) (a0_1 : Int) (a0_2 : Int) (A0_3 : Option Addr) (c0_3 : Nat) (l0_3 : List (S38)) (r : List ByteArray) (w : World) (hr0_3 : Kd.C k38 w A0_3 l0_3.length l0_3) (hc0_3 : l0_3.length ≤ c0_3) (h : tmesisref10_Names.f k a0_0 a0_1 a0_2 l0_3 = some r) :
  Calls Tryd.prog 11 #[.agg #[.int .i64 a0_0, .int .i64 a0_1, .int .i64 a0_2, .slice A0_3 l0_3.length c0_3]] w fun e w' => ∃ v0_ : Value, e = .returned (v0_) ∧ Kd.R Kd.string 9 w' w.heap.size (fun _ => True) v0_ r ∧ Below w.heap.size w w' := by
 have hu25 := Tryd.underlying25
 have hu38 := Tryd.underlying38
 have HR0_3 := Aside0.mk hr0_3
 have HC0_3 := Aside0.mk hc0_3
 clear hr0_3 hc0_3
 have HB := Aside0.mk (Below.refl w.heap.size w)
 have H : (tmesisref10_Names.l0 k (([] : List ByteArray)) 0 a0_0 a0_1 a0_2 l0_3) = some r := h
 clear h
 obtain ⟨y258, hy258⟩ : ∃ y_ : List ByteArray, y_ = (([] : List ByteArray)) := ⟨_, rfl⟩
 replace H : (tmesisref10_Names.l0 k y258 0 a0_0 a0_1 a0_2 l0_3) = some r := by first | (rw [hy258]; with_reducible exact H) | (have H2_ := (Option.bind_some _ _).symm.trans H; rw [hy258]; with_reducible exact H2_) | (have H2_ := (Option.bind_some _ _).symm.trans H; with_reducible exact H2_) | with_reducible exact H | (rw [hy258]; exact H) | exact H
 have Ny258 := Aside0.mk hy258
 clear hy258
 have H' := Aside0.mk H
 clear H
 go_enter Tryd.func11, Tryd.ntmps11
 go_wp2_with (first | ((with_reducible refine gate_dst (N := 1) rfl ?_); refine box_event ?hg (N := 1) ?hd (cs := #[.int .i64 a0_0, .int .i64 a0_1, .int .i64 a0_2, .slice A0_3 l0_3.length c0_3]) (t := 25) ?hr ?_; (case hd => rfl); (case hg => rfl); (case hr => first | (go_simp; done) | (go_simp; rfl)); intro gb257 hg w2 hbox hb; have BK257 := Aside0.mk (hbox); have GW257 := Aside0.mk (gE (g := gb257) hg HB.out); have GE257 := Aside0.mk (gE (g := gb257) hg HB.out); replace HB := Aside0.mk (below_step (bAt HB.out) hb); clear hb hbox hg) | ((with_reducible refine gate_dst (N := 8) rfl ?_); refine Kd.R_lit Kd.string _ 9 ?hg (N := 8) ?hd (xs := ([] : List ByteArray)) (inner := []) (ok := fun _ => True) (okp := fun _ => True) ?hr ?hp (fun _ hk => hk) trivial (Below.refl _ _) (Nat.le_refl _) (by simp) ?_; (case hd => rfl); (case hg => rfl); (case hr => first | (go_simp; done) | (go_simp; rfl)); (case hp => exact (Reps.none _ _)); intro v259 w3 ho4 hb hg_ hnew_; clear hg_ hnew_; (first | rw [← Ny258.out] at ho4 | (simp only [Int.reduceToNat] at ho4; rw [← Ny258.out] at ho4)); have HO260 := Aside0.mk (Kd.R_lower ho4 (below_size (bAt HB.out))); replace BK257 := Aside0.mk (blk_below (g := gb257) (o := .cells #[.int .i64 a0_0, .int .i64 a0_1, .int .i64 a0_2, .slice A0_3 l0_3.length c0_3] 25 (0, 0)) (kAt BK257.out) hb); replace HB := Aside0.mk (below_step (bAt HB.out) hb); clear hb ho4))
 go_loopg [3, 4] k (fun kq v3 v4 w' => ∃ (x3_1 : List ByteArray) (x4_1 : Int), v4 = .int .i64 x4_1 ∧ Aside0 (tmesisref10_Names.l0 kq x3_1 x4_1 a0_0 a0_1 a0_2 l0_3 = some r) ∧ Aside0 (kq ≤ k) ∧ Aside0 (Kd.R Kd.string 9 w' w.heap.size (fun _ => True) v3 x3_1) ∧ Aside0 (w'.heap[gb257]? = some (.cells #[.int .i64 a0_0, .int .i64 a0_1, .int .i64 a0_2, (.slice A0_3 l0_3.length c0_3)] 25 (0, 0))) ∧ Aside0 (Below w.heap.size w w'))
 case atStart => exact ⟨(y258), (0), sR, H', ⟨Nat.le_refl _⟩, ⟨RAt HO260.out⟩, ⟨kAt BK257.out⟩, ⟨bAt HB.out⟩⟩
 case round =>
  clear H'
  try clear c1
  try clear p2
  obtain ⟨x3_1, x4_1, rfl, HA, HK1, HO_3, BK257, HB⟩ := hrel
  cases gk with
  | zero => exact absurd HA.out (by simp [tmesisref10_Names.l0])
  | succ k1 =>
   have H := HA.out
   clear HA
   simp only [tmesisref10_Names.l0] at H
   by_cases c5 : x4_1 < (l0_3.length : Int)
   ·rw [if_pos c5] at H
    have c5b0 := decide_eq_true c5
    clear c5
    by_cases c6 : 0 ≤ x4_1
    ·rw [if_pos c6] at H
     have c6b0 := decide_eq_true c6
     clear c6
     have HC7 := Aside0.mk H
     clear H
     obtain ⟨hcz8_0, hcz8_1, hcz8_2, hcz8_3, hfz8_0, hfz8_1, hfz8_2, hfz8_3⟩ := blk4 BK257.out
     have p261 : 0 ≤ (x4_1 : Int) := dt
     have q261 : x4_1 < (l0_3.length : Int) := dt
     obtain ⟨ad261, e261, hx261_0, hx261_1, hx261_2, hx261_3, hx261_4⟩ := at_T38 HR0_3.out x4_1 p261 q261
     cases e261
     replace hx261_0 := pw_cell_below HB.out hx261_0
     replace hx261_1 := pw_cell_below HB.out hx261_1
     replace hx261_2 := pw_cell_below HB.out hx261_2
     replace hx261_3 := pw_cell_below HB.out hx261_3
     replace hx261_4 := pw_cell_below HB.out hx261_4
     replace p261 := eq_true p261
     replace q261 := eq_true q261
     go_upto_region 6 with (first | ((with_reducible refine gate_dst (N := 5) rfl ?_); refine box_event ?hg (N := 5) ?hd (cs := #[.int .i64 0, .int .i64 0, .int .i64 0, .string (⟨#[]⟩ : ByteArray), .int .i64 0]) (t := 38) ?hr ?_; (case hd => rfl); (case hg => rfl); (case hr => first | (go_simp; done) | (go_simp; rfl)); intro gb262 hg w9 hbox hb; replace HO_3 := Aside0.mk (Kd.R_below (RAt HO_3.out) hb); have BK262 := Aside0.mk (hbox); have GW262 := Aside0.mk (gE (g := gb262) hg HB.out); have GE262 := Aside0.mk (gE (g := gb262) hg HB.out); replace HB := Aside0.mk (below_step (bAt HB.out) hb); have NB257_262 := Aside0.mk ((by rw [hg]; exact Nat.ne_of_lt (blk_lt (g := gb257) (o := .cells #[.int .i64 a0_0, .int .i64 a0_1, .int .i64 a0_2, .slice (some ad261) l0_3.length c0_3] 25 (0, 0)) (kAt BK257.out)) : gb257 ≠ gb262)); have NB262_257 := Aside0.mk ((by rw [hg]; exact Nat.ne_of_gt (blk_lt (g := gb257) (o := .cells #[.int .i64 a0_0, .int .i64 a0_1, .int .i64 a0_2, .slice (some ad261) l0_3.length c0_3] 25 (0, 0)) (kAt BK257.out)) : gb262 ≠ gb257)); replace BK257 := Aside0.mk (blk_below (g := gb257) (o := .cells #[.int .i64 a0_0, .int .i64 a0_1, .int .i64 a0_2, .slice (some ad261) l0_3.length c0_3] 25 (0, 0)) (kAt BK257.out) hb); clear hb hbox hg; have hnb10 := NB262_257.out; have hnc10 := NB257_262.out; obtain ⟨hcz11_0, hcz11_1, hcz11_2, hcz11_3, hcz11_4, hfz11_0, hfz11_1, hfz11_2, hfz11_3, hfz11_4⟩ := blk5 BK262.out))
     (try simp only [Act.put, List.setIfInBounds_toArray, List.set_cons_zero, List.set_cons_succ])
     go_cut [33] (fun v33 wc => ∃ (kq : Nat) (x33_6 : Bool), v33 = .bool x33_6 ∧ Aside0 (tmesisref10_Names.j1 kq x3_1 x4_1 x33_6 a0_0 a0_1 a0_2 l0_3 ((rd_T38 l0_3 x4_1).f0) ((rd_T38 l0_3 x4_1).f1) ((rd_T38 l0_3 x4_1).f2) ((rd_T38 l0_3 x4_1).f3) ((rd_T38 l0_3 x4_1).f4) = some r) ∧ Aside0 (kq ≤ k1) ∧ Aside0 (Kd.R Kd.string 9 wc w.heap.size (fun _ => True) u3 x3_1) ∧ Aside0 (wc.heap[gb257]? = some (.cells #[.int .i64 a0_0, .int .i64 a0_1, .int .i64 a0_2, (.slice (some ad261) l0_3.length c0_3)] 25 (0, 0))) ∧ Aside0 (wc.heap[gb262]? = some (.cells #[.int .i64 ((rd_T38 l0_3 x4_1).f0), .int .i64 ((rd_T38 l0_3 x4_1).f1), .int .i64 ((rd_T38 l0_3 x4_1).f2), .string ((rd_T38 l0_3 x4_1).f3), .int .i64 ((rd_T38 l0_3 x4_1).f4)] 38 (0, 0))) ∧ Aside0 (Below w.heap.size w wc))
     case first =>
      have H := HC7.out
      clear HC7
      by_cases c12 : ((rd_T38 l0_3 x4_1).f0) = 1
      ·rw [if_pos c12] at H
       obtain ⟨c12b0, c12b1⟩ := eqB c12
       clear c12
       (first | rw [c12b0] | (simp only [i64_w, i32_w]; rw [c12b0]) | skip)
       have H' := Aside0.mk H
       clear H
       have hnb13 := NB262_257.out
       have hnc13 := NB257_262.out
       obtain ⟨hcz14_0, hcz14_1, hcz14_2, hcz14_3, hcz14_4, hfz14_0, hfz14_1, hfz14_2, hfz14_3, hfz14_4⟩ := blk5 BK262.out
       go_wp2
       go_meet
       case rel => exact ⟨_, (false), sR, H', ⟨by have := HK1.out; first | omega | exact Nat.le_refl _⟩, ⟨RAt (Kd.R_mono (Kd.R_far (p := ⟨gb262, 4, none⟩) (Kd.R_far (p := ⟨gb262, 3, none⟩) (Kd.R_far (p := ⟨gb262, 2, none⟩) (Kd.R_far (p := ⟨gb262, 1, none⟩) (Kd.R_far (p := ⟨gb262, 0, none⟩) (Kd.R_types HO_3.out BK262.out (by decide)) (fun _ hk => hk.2) (.int .i64 ((rd_T38 l0_3 x4_1).f0))) (fun _ hk => hk.2) (.int .i64 ((rd_T38 l0_3 x4_1).f1))) (fun _ hk => hk.2) (.int .i64 ((rd_T38 l0_3 x4_1).f2))) (fun _ hk => hk.2) (.string ((rd_T38 l0_3 x4_1).f3))) (fun _ hk => hk.2) (.int .i64 ((rd_T38 l0_3 x4_1).f4))) (fun _ hk => trivial))⟩, ⟨by (with_reducible repeat (first | refine blk_drewN ?_ _ | refine blk_drew ?_ | refine blk_alloc ?_ _)); refine blk_far ?_ NB257_262.out _; (with_reducible repeat (first | refine blk_drewN ?_ _ | refine blk_drew ?_ | refine blk_alloc ?_ _)); refine blk_far ?_ NB257_262.out _; (with_reducible repeat (first | refine blk_drewN ?_ _ | refine blk_drew ?_ | refine blk_alloc ?_ _)); refine blk_far ?_ NB257_262.out _; (with_reducible repeat (first | refine blk_drewN ?_ _ | refine blk_drew ?_ | refine blk_alloc ?_ _)); refine blk_far ?_ NB257_262.out _; (with_reducible repeat (first | refine blk_drewN ?_ _ | refine blk_drew ?_ | refine blk_alloc ?_ _)); refine blk_far ?_ NB257_262.out _; (with_reducible repeat (first | refine blk_drewN ?_ _ | refine blk_drew ?_ | refine blk_alloc ?_ _)); exact BK257.out⟩, ⟨by refine bP #[.int .i64 ((rd_T38 l0_3 x4_1).f0), .int .i64 ((rd_T38 l0_3 x4_1).f1), .int .i64 ((rd_T38 l0_3 x4_1).f2), .string ((rd_T38 l0_3 x4_1).f3), .int .i64 0] 4 ?_; refine bP #[.int .i64 ((rd_T38 l0_3 x4_1).f0), .int .i64 ((rd_T38 l0_3 x4_1).f1), .int .i64 ((rd_T38 l0_3 x4_1).f2), .string (⟨#[]⟩ : ByteArray), .int .i64 0] 3 ?_; refine bP #[.int .i64 ((rd_T38 l0_3 x4_1).f0), .int .i64 ((rd_T38 l0_3 x4_1).f1), .int .i64 0, .string (⟨#[]⟩ : ByteArray), .int .i64 0] 2 ?_; refine bP #[.int .i64 ((rd_T38 l0_3 x4_1).f0), .int .i64 0, .int .i64 0, .string (⟨#[]⟩ : ByteArray), .int .i64 0] 1 ?_; refine bP #[.int .i64 0, .int .i64 0, .int .i64 0, .string (⟨#[]⟩ : ByteArray), .int .i64 0] 0 ?_; (with_reducible repeat (first | refine blk_drewN ?_ _ | refine blk_drew ?_ | refine blk_alloc ?_ _)); exact BK262.out⟩, ⟨bAt HB.out⟩⟩
      ·rw [if_neg c12] at H
       obtain ⟨c12b0, c12b1⟩ := neB c12
       (first | rw [c12b0] | (simp only [i64_w, i32_w]; rw [c12b0]) | skip)
       by_cases c15 : ((rd_T38 l0_3 x4_1).f0) = 2
       ·rw [if_pos c15] at H
        obtain ⟨c15b0, c15b1⟩ := eqB c15
        clear c15
        have H' := Aside0.mk H
        clear H
        have hnb16 := NB262_257.out
        have hnc16 := NB257_262.out
        obtain ⟨hcz17_0, hcz17_1, hcz17_2, hcz17_3, hcz17_4, hfz17_0, hfz17_1, hfz17_2, hfz17_3, hfz17_4⟩ := blk5 BK262.out
        go_wp2
        go_meet
        case rel => exact ⟨_, (false), sR, H', ⟨by have := HK1.out; first | omega | exact Nat.le_refl _⟩, ⟨RAt (Kd.R_mono (Kd.R_far (p := ⟨gb262, 4, none⟩) (Kd.R_far (p := ⟨gb262, 3, none⟩) (Kd.R_far (p := ⟨gb262, 2, none⟩) (Kd.R_far (p := ⟨gb262, 1, none⟩) (Kd.R_far (p := ⟨gb262, 0, none⟩) (Kd.R_types HO_3.out BK262.out (by decide)) (fun _ hk => hk.2) (.int .i64 ((rd_T38 l0_3 x4_1).f0))) (fun _ hk => hk.2) (.int .i64 ((rd_T38 l0_3 x4_1).f1))) (fun _ hk => hk.2) (.int .i64 ((rd_T38 l0_3 x4_1).f2))) (fun _ hk => hk.2) (.string ((rd_T38 l0_3 x4_1).f3))) (fun _ hk => hk.2) (.int .i64 ((rd_T38 l0_3 x4_1).f4))) (fun _ hk => trivial))⟩, ⟨by (with_reducible repeat (first | refine blk_drewN ?_ _ | refine blk_drew ?_ | refine blk_alloc ?_ _)); refine blk_far ?_ NB257_262.out _; (with_reducible repeat (first | refine blk_drewN ?_ _ | refine blk_drew ?_ | refine blk_alloc ?_ _)); refine blk_far ?_ NB257_262.out _; (with_reducible repeat (first | refine blk_drewN ?_ _ | refine blk_drew ?_ | refine blk_alloc ?_ _)); refine blk_far ?_ NB257_262.out _; (with_reducible repeat (first | refine blk_drewN ?_ _ | refine blk_drew ?_ | refine blk_alloc ?_ _)); refine blk_far ?_ NB257_262.out _; (with_reducible repeat (first | refine blk_drewN ?_ _ | refine blk_drew ?_ | refine blk_alloc ?_ _)); refine blk_far ?_ NB257_262.out _; (with_reducible repeat (first | refine blk_drewN ?_ _ | refine blk_drew ?_ | refine blk_alloc ?_ _)); exact BK257.out⟩, ⟨by refine bP #[.int .i64 ((rd_T38 l0_3 x4_1).f0), .int .i64 ((rd_T38 l0_3 x4_1).f1), .int .i64 ((rd_T38 l0_3 x4_1).f2), .string ((rd_T38 l0_3 x4_1).f3), .int .i64 0] 4 ?_; refine bP #[.int .i64 ((rd_T38 l0_3 x4_1).f0), .int .i64 ((rd_T38 l0_3 x4_1).f1), .int .i64 ((rd_T38 l0_3 x4_1).f2), .string (⟨#[]⟩ : ByteArray), .int .i64 0] 3 ?_; refine bP #[.int .i64 ((rd_T38 l0_3 x4_1).f0), .int .i64 ((rd_T38 l0_3 x4_1).f1), .int .i64 0, .string (⟨#[]⟩ : ByteArray), .int .i64 0] 2 ?_; refine bP #[.int .i64 ((rd_T38 l0_3 x4_1).f0), .int .i64 0, .int .i64 0, .string (⟨#[]⟩ : ByteArray), .int .i64 0] 1 ?_; refine bP #[.int .i64 0, .int .i64 0, .int .i64 0, .string (⟨#[]⟩ : ByteArray), .int .i64 0] 0 ?_; (with_reducible repeat (first | refine blk_drewN ?_ _ | refine blk_drew ?_ | refine blk_alloc ?_ _)); exact BK262.out⟩, ⟨bAt HB.out⟩⟩
       ·rw [if_neg c15] at H
        obtain ⟨c15b0, c15b1⟩ := neB c15
        have H' := Aside0.mk H
        clear H
        have hnb18 := NB262_257.out
        have hnc18 := NB257_262.out
        obtain ⟨hcz19_0, hcz19_1, hcz19_2, hcz19_3, hcz19_4, hfz19_0, hfz19_1, hfz19_2, hfz19_3, hfz19_4⟩ := blk5 BK262.out
        go_wp2
        go_meet
        case rel => exact ⟨_, ((((rd_T38 l0_3 x4_1).f0) != 6)), sR, H', ⟨by have := HK1.out; first | omega | exact Nat.le_refl _⟩, ⟨RAt (Kd.R_mono (Kd.R_far (p := ⟨gb262, 4, none⟩) (Kd.R_far (p := ⟨gb262, 3, none⟩) (Kd.R_far (p := ⟨gb262, 2, none⟩) (Kd.R_far (p := ⟨gb262, 1, none⟩) (Kd.R_far (p := ⟨gb262, 0, none⟩) (Kd.R_types HO_3.out BK262.out (by decide)) (fun _ hk => hk.2) (.int .i64 ((rd_T38 l0_3 x4_1).f0))) (fun _ hk => hk.2) (.int .i64 ((rd_T38 l0_3 x4_1).f1))) (fun _ hk => hk.2) (.int .i64 ((rd_T38 l0_3 x4_1).f2))) (fun _ hk => hk.2) (.string ((rd_T38 l0_3 x4_1).f3))) (fun _ hk => hk.2) (.int .i64 ((rd_T38 l0_3 x4_1).f4))) (fun _ hk => trivial))⟩, ⟨by (with_reducible repeat (first | refine blk_drewN ?_ _ | refine blk_drew ?_ | refine blk_alloc ?_ _)); refine blk_far ?_ NB257_262.out _; (with_reducible repeat (first | refine blk_drewN ?_ _ | refine blk_drew ?_ | refine blk_alloc ?_ _)); refine blk_far ?_ NB257_262.out _; (with_reducible repeat (first | refine blk_drewN ?_ _ | refine blk_drew ?_ | refine blk_alloc ?_ _)); refine blk_far ?_ NB257_262.out _; (with_reducible repeat (first | refine blk_drewN ?_ _ | refine blk_drew ?_ | refine blk_alloc ?_ _)); refine blk_far ?_ NB257_262.out _; (with_reducible repeat (first | refine blk_drewN ?_ _ | refine blk_drew ?_ | refine blk_alloc ?_ _)); refine blk_far ?_ NB257_262.out _; (with_reducible repeat (first | refine blk_drewN ?_ _ | refine blk_drew ?_ | refine blk_alloc ?_ _)); exact BK257.out⟩, ⟨by refine bP #[.int .i64 ((rd_T38 l0_3 x4_1).f0), .int .i64 ((rd_T38 l0_3 x4_1).f1), .int .i64 ((rd_T38 l0_3 x4_1).f2), .string ((rd_T38 l0_3 x4_1).f3), .int .i64 0] 4 ?_; refine bP #[.int .i64 ((rd_T38 l0_3 x4_1).f0), .int .i64 ((rd_T38 l0_3 x4_1).f1), .int .i64 ((rd_T38 l0_3 x4_1).f2), .string (⟨#[]⟩ : ByteArray), .int .i64 0] 3 ?_; refine bP #[.int .i64 ((rd_T38 l0_3 x4_1).f0), .int .i64 ((rd_T38 l0_3 x4_1).f1), .int .i64 0, .string (⟨#[]⟩ : ByteArray), .int .i64 0] 2 ?_; refine bP #[.int .i64 ((rd_T38 l0_3 x4_1).f0), .int .i64 0, .int .i64 0, .string (⟨#[]⟩ : ByteArray), .int .i64 0] 1 ?_; refine bP #[.int .i64 0, .int .i64 0, .int .i64 0, .string (⟨#[]⟩ : ByteArray), .int .i64 0] 0 ?_; (with_reducible repeat (first | refine blk_drewN ?_ _ | refine blk_drew ?_ | refine blk_alloc ?_ _)); exact BK262.out⟩, ⟨bAt HB.out⟩⟩
     case rest =>
      clear HC7
      try clear c1
      try clear p2
      try clear q2
      try clear hx2
      try clear c5
      try clear c5b0
      try clear c6
      try clear c6b0
      try clear c10
      try clear c11
      try clear c12
      try clear c12b0 c12b1
      try clear c13
      try clear c15
      try clear c15b0 c15b1
      try clear c16
      try clear c18
      try clear hcz11_0
      try clear hcz11_1
      try clear hcz11_2
      try clear hcz11_3
      try clear hcz11_4
      try clear hcz14_0
      try clear hcz14_1
      try clear hcz14_2
      try clear hcz14_3
      try clear hcz14_4
      try clear hcz17_0
      try clear hcz17_1
      try clear hcz17_2
      try clear hcz17_3
      try clear hcz17_4
      try clear hcz19_0
      try clear hcz19_1
      try clear hcz19_2
      try clear hcz19_3
      try clear hcz19_4
      try clear hcz8_0
      try clear hcz8_1
      try clear hcz8_2
      try clear hcz8_3
      try clear hfz11_0
      try clear hfz11_1
      try clear hfz11_2
      try clear hfz11_3
      try clear hfz11_4
      try clear hfz14_0
      try clear hfz14_1
      try clear hfz14_2
      try clear hfz14_3
      try clear hfz14_4
      try clear hfz17_0
      try clear hfz17_1
      try clear hfz17_2
      try clear hfz17_3
      try clear hfz17_4
      try clear hfz19_0
      try clear hfz19_1
      try clear hfz19_2
      try clear hfz19_3
      try clear hfz19_4
      try clear hfz8_0
      try clear hfz8_1
      try clear hfz8_2
      try clear hfz8_3
      try clear hx261_0
      try clear hx261_1
      try clear hx261_2
      try clear hx261_3
      try clear hx261_4
      try clear p2
      try clear p261
      try clear q261
      obtain ⟨kq, x33_6, rfl, HA, HJ6, HO_3, BK257, BK262, HB⟩ := hcut
      cases kq with
      | zero => exact absurd HA.out (by simp [tmesisref10_Names.j1])
      | succ kj6 =>
       have H := HA.out
       clear HA
       simp only [tmesisref10_Names.j1] at H
       by_cases c20 : x33_6 = true
       ·subst c20
        replace H := tP H
        have H' := Aside0.mk H
        clear H
        go_wp2
        go_roundg kj6
        case measure => have := HK1.out; have := HJ6.out; omega
        case rel => exact ⟨(x3_1), (wrap64 (x4_1 + 1)), sR, H', ⟨by have := HK1.out; have := HJ6.out; omega⟩, ⟨RAt HO_3.out⟩, ⟨kAt BK257.out⟩, ⟨bAt HB.out⟩⟩
       ·replace c20 := Bool.eq_false_iff.mpr c20
        subst c20
        replace H := fP H
        have H' := Aside0.mk H
        clear H
        go_wp2
        go_loopg [6] kj6 (fun kq v6 w' => ∃ (x6_3 : Int), v6 = .int .i64 x6_3 ∧ Aside0 (tmesisref10_Names.l1 kq x3_1 x4_1 x6_3 a0_0 a0_1 a0_2 l0_3 ((rd_T38 l0_3 x4_1).f0) ((rd_T38 l0_3 x4_1).f1) ((rd_T38 l0_3 x4_1).f2) ((rd_T38 l0_3 x4_1).f3) ((rd_T38 l0_3 x4_1).f4) = some r) ∧ Aside0 (kq ≤ kj6) ∧ Aside0 (Kd.R Kd.string 9 w' w.heap.size (fun _ => True) u3 x3_1) ∧ Aside0 (w'.heap[gb257]? = some (.cells #[.int .i64 a0_0, .int .i64 a0_1, .int .i64 a0_2, (.slice (some ad261) l0_3.length c0_3)] 25 (0, 0))) ∧ Aside0 (w'.heap[gb262]? = some (.cells #[.int .i64 ((rd_T38 l0_3 x4_1).f0), .int .i64 ((rd_T38 l0_3 x4_1).f1), .int .i64 ((rd_T38 l0_3 x4_1).f2), .string ((rd_T38 l0_3 x4_1).f3), .int .i64 ((rd_T38 l0_3 x4_1).f4)] 38 (0, 0))) ∧ Aside0 (Below w.heap.size w w'))
        case atStart => exact ⟨(0), sR, H', ⟨Nat.le_refl _⟩, ⟨RAt HO_3.out⟩, ⟨kAt BK257.out⟩, ⟨kAt BK262.out⟩, ⟨bAt HB.out⟩⟩
        case round =>
         clear H'
         try clear c1
         try clear c2
         try clear p2
         try clear q2
         try clear hx2
         try clear c5
         try clear c5b0
         try clear c6
         try clear c6b0
         try clear p6
         try clear c10
         try clear c11
         try clear c12
         try clear c12b0 c12b1
         try clear c13
         try clear c15
         try clear c15b0 c15b1
         try clear c16
         try clear c18
         try clear c20
         try clear hcz11_0
         try clear hcz11_1
         try clear hcz11_2
         try clear hcz11_3
         try clear hcz11_4
         try clear hcz14_0
         try clear hcz14_1
         try clear hcz14_2
         try clear hcz14_3
         try clear hcz14_4
         try clear hcz17_0
         try clear hcz17_1
         try clear hcz17_2
         try clear hcz17_3
         try clear hcz17_4
         try clear hcz19_0
         try clear hcz19_1
         try clear hcz19_2
         try clear hcz19_3
         try clear hcz19_4
         try clear hcz8_0
         try clear hcz8_1
         try clear hcz8_2
         try clear hcz8_3
         try clear hfz11_0
         try clear hfz11_1
         try clear hfz11_2
         try clear hfz11_3
         try clear hfz11_4
         try clear hfz14_0
         try clear hfz14_1
         try clear hfz14_2
         try clear hfz14_3
         try clear hfz14_4
         try clear hfz17_0
         try clear hfz17_1
         try clear hfz17_2
         try clear hfz17_3
         try clear hfz17_4
         try clear hfz19_0
         try clear hfz19_1
         try clear hfz19_2
         try clear hfz19_3
         try clear hfz19_4
         try clear hfz8_0
         try clear hfz8_1
         try clear hfz8_2
         try clear hfz8_3
         try clear hx261_0
         try clear hx261_1
         try clear hx261_2
         try clear hx261_3
         try clear hx261_4
         try clear p2
         try clear p261
         try clear q2
         try clear q261
         obtain ⟨x6_3, rfl, HA, HK3, HO_3, BK257, BK262, HB⟩ := hrel
         cases gk with
         | zero => exact absurd HA.out (by simp [tmesisref10_Names.l1])
         | succ k3 =>
          have H := HA.out
          clear HA
          simp only [tmesisref10_Names.l1] at H
          by_cases c21 : x6_3 < (x3_1.length : Int)
          ·rw [if_pos c21] at H
           have c21b0 := decide_eq_true c21
           clear c21
           by_cases c22 : 0 ≤ x6_3
           ·rw [if_pos c22] at H
            have c22b0 := decide_eq_true c22
            clear c22
            by_cases c23 : (Op.bytesLess ((rdOf ByteArray.empty x3_1 x6_3).toList) ((rd_T38 l0_3 x4_1).f3).toList) = true
            ·rw [if_pos c23] at H
             have c23b0 : (Op.bytesLess ((rdOf ByteArray.empty x3_1 x6_3).toList) ((rd_T38 l0_3 x4_1).f3).toList) = true := c23
             clear c23
             have H' := Aside0.mk H
             clear H
             try go_wp2
             replace HO_3 := Aside0.mk (Kd.R_drew HO_3.out)
             replace BK257 := Aside0.mk (blk_drew BK257.out)
             replace BK262 := Aside0.mk (blk_drew BK262.out)
             replace HB := Aside0.mk (below_drew1 HB.out)
             obtain ⟨Ao25, co25, eo25⟩ := Kd.R_slice HO_3.out
             (first | subst eo25 | (injection eo25 with f1_ f2_ f3_; have f4_ := f1_.symm; have f5_ := f3_.symm; clear f1_ f2_ f3_; subst f4_; subst f5_))
             have p263 : 0 ≤ (x6_3 : Int) := dt
             have q263 : x6_3 < (x3_1.length : Int) := dt
             obtain ⟨ad263, e263, hx263_0⟩ := Kd.at_string (Kd.R_reads' HO_3.out).2.2 x6_3 p263 q263
             cases e263
             replace p263 := eq_true p263
             replace q263 := eq_true q263
             refine start_ (n := 13) (S := fun w' => w'.cell? ⟨gb262, 0, none⟩ = some (.int .i64 ((rd_T38 l0_3 x4_1).f0)) ∧ w'.cell? ⟨gb262, 1, none⟩ = some (.int .i64 ((rd_T38 l0_3 x4_1).f1)) ∧ w'.cell? ⟨gb262, 2, none⟩ = some (.int .i64 ((rd_T38 l0_3 x4_1).f2)) ∧ w'.cell? ⟨gb262, 3, none⟩ = some (.string ((rd_T38 l0_3 x4_1).f3)) ∧ w'.cell? ⟨gb262, 4, none⟩ = some (.int .i64 ((rd_T38 l0_3 x4_1).f4)) ∧ w'.cell? (ad263.add (x6_3).toNat) = some (.string (rdOf ByteArray.empty x3_1 x6_3))) (ds := []) (bm 13 0) (by kernel_rfl) rfl rfl ⟨(blk_cell BK262.out 0).trans rfl, (blk_cell BK262.out 1).trans rfl, (blk_cell BK262.out 2).trans rfl, (blk_cell BK262.out 3).trans rfl, (blk_cell BK262.out 4).trans rfl, hx263_0⟩ (fun hHeld => ?_); refine with_tabW tmesisref10_Names.tab8 tmesisref10_Names.bits8 (fun HT_ HW_ => ?_)
             generalize wr.drew = w24 at HO_3 BK257 BK262 HB hx263_0 hHeld ⊢
             refine pv_ 0 (some 34) (bm 13 1) HT_.out ?_
             refine pv_ 1 (some 35) (bm 13 3) HT_.out ?_
             refine pv_ 2 (some 36) (bm 13 7) HT_.out ?_
             refine pv_ 3 (some 37) (bm 13 15) HT_.out ?_
             refine pv_ 4 (some 38) (bm 13 31) HT_.out ?_
             refine pv_ 5 (some 39) (bm 13 63) HT_.out ?_
             refine pv_ 6 (some 40) (bm 13 127) HT_.out ?_
             refine pv_ 7 (some 41) (bm 13 255) HT_.out ?_
             refine pv_ 9 (some 43) (bm 13 767) HT_.out ?_
             refine tk_ 8 (some 42) (bm 13 1023) HT_.out HW_.out hHeld ?_
             refine tk_ 10 (some 44) (bm 13 2047) HT_.out HW_.out hHeld ?_
             refine pv_ 11 (some 45) (bm 13 4095) HT_.out ?_
             refine pv_ 12 (some 46) (bm 13 8191) HT_.out ?_
             refine done_ (done_of HT_.out (by kernel_rfl)) ?_
             try go_wp2
             go_roundg k3
             case measure => have := HK1.out; have := HJ6.out; have := HK3.out; omega
             case rel => exact ⟨(wrap64 (x6_3 + 1)), sR, H', ⟨by have := HK1.out; have := HJ6.out; have := HK3.out; omega⟩, ⟨RAt HO_3.out⟩, ⟨kAt BK257.out⟩, ⟨kAt BK262.out⟩, ⟨bAt HB.out⟩⟩
            ·rw [if_neg c23] at H
             have c23b0 : (Op.bytesLess ((rdOf ByteArray.empty x3_1 x6_3).toList) ((rd_T38 l0_3 x4_1).f3).toList) = false := by simpa using c23
             clear c23
             by_cases c26 : x6_3 = (x3_1.length : Int)
             ·rw [if_pos c26] at H
              obtain ⟨c26b0, c26b1⟩ := eqB c26
              clear c26
              obtain ⟨y264, hy264⟩ : ∃ y_ : List ByteArray, y_ = (([] : List ByteArray)) := ⟨_, rfl⟩
              replace H : (if x6_3 ≤ (x3_1.length : Int) then ((some (x3_1.drop (x6_3 : Int).toNat : List ByteArray)).bind fun y267 => (if y264.length + y267.length < 8796093022208 then ((some (y264 ++ y267 : List ByteArray)).bind fun y271 => ((some (x3_1.take (x6_3 : Int).toNat : List ByteArray)).bind fun y274 => (if y274.length < 8796093022208 then ((some (y274 ++ [((rd_T38 l0_3 x4_1).f3)] : List ByteArray)).bind fun y277 => (if y277.length + y271.length < 8796093022208 then (tmesisref10_Names.l0 k3 (y277 ++ y271) (wrap64 (x4_1 + 1)) a0_0 a0_1 a0_2 l0_3) else (none))) else (none)))) else (none))) else (none)) = some r := by first | (rw [hy264]; with_reducible exact H) | (have H2_ := (Option.bind_some _ _).symm.trans H; rw [hy264]; with_reducible exact H2_) | (have H2_ := (Option.bind_some _ _).symm.trans H; with_reducible exact H2_) | with_reducible exact H | (rw [hy264]; exact H) | exact H
              have Ny264 := Aside0.mk hy264
              clear hy264
              have c27b0 := eq_true (dt : 0 ≤ x6_3)
              by_cases c28 : x6_3 ≤ (x3_1.length : Int)
              ·rw [if_pos c28] at H
               have c28b0 := eq_true c28
               have c28b1 := decide_eq_true c28
               clear c28
               obtain ⟨y267, hy267⟩ : ∃ y_ : List ByteArray, y_ = (x3_1.drop (x6_3 : Int).toNat) := ⟨_, rfl⟩
               replace H : (if y264.length + y267.length < 8796093022208 then ((some (y264 ++ y267 : List ByteArray)).bind fun y271 => ((some (x3_1.take (x6_3 : Int).toNat : List ByteArray)).bind fun y274 => (if y274.length < 8796093022208 then ((some (y274 ++ [((rd_T38 l0_3 x4_1).f3)] : List ByteArray)).bind fun y277 => (if y277.length + y271.length < 8796093022208 then (tmesisref10_Names.l0 k3 (y277 ++ y271) (wrap64 (x4_1 + 1)) a0_0 a0_1 a0_2 l0_3) else (none))) else (none)))) else (none)) = some r := by first | (rw [hy267]; with_reducible exact H) | (have H2_ := (Option.bind_some _ _).symm.trans H; rw [hy267]; with_reducible exact H2_) | (have H2_ := (Option.bind_some _ _).symm.trans H; with_reducible exact H2_) | with_reducible exact H | (rw [hy267]; exact H) | exact H
               have Ny267 := Aside0.mk hy267
               clear hy267
               by_cases c29 : y264.length + y267.length < 8796093022208
               ·rw [if_pos c29] at H
                have LMc29 := Aside0.mk c29
                clear c29
                obtain ⟨y271, hy271⟩ : ∃ y_ : List ByteArray, y_ = (y264 ++ y267) := ⟨_, rfl⟩
                replace H : ((some (x3_1.take (x6_3 : Int).toNat : List ByteArray)).bind fun y274 => (if y274.length < 8796093022208 then ((some (y274 ++ [((rd_T38 l0_3 x4_1).f3)] : List ByteArray)).bind fun y277 => (if y277.length + y271.length < 8796093022208 then (tmesisref10_Names.l0 k3 (y277 ++ y271) (wrap64 (x4_1 + 1)) a0_0 a0_1 a0_2 l0_3) else (none))) else (none))) = some r := by first | (rw [hy271]; with_reducible exact H) | (have H2_ := (Option.bind_some _ _).symm.trans H; rw [hy271]; with_reducible exact H2_) | (have H2_ := (Option.bind_some _ _).symm.trans H; with_reducible exact H2_) | with_reducible exact H | (rw [hy271]; exact H) | exact H
                have Ny271 := Aside0.mk hy271
                clear hy271
                have c30b0 := eq_true (dt : x6_3 ≤ (x3_1.length : Int))
                obtain ⟨y274, hy274⟩ : ∃ y_ : List ByteArray, y_ = (x3_1.take (x6_3 : Int).toNat) := ⟨_, rfl⟩
                replace H : (if y274.length < 8796093022208 then ((some (y274 ++ [((rd_T38 l0_3 x4_1).f3)] : List ByteArray)).bind fun y277 => (if y277.length + y271.length < 8796093022208 then (tmesisref10_Names.l0 k3 (y277 ++ y271) (wrap64 (x4_1 + 1)) a0_0 a0_1 a0_2 l0_3) else (none))) else (none)) = some r := by first | (rw [hy274]; with_reducible exact H) | (have H2_ := (Option.bind_some _ _).symm.trans H; rw [hy274]; with_reducible exact H2_) | (have H2_ := (Option.bind_some _ _).symm.trans H; with_reducible exact H2_) | with_reducible exact H | (rw [hy274]; exact H) | exact H
                have Ny274 := Aside0.mk hy274
                clear hy274
                by_cases c31 : y274.length < 8796093022208
                ·rw [if_pos c31] at H
                 have LMc31 := Aside0.mk c31
                 clear c31
                 obtain ⟨y277, hy277⟩ : ∃ y_ : List ByteArray, y_ = (y274 ++ [((rd_T38 l0_3 x4_1).f3)]) := ⟨_, rfl⟩
                 replace H : (if y277.length + y271.length < 8796093022208 then (tmesisref10_Names.l0 k3 (y277 ++ y271) (wrap64 (x4_1 + 1)) a0_0 a0_1 a0_2 l0_3) else (none)) = some r := by first | (rw [hy277]; with_reducible exact H) | (have H2_ := (Option.bind_some _ _).symm.trans H; rw [hy277]; with_reducible exact H2_) | (have H2_ := (Option.bind_some _ _).symm.trans H; with_reducible exact H2_) | with_reducible exact H | (rw [hy277]; exact H) | exact H
                 have Ny277 := Aside0.mk hy277
                 clear hy277
                 by_cases c32 : y277.length + y271.length < 8796093022208
                 ·rw [if_pos c32] at H
                  have LMc32 := Aside0.mk c32
                  clear c32
                  obtain ⟨y280, hy280⟩ : ∃ y_ : List ByteArray, y_ = (y277 ++ y271) := ⟨_, rfl⟩
                  replace H : (tmesisref10_Names.l0 k3 y280 (wrap64 (x4_1 + 1)) a0_0 a0_1 a0_2 l0_3) = some r := by first | (rw [hy280]; with_reducible exact H) | (have H2_ := (Option.bind_some _ _).symm.trans H; rw [hy280]; with_reducible exact H2_) | (have H2_ := (Option.bind_some _ _).symm.trans H; with_reducible exact H2_) | with_reducible exact H | (rw [hy280]; exact H) | exact H
                  have Ny280 := Aside0.mk hy280
                  clear hy280
                  have H' := Aside0.mk H
                  clear H
                  try go_wp2
                  replace HO_3 := Aside0.mk (Kd.R_drew HO_3.out)
                  replace BK257 := Aside0.mk (blk_drew BK257.out)
                  replace BK262 := Aside0.mk (blk_drew BK262.out)
                  replace HB := Aside0.mk (below_drew1 HB.out)
                  obtain ⟨Ao34, co34, eo34⟩ := Kd.R_slice HO_3.out
                  (first | subst eo34 | (injection eo34 with f1_ f2_ f3_; have f4_ := f1_.symm; have f5_ := f3_.symm; clear f1_ f2_ f3_; subst f4_; subst f5_))
                  have p263 : 0 ≤ (x6_3 : Int) := dt
                  have q263 : x6_3 < (x3_1.length : Int) := dt
                  obtain ⟨ad263, e263, hx263_0⟩ := Kd.at_string (Kd.R_reads' HO_3.out).2.2 x6_3 p263 q263
                  cases e263
                  replace p263 := eq_true p263
                  replace q263 := eq_true q263
                  refine start_ (n := 13) (S := fun w' => w'.cell? ⟨gb262, 0, none⟩ = some (.int .i64 ((rd_T38 l0_3 x4_1).f0)) ∧ w'.cell? ⟨gb262, 1, none⟩ = some (.int .i64 ((rd_T38 l0_3 x4_1).f1)) ∧ w'.cell? ⟨gb262, 2, none⟩ = some (.int .i64 ((rd_T38 l0_3 x4_1).f2)) ∧ w'.cell? ⟨gb262, 3, none⟩ = some (.string ((rd_T38 l0_3 x4_1).f3)) ∧ w'.cell? ⟨gb262, 4, none⟩ = some (.int .i64 ((rd_T38 l0_3 x4_1).f4)) ∧ w'.cell? (ad263.add (x6_3).toNat) = some (.string (rdOf ByteArray.empty x3_1 x6_3))) (ds := []) (bm 13 0) (by kernel_rfl) rfl rfl ⟨(blk_cell BK262.out 0).trans rfl, (blk_cell BK262.out 1).trans rfl, (blk_cell BK262.out 2).trans rfl, (blk_cell BK262.out 3).trans rfl, (blk_cell BK262.out 4).trans rfl, hx263_0⟩ (fun hHeld => ?_); refine with_tabW tmesisref10_Names.tab8 tmesisref10_Names.bits8 (fun HT_ HW_ => ?_)
                  generalize wr.drew = w33 at HO_3 BK257 BK262 HB hx263_0 hHeld ⊢
                  refine pv_ 0 (some 34) (bm 13 1) HT_.out ?_
                  refine pv_ 1 (some 35) (bm 13 3) HT_.out ?_
                  refine pv_ 2 (some 36) (bm 13 7) HT_.out ?_
                  refine pv_ 3 (some 37) (bm 13 15) HT_.out ?_
                  refine pv_ 4 (some 38) (bm 13 31) HT_.out ?_
                  refine pv_ 5 (some 39) (bm 13 63) HT_.out ?_
                  refine pv_ 6 (some 40) (bm 13 127) HT_.out ?_
                  refine pv_ 7 (some 41) (bm 13 255) HT_.out ?_
                  refine pv_ 9 (some 43) (bm 13 767) HT_.out ?_
                  refine tk_ 8 (some 42) (bm 13 1023) HT_.out HW_.out hHeld ?_
                  refine tk_ 10 (some 44) (bm 13 2047) HT_.out HW_.out hHeld ?_
                  refine pv_ 11 (some 45) (bm 13 4095) HT_.out ?_
                  refine pv_ 12 (some 46) (bm 13 8191) HT_.out ?_
                  refine done_ (done_of HT_.out (by kernel_rfl)) ?_
                  try go_wp2
                  replace HO_3 := Aside0.mk (Kd.R_drew HO_3.out)
                  replace BK257 := Aside0.mk (blk_drew BK257.out)
                  replace BK262 := Aside0.mk (blk_drew BK262.out)
                  replace HB := Aside0.mk (below_drew1 HB.out)
                  refine start_ (n := 13) (S := fun w' => True) (ds := []) (bm 13 0) (by kernel_rfl) rfl rfl trivial (fun hHeld => ?_); refine with_tabW tmesisref10_Names.tab10 tmesisref10_Names.bits10 (fun HT_ HW_ => ?_)
                  generalize w33.drew = w35 at HO_3 BK257 BK262 HB hHeld ⊢
                  refine pv_ 0 (some 49) (bm 13 1) HT_.out ?_
                  refine pv_ 1 (some 50) (bm 13 3) HT_.out ?_
                  refine pv_ 2 (some 51) (bm 13 7) HT_.out ?_
                  refine pv_ 3 (some 52) (bm 13 15) HT_.out ?_
                  refine pv_ 4 (some 53) (bm 13 31) HT_.out ?_
                  refine pu_ 5 (some 54) (bm 13 63) HT_.out ?_
                  refine pu_ 6 (some 55) (bm 13 127) HT_.out ?_
                  refine pu_ 7 (some 56) (bm 13 255) HT_.out ?_
                  refine pu_ 8 (some 57) (bm 13 511) HT_.out ?_
                  refine pu_ 9 (some 58) (bm 13 1023) HT_.out ?_
                  refine pu_ 10 (some 59) (bm 13 2047) HT_.out ?_
                  refine pu_ 11 (some 60) (bm 13 4095) HT_.out ?_
                  refine pv_ 12 (some 61) (bm 13 8191) HT_.out ?_
                  refine done_ (done_of HT_.out (by kernel_rfl)) ?_
                  try go_wp2_with (first | ((with_reducible refine gate_dst (N := 62) rfl ?_); refine Kd.R_lit Kd.string _ 9 ?hg (N := 62) ?hd (xs := ([] : List ByteArray)) (inner := []) (ok := fun _ => True) (okp := fun _ => True) ?hr ?hp (fun _ hk => hk) trivial (Below.refl _ _) (Nat.le_refl _) (by simp) ?_; (case hd => rfl); (case hg => rfl); (case hr => first | (go_simp; done) | (go_simp; rfl)); (case hp => exact (Reps.none _ _)); intro v265 w36 ho37 hb hg_ hnew_; clear hg_ hnew_; (first | rw [← Ny264.out] at ho37 | (simp only [Int.reduceToNat] at ho37; rw [← Ny264.out] at ho37)); have HO266 := Aside0.mk (Kd.R_lower (Kd.R_new' ho37 (Kd.R_lt (RAt HO_3.out))) (below_size (bAt HB.out))); replace HO_3 := Aside0.mk (Kd.R_elder' (RAt HO_3.out) (Kd.R_base ho37) hb); replace BK257 := Aside0.mk (blk_below (g := gb257) (o := .cells #[.int .i64 a0_0, .int .i64 a0_1, .int .i64 a0_2, .slice (some ad261) l0_3.length c0_3] 25 (0, 0)) (kAt BK257.out) hb); replace BK262 := Aside0.mk (blk_below (g := gb262) (o := .cells #[.int .i64 ((rd_T38 l0_3 x4_1).f0), .int .i64 ((rd_T38 l0_3 x4_1).f1), .int .i64 ((rd_T38 l0_3 x4_1).f2), .string ((rd_T38 l0_3 x4_1).f3), .int .i64 ((rd_T38 l0_3 x4_1).f4)] 38 (0, 0)) (kAt BK262.out) hb); replace HB := Aside0.mk (below_step (bAt HB.out) hb); clear hb ho37; have q38 : (x6_3 : Int) ≤ ((x3_1.length : Int) : Int) := dt; obtain ⟨i038, hi038, _, hsz38, _⟩ := info_parts info9; have hroom38 : x3_1.length ≤ co34 := (Kd.R_reads' HO_3.out).2.1; have hC38 : Kd.C Kd.string _ (some ad263) x3_1.length x3_1 := (Kd.R_reads' HO_3.out).2.2; have q038 : (0 : Int) ≤ (x6_3 : Int) := dt; have hcut38 := cut_from (P := Tryd.prog) 27 9 .i64 Tryd.underlying27 hi038 1 hsz38 (some ad263) x3_1.length co34 x6_3 q038 q38; have hr38 := Kd.C_drop (m := (x6_3 : Int).toNat) (c := co34) hC38 (by omega) hroom38; obtain ⟨A38, hA38⟩ : ∃ A1, A1 = (if co34 = (x6_3 : Int).toNat then (some ad263) else ((some ad263) : Option Addr).map (·.add ((x6_3 : Int).toNat * 1))) := ⟨_, rfl⟩; obtain ⟨c38, hc38⟩ : ∃ c1, c1 = co34 - (x6_3 : Int).toNat := ⟨_, rfl⟩; have hy38 : y267.length = x3_1.length - (x6_3 : Int).toNat := (by rw [Ny267.out, List.length_drop] <;> omega); rw [show (x3_1).drop (x6_3 : Int).toNat = y267 from Ny267.out.symm] at hr38; replace hr38 : Kd.C Kd.string _ A38 y267.length y267 := (by rw [hA38]; exact hr38); rw [← hy38, ← hA38, ← hc38] at hcut38; have HR270 := Aside0.mk hr38; have HC270 := Aside0.mk (show y267.length ≤ c38 from by rw [hy38, hc38]; exact Nat.sub_le_sub_right hroom38 _); clear hr38 hC38 hroom38 hi038 hsz38 hc38; have KY38 := Aside0.mk hy38; have KA38 := Aside0.mk hA38; clear hy38 hA38; have KL38 := Aside0.mk (show (x6_3 : Int).toNat ≤ x3_1.length from by omega); replace q38 := eq_true q38) | ((with_reducible refine gate_builtin (b := .append) (xs := #[.tmp 62, .tmp 65]) rfl ?_); at_builtin; refine Kd.R_append_rows Kd.string (w0 := w) w.heap.size rfl (.tmp 62) (.tmp 65) 27 9 (.string ⟨#[]⟩) 16 rfl Tryd.underlying27 info9 rfl (by decide) (by omega) v265 y264 y267 _ _ _ (fun k_ => some k_ ≠ (.slice (some ad263) x3_1.length co34 : Value).ownBlock) (fun _ => False) rfl rfl ?aO ?aR (fun _ _ h => h) (fun _ h => h.elim) ?aF ?aB ?aS ?aL ?_; (case aR => repeat (first | exact (CAt HR270.out) | (with_reducible refine Kd.C_alloc ?_ _) | (with_reducible refine Kd.C_drewN ?_ _) | (with_reducible refine Kd.C_drew ?_))); (case aB => exact (bAt HB.out)); (case aF => exact (fun k_ hk => Kd.fresh' (Kd.R_lt (RAt HO_3.out)) k_ hk)); (case aO => exact (RAt (Kd.R_mono HO266.out (fun _ hk => hk.2)))); (case aS => exact (below_size (bAt HB.out))); (case aL => have := LMc29.out; omega); intro v272 w39 ho hb hg hat; rw [← Ny271.out] at ho; replace BK257 := Aside0.mk (blk_grown (g := gb257) (o := .cells #[.int .i64 a0_0, .int .i64 a0_1, .int .i64 a0_2, .slice (some ad261) l0_3.length c0_3] 25 (0, 0)) (kAt BK257.out) hg (Kd.R_ne HO266.out BK257.out (by decide))); replace BK262 := Aside0.mk (blk_grown (g := gb262) (o := .cells #[.int .i64 ((rd_T38 l0_3 x4_1).f0), .int .i64 ((rd_T38 l0_3 x4_1).f1), .int .i64 ((rd_T38 l0_3 x4_1).f2), .string ((rd_T38 l0_3 x4_1).f3), .int .i64 ((rd_T38 l0_3 x4_1).f4)] 38 (0, 0)) (kAt BK262.out) hg (Kd.R_ne HO266.out BK262.out (by decide))); replace HB := Aside0.mk (hb); replace HR270 := Aside0.mk ((show Kd.C Kd.string w39 A38 y267.length y267 from by rw [Ny267.out, KA38.out]; exact Kd.C_drop (m := (x6_3 : Int).toNat) (c := co34) ((Kd.R_reads' (Kd.R_after (ok := (fun _ => True)) (RAt HO_3.out) hg hat)).2.2) KL38.out ((Kd.R_reads' (Kd.R_after (ok := (fun _ => True)) (RAt HO_3.out) hg hat)).2.1))); replace HO_3 := Aside0.mk (Kd.R_after (ok := (fun _ => True)) (RAt HO_3.out) hg hat); have HO273 := Aside0.mk (ho); clear HO266; clear ho hb hg hat))
                  replace HO_3 := Aside0.mk (Kd.R_drew HO_3.out)
                  replace HO273 := Aside0.mk (Kd.R_drew HO273.out)
                  replace BK257 := Aside0.mk (blk_drew BK257.out)
                  replace BK262 := Aside0.mk (blk_drew BK262.out)
                  replace HR270 := Aside0.mk (Kd.C_drew HR270.out)
                  replace HB := Aside0.mk (below_drew1 HB.out)
                  have q41 : (x6_3 : Int) ≤ ((x3_1.length : Int) : Int) := dt
                  obtain ⟨i041, hi041, _, hsz41, _⟩ := info_parts info9
                  have hcut41 := cut_to (P := Tryd.prog) 27 9 .i64 Tryd.underlying27 hi041 (some ad263) x3_1.length co34 x6_3 dt q41 (Kd.R_reads' HO_3.out).2.1
                  have hr41 := Kd.R_take (m := (x6_3 : Int).toNat) HO_3.out (by omega)
                  have hy41 : y274.length = (x6_3 : Int).toNat := (by rw [Ny274.out, List.length_take]; omega)
                  rw [← Ny274.out] at hr41
                  rw [← hy41] at hr41 hcut41
                  clear hy41 hi041 hsz41 HO_3
                  have HO276 := Aside0.mk hr41
                  clear hr41
                  replace q41 := eq_true q41
                  refine start_ (n := 10) (S := fun w' => w'.cell? ⟨gb262, 0, none⟩ = some (.int .i64 ((rd_T38 l0_3 x4_1).f0)) ∧ w'.cell? ⟨gb262, 1, none⟩ = some (.int .i64 ((rd_T38 l0_3 x4_1).f1)) ∧ w'.cell? ⟨gb262, 2, none⟩ = some (.int .i64 ((rd_T38 l0_3 x4_1).f2)) ∧ w'.cell? ⟨gb262, 3, none⟩ = some (.string ((rd_T38 l0_3 x4_1).f3)) ∧ w'.cell? ⟨gb262, 4, none⟩ = some (.int .i64 ((rd_T38 l0_3 x4_1).f4))) (ds := []) (bm 10 0) (by kernel_rfl) rfl rfl ⟨(blk_cell BK262.out 0).trans rfl, (blk_cell BK262.out 1).trans rfl, (blk_cell BK262.out 2).trans rfl, (blk_cell BK262.out 3).trans rfl, (blk_cell BK262.out 4).trans rfl⟩ (fun hHeld => ?_); refine with_tabW tmesisref10_Names.tab12 tmesisref10_Names.bits12 (fun HT_ HW_ => ?_)
                  generalize w39.drew = w40 at HO_3 HO273 BK257 BK262 HR270 HB HO276 hHeld ⊢
                  refine pv_ 0 (some 67) (bm 10 1) HT_.out ?_
                  refine pv_ 1 (some 68) (bm 10 3) HT_.out ?_
                  refine pv_ 2 (some 69) (bm 10 7) HT_.out ?_
                  refine pv_ 3 (some 70) (bm 10 15) HT_.out ?_
                  refine pv_ 7 (some 74) (bm 10 143) HT_.out ?_
                  refine tk_ 4 (some 71) (bm 10 159) HT_.out HW_.out hHeld ?_
                  refine one_ (i := 5) (N := some 72) (bm 10 191) rfl rfl (one_of HT_.out (by kernel_rfl)) (by decide) (fun K hK => ?_)
                  refine value_ (w1 := ?_) (v := ?_) (by rfl) rfl ?_ ?_
                  rotate_left 2
                  ·go_simp
                   constructor
                   ·rfl
                   ·rfl
                  refine hK.out _ _ ⟨(blk_cell (blk_alloc BK262.out _) 0).trans rfl, (blk_cell (blk_alloc BK262.out _) 1).trans rfl, (blk_cell (blk_alloc BK262.out _) 2).trans rfl, (blk_cell (blk_alloc BK262.out _) 3).trans rfl, (blk_cell (blk_alloc BK262.out _) 4).trans rfl⟩ (fun hHeld => ?_)
                  clear hK K
                  refine norm_ (a' := ?_) ?_ ?_
                  rotate_left
                  ·show Act.put _ (some 72) _ = _
                   simp only [Act.put, List.setIfInBounds_toArray, List.set_cons_zero, List.set_cons_succ, i64_w, i32_w]
                   rfl
                  refine one_ (i := 6) (N := some 73) (bm 10 255) rfl rfl (one_of HT_.out (by kernel_rfl)) (by decide) (fun K hK => ?_)
                  refine Kd.R_append_step Kd.string (w0 := w) w.heap.size (by rfl) (.tmp 69) (.tmp 72) 27 9 (.string ⟨#[]⟩) 16 rfl Tryd.underlying27 info9 rfl (by decide) (by omega) (.slice (some ad263) y274.length co34) y274 ((rd_T38 l0_3 x4_1).f3) [.string ((rd_T38 l0_3 x4_1).f3)] (fun k_ => some k_ ≠ (v272 : Value).ownBlock) (fun _ => False) rfl rfl ?aP (fun _ hk => hk.elim) ?aF ?aO ?aB ?aS ?aL ?_
                  (case aP => exact rfl)
                  (case aB => exact (bAt HB.out))
                  (case aF => exact (fun k_ hk => Kd.fresh' (Kd.R_lt (RAt HO273.out)) k_ hk))
                  (case aO => exact (RAt (Kd.R_mono HO276.out (fun _ hk => hk.2))))
                  (case aS => exact (below_size (bAt HB.out)))
                  (case aL => have := LMc31.out; omega)
                  intro v278 w42 ho hb hg hat
                  rw [← Ny277.out] at ho
                  have n0_ := Aside0.mk (blk_grown (g := gb257) (o := .cells #[.int .i64 a0_0, .int .i64 a0_1, .int .i64 a0_2, .slice (some ad261) l0_3.length c0_3] 25 (0, 0)) (kAt BK257.out) hg (Kd.R_ne HO276.out BK257.out (by decide)))
                  have n1_ := Aside0.mk (blk_grown (g := gb262) (o := .cells #[.int .i64 ((rd_T38 l0_3 x4_1).f0), .int .i64 ((rd_T38 l0_3 x4_1).f1), .int .i64 ((rd_T38 l0_3 x4_1).f2), .string ((rd_T38 l0_3 x4_1).f3), .int .i64 ((rd_T38 l0_3 x4_1).f4)] 38 (0, 0)) (kAt BK262.out) hg (Kd.R_ne HO276.out BK262.out (by decide)))
                  have n2_ := Aside0.mk (Kd.R_after (ok := (fun _ => True)) (RAt (Kd.R_mono HO273.out (fun _ hk => ⟨trivial, (by first | exact hk | exact ob_ne hk)⟩))) hg hat)
                  have n3_ := Aside0.mk (hb)
                  have n4_ := Aside0.mk (ho)
                  clear BK257 BK262 HO273 HB HO276
                  have BK257 := n0_
                  have BK262 := n1_
                  have HO273 := n2_
                  have HB := n3_
                  have HO279 := n4_
                  clear n0_ n1_ n2_ n3_ n4_ ho hb hg hat
                  obtain ⟨Ao44, co44, eo44⟩ := Kd.R_slice HO273.out
                  (first | subst eo44 | (injection eo44 with f1_ f2_ f3_; have f4_ := f1_.symm; have f5_ := f3_.symm; clear f1_ f2_ f3_; subst f4_; subst f5_))
                  refine hK.out _ _ ⟨(blk_cell BK262.out 0).trans rfl, (blk_cell BK262.out 1).trans rfl, (blk_cell BK262.out 2).trans rfl, (blk_cell BK262.out 3).trans rfl, (blk_cell BK262.out 4).trans rfl⟩ (fun hHeld => ?_)
                  clear hK K
                  refine norm_ (a' := ?_) ?_ ?_
                  rotate_left
                  ·show Act.put _ (some 73) _ = _
                   simp only [Act.put, List.setIfInBounds_toArray, List.set_cons_zero, List.set_cons_succ, i64_w, i32_w]
                   rfl
                  refine one_ (i := 8) (N := some 75) (bm 10 511) rfl rfl (one_of HT_.out (by kernel_rfl)) (by decide) (fun K hK => ?_)
                  refine Kd.R_append_rows_step Kd.string (w0 := w) w.heap.size (by rfl) (.tmp 73) (.tmp 74) 27 9 (.string ⟨#[]⟩) 16 rfl Tryd.underlying27 info9 rfl (by decide) (by omega) v278 y277 y271 _ _ _ (fun k_ => some k_ ≠ (.slice Ao44 y271.length co44 : Value).ownBlock) (fun _ => False) rfl rfl ?aO ?aR (fun _ _ h => h) (fun _ h => h.elim) ?aF ?aB ?aS ?aL ?_
                  (case aR => repeat (first | exact (Kd.R_reads' HO273.out).2.2 | (with_reducible refine Kd.C_alloc ?_ _) | (with_reducible refine Kd.C_drewN ?_ _) | (with_reducible refine Kd.C_drew ?_)))
                  (case aB => exact (bAt HB.out))
                  (case aF => exact (fun k_ hk => Kd.fresh' (Kd.R_lt (RAt HO273.out)) k_ hk))
                  (case aO => exact (RAt HO279.out))
                  (case aS => exact (below_size (bAt HB.out)))
                  (case aL => have := LMc32.out; omega)
                  intro v281 w43 ho hb hg hat
                  rw [← Ny280.out] at ho
                  have n0_ := Aside0.mk (blk_grown (g := gb257) (o := .cells #[.int .i64 a0_0, .int .i64 a0_1, .int .i64 a0_2, .slice (some ad261) l0_3.length c0_3] 25 (0, 0)) (kAt BK257.out) hg (Kd.R_ne HO279.out BK257.out (by decide)))
                  have n1_ := Aside0.mk (blk_grown (g := gb262) (o := .cells #[.int .i64 ((rd_T38 l0_3 x4_1).f0), .int .i64 ((rd_T38 l0_3 x4_1).f1), .int .i64 ((rd_T38 l0_3 x4_1).f2), .string ((rd_T38 l0_3 x4_1).f3), .int .i64 ((rd_T38 l0_3 x4_1).f4)] 38 (0, 0)) (kAt BK262.out) hg (Kd.R_ne HO279.out BK262.out (by decide)))
                  have n2_ := Aside0.mk (Kd.R_after (ok := (fun _ => True)) (RAt HO273.out) hg hat)
                  have n3_ := Aside0.mk (hb)
                  have n4_ := Aside0.mk (ho)
                  clear BK257 BK262 HO273 HB HO279
                  have BK257 := n0_
                  have BK262 := n1_
                  have HO273 := n2_
                  have HB := n3_
                  have HO282 := n4_
                  clear n0_ n1_ n2_ n3_ n4_ ho hb hg hat
                  refine hK.out _ _ ⟨(blk_cell BK262.out 0).trans rfl, (blk_cell BK262.out 1).trans rfl, (blk_cell BK262.out 2).trans rfl, (blk_cell BK262.out 3).trans rfl, (blk_cell BK262.out 4).trans rfl⟩ (fun hHeld => ?_)
                  clear hK K
                  refine norm_ (a' := ?_) ?_ ?_
                  rotate_left
                  ·show Act.put _ (some 75) _ = _
                   simp only [Act.put, List.setIfInBounds_toArray, List.set_cons_zero, List.set_cons_succ, i64_w, i32_w]
                   rfl
                  refine pv_ 9 (some 3) (bm 10 1023) HT_.out ?_
                  refine done_ (done_of HT_.out (by kernel_rfl)) ?_
                  try go_wp2
                  go_roundg k3
                  case measure => have := HK1.out; have := HJ6.out; have := HK3.out; omega
                  case rel => exact ⟨(y280), (wrap64 (x4_1 + 1)), sR, H', ⟨by have := HK1.out; have := HJ6.out; have := HK3.out; omega⟩, ⟨RAt (Kd.R_mono HO282.out (fun _ hk => trivial))⟩, ⟨kAt BK257.out⟩, ⟨bAt HB.out⟩⟩
                 ·exact nB H c32
                ·exact nB H c31
               ·exact nB H c29
              ·exact nB H c28
             ·rw [if_neg c26] at H
              obtain ⟨c26b0, c26b1⟩ := neB c26
              by_cases c45 : (rdOf ByteArray.empty x3_1 x6_3).toList = ((rd_T38 l0_3 x4_1).f3).toList
              ·rw [if_pos c45] at H
               obtain ⟨c45b0, c45b1⟩ := eqB c45
               clear c45
               have H' := Aside0.mk H
               clear H
               try go_wp2
               replace HO_3 := Aside0.mk (Kd.R_drew HO_3.out)
               replace BK257 := Aside0.mk (blk_drew BK257.out)
               replace BK262 := Aside0.mk (blk_drew BK262.out)
               replace HB := Aside0.mk (below_drew1 HB.out)
               obtain ⟨Ao47, co47, eo47⟩ := Kd.R_slice HO_3.out
               (first | subst eo47 | (injection eo47 with f1_ f2_ f3_; have f4_ := f1_.symm; have f5_ := f3_.symm; clear f1_ f2_ f3_; subst f4_; subst f5_))
               have p263 : 0 ≤ (x6_3 : Int) := dt
               have q263 : x6_3 < (x3_1.length : Int) := dt
               obtain ⟨ad263, e263, hx263_0⟩ := Kd.at_string (Kd.R_reads' HO_3.out).2.2 x6_3 p263 q263
               cases e263
               replace p263 := eq_true p263
               replace q263 := eq_true q263
               refine start_ (n := 13) (S := fun w' => w'.cell? ⟨gb262, 0, none⟩ = some (.int .i64 ((rd_T38 l0_3 x4_1).f0)) ∧ w'.cell? ⟨gb262, 1, none⟩ = some (.int .i64 ((rd_T38 l0_3 x4_1).f1)) ∧ w'.cell? ⟨gb262, 2, none⟩ = some (.int .i64 ((rd_T38 l0_3 x4_1).f2)) ∧ w'.cell? ⟨gb262, 3, none⟩ = some (.string ((rd_T38 l0_3 x4_1).f3)) ∧ w'.cell? ⟨gb262, 4, none⟩ = some (.int .i64 ((rd_T38 l0_3 x4_1).f4)) ∧ w'.cell? (ad263.add (x6_3).toNat) = some (.string (rdOf ByteArray.empty x3_1 x6_3))) (ds := []) (bm 13 0) (by kernel_rfl) rfl rfl ⟨(blk_cell BK262.out 0).trans rfl, (blk_cell BK262.out 1).trans rfl, (blk_cell BK262.out 2).trans rfl, (blk_cell BK262.out 3).trans rfl, (blk_cell BK262.out 4).trans rfl, hx263_0⟩ (fun hHeld => ?_); refine with_tabW tmesisref10_Names.tab8 tmesisref10_Names.bits8 (fun HT_ HW_ => ?_)
               generalize wr.drew = w46 at HO_3 BK257 BK262 HB hx263_0 hHeld ⊢
               refine pv_ 0 (some 34) (bm 13 1) HT_.out ?_
               refine pv_ 1 (some 35) (bm 13 3) HT_.out ?_
               refine pv_ 2 (some 36) (bm 13 7) HT_.out ?_
               refine pv_ 3 (some 37) (bm 13 15) HT_.out ?_
               refine pv_ 4 (some 38) (bm 13 31) HT_.out ?_
               refine pv_ 5 (some 39) (bm 13 63) HT_.out ?_
               refine pv_ 6 (some 40) (bm 13 127) HT_.out ?_
               refine pv_ 7 (some 41) (bm 13 255) HT_.out ?_
               refine pv_ 9 (some 43) (bm 13 767) HT_.out ?_
               refine tk_ 8 (some 42) (bm 13 1023) HT_.out HW_.out hHeld ?_
               refine tk_ 10 (some 44) (bm 13 2047) HT_.out HW_.out hHeld ?_
               refine pv_ 11 (some 45) (bm 13 4095) HT_.out ?_
               refine pv_ 12 (some 46) (bm 13 8191) HT_.out ?_
               refine done_ (done_of HT_.out (by kernel_rfl)) ?_
               try go_wp2
               replace HO_3 := Aside0.mk (Kd.R_drew HO_3.out)
               replace BK257 := Aside0.mk (blk_drew BK257.out)
               replace BK262 := Aside0.mk (blk_drew BK262.out)
               replace HB := Aside0.mk (below_drew1 HB.out)
               have p283 : 0 ≤ (x6_3 : Int) := dt
               have q283 : x6_3 < (x3_1.length : Int) := dt
               obtain ⟨ad283, e283, hx283_0⟩ := Kd.at_string (Kd.R_reads' HO_3.out).2.2 x6_3 p283 q283
               obtain rfl : ad263 = ad283 := (by injection e283)
               replace p283 := eq_true p283
               replace q283 := eq_true q283
               refine start_ (n := 13) (S := fun w' => w'.cell? ⟨gb262, 0, none⟩ = some (.int .i64 ((rd_T38 l0_3 x4_1).f0)) ∧ w'.cell? ⟨gb262, 1, none⟩ = some (.int .i64 ((rd_T38 l0_3 x4_1).f1)) ∧ w'.cell? ⟨gb262, 2, none⟩ = some (.int .i64 ((rd_T38 l0_3 x4_1).f2)) ∧ w'.cell? ⟨gb262, 3, none⟩ = some (.string ((rd_T38 l0_3 x4_1).f3)) ∧ w'.cell? ⟨gb262, 4, none⟩ = some (.int .i64 ((rd_T38 l0_3 x4_1).f4)) ∧ w'.cell? (ad263.add (x6_3).toNat) = some (.string (rdOf ByteArray.empty x3_1 x6_3))) (ds := []) (bm 13 0) (by kernel_rfl) rfl rfl ⟨(blk_cell BK262.out 0).trans rfl, (blk_cell BK262.out 1).trans rfl, (blk_cell BK262.out 2).trans rfl, (blk_cell BK262.out 3).trans rfl, (blk_cell BK262.out 4).trans rfl, hx283_0⟩ (fun hHeld => ?_); refine with_tabW tmesisref10_Names.tab10 tmesisref10_Names.bits10 (fun HT_ HW_ => ?_)
               generalize w46.drew = w48 at HO_3 BK257 BK262 HB hx283_0 hHeld ⊢
               refine pv_ 0 (some 49) (bm 13 1) HT_.out ?_
               refine pv_ 1 (some 50) (bm 13 3) HT_.out ?_
               refine pv_ 2 (some 51) (bm 13 7) HT_.out ?_
               refine pv_ 3 (some 52) (bm 13 15) HT_.out ?_
               refine pv_ 4 (some 53) (bm 13 31) HT_.out ?_
               refine pv_ 5 (some 54) (bm 13 63) HT_.out ?_
               refine pv_ 6 (some 55) (bm 13 127) HT_.out ?_
               refine pv_ 7 (some 56) (bm 13 255) HT_.out ?_
               refine pv_ 9 (some 58) (bm 13 767) HT_.out ?_
               refine tk_ 8 (some 57) (bm 13 1023) HT_.out HW_.out hHeld ?_
               refine tk_ 10 (some 59) (bm 13 2047) HT_.out HW_.out hHeld ?_
               refine pv_ 11 (some 60) (bm 13 4095) HT_.out ?_
               refine pv_ 12 (some 61) (bm 13 8191) HT_.out ?_
               refine done_ (done_of HT_.out (by kernel_rfl)) ?_
               try go_wp2
               go_roundg k3
               case measure => have := HK1.out; have := HJ6.out; have := HK3.out; omega
               case rel => exact ⟨(x3_1), (wrap64 (x4_1 + 1)), sR, H', ⟨by have := HK1.out; have := HJ6.out; have := HK3.out; omega⟩, ⟨RAt HO_3.out⟩, ⟨kAt BK257.out⟩, ⟨bAt HB.out⟩⟩
              ·rw [if_neg c45] at H
               obtain ⟨c45b0, c45b1⟩ := neB c45
               obtain ⟨y284, hy284⟩ : ∃ y_ : List ByteArray, y_ = (([] : List ByteArray)) := ⟨_, rfl⟩
               replace H : (if x6_3 ≤ (x3_1.length : Int) then ((some (x3_1.drop (x6_3 : Int).toNat : List ByteArray)).bind fun y287 => (if y284.length + y287.length < 8796093022208 then ((some (y284 ++ y287 : List ByteArray)).bind fun y291 => ((some (x3_1.take (x6_3 : Int).toNat : List ByteArray)).bind fun y294 => (if y294.length < 8796093022208 then ((some (y294 ++ [((rd_T38 l0_3 x4_1).f3)] : List ByteArray)).bind fun y297 => (if y297.length + y291.length < 8796093022208 then (tmesisref10_Names.l0 k3 (y297 ++ y291) (wrap64 (x4_1 + 1)) a0_0 a0_1 a0_2 l0_3) else (none))) else (none)))) else (none))) else (none)) = some r := by first | (rw [hy284]; with_reducible exact H) | (have H2_ := (Option.bind_some _ _).symm.trans H; rw [hy284]; with_reducible exact H2_) | (have H2_ := (Option.bind_some _ _).symm.trans H; with_reducible exact H2_) | with_reducible exact H | (rw [hy284]; exact H) | exact H
               have Ny284 := Aside0.mk hy284
               clear hy284
               have c49b0 := eq_true (dt : 0 ≤ x6_3)
               by_cases c50 : x6_3 ≤ (x3_1.length : Int)
               ·rw [if_pos c50] at H
                have c50b0 := eq_true c50
                have c50b1 := decide_eq_true c50
                clear c50
                obtain ⟨y287, hy287⟩ : ∃ y_ : List ByteArray, y_ = (x3_1.drop (x6_3 : Int).toNat) := ⟨_, rfl⟩
                replace H : (if y284.length + y287.length < 8796093022208 then ((some (y284 ++ y287 : List ByteArray)).bind fun y291 => ((some (x3_1.take (x6_3 : Int).toNat : List ByteArray)).bind fun y294 => (if y294.length < 8796093022208 then ((some (y294 ++ [((rd_T38 l0_3 x4_1).f3)] : List ByteArray)).bind fun y297 => (if y297.length + y291.length < 8796093022208 then (tmesisref10_Names.l0 k3 (y297 ++ y291) (wrap64 (x4_1 + 1)) a0_0 a0_1 a0_2 l0_3) else (none))) else (none)))) else (none)) = some r := by first | (rw [hy287]; with_reducible exact H) | (have H2_ := (Option.bind_some _ _).symm.trans H; rw [hy287]; with_reducible exact H2_) | (have H2_ := (Option.bind_some _ _).symm.trans H; with_reducible exact H2_) | with_reducible exact H | (rw [hy287]; exact H) | exact H
                have Ny287 := Aside0.mk hy287
                clear hy287
                by_cases c51 : y284.length + y287.length < 8796093022208
                ·rw [if_pos c51] at H
                 have LMc51 := Aside0.mk c51
                 clear c51
                 obtain ⟨y291, hy291⟩ : ∃ y_ : List ByteArray, y_ = (y284 ++ y287) := ⟨_, rfl⟩
                 replace H : ((some (x3_1.take (x6_3 : Int).toNat : List ByteArray)).bind fun y294 => (if y294.length < 8796093022208 then ((some (y294 ++ [((rd_T38 l0_3 x4_1).f3)] : List ByteArray)).bind fun y297 => (if y297.length + y291.length < 8796093022208 then (tmesisref10_Names.l0 k3 (y297 ++ y291) (wrap64 (x4_1 + 1)) a0_0 a0_1 a0_2 l0_3) else (none))) else (none))) = some r := by first | (rw [hy291]; with_reducible exact H) | (have H2_ := (Option.bind_some _ _).symm.trans H; rw [hy291]; with_reducible exact H2_) | (have H2_ := (Option.bind_some _ _).symm.trans H; with_reducible exact H2_) | with_reducible exact H | (rw [hy291]; exact H) | exact H
                 have Ny291 := Aside0.mk hy291
                 clear hy291
                 have c52b0 := eq_true (dt : x6_3 ≤ (x3_1.length : Int))
                 obtain ⟨y294, hy294⟩ : ∃ y_ : List ByteArray, y_ = (x3_1.take (x6_3 : Int).toNat) := ⟨_, rfl⟩
                 replace H : (if y294.length < 8796093022208 then ((some (y294 ++ [((rd_T38 l0_3 x4_1).f3)] : List ByteArray)).bind fun y297 => (if y297.length + y291.length < 8796093022208 then (tmesisref10_Names.l0 k3 (y297 ++ y291) (wrap64 (x4_1 + 1)) a0_0 a0_1 a0_2 l0_3) else (none))) else (none)) = some r := by first | (rw [hy294]; with_reducible exact H) | (have H2_ := (Option.bind_some _ _).symm.trans H; rw [hy294]; with_reducible exact H2_) | (have H2_ := (Option.bind_some _ _).symm.trans H; with_reducible exact H2_) | with_reducible exact H | (rw [hy294]; exact H) | exact H
                 have Ny294 := Aside0.mk hy294
                 clear hy294
                 by_cases c53 : y294.length < 8796093022208
                 ·rw [if_pos c53] at H
                  have LMc53 := Aside0.mk c53
                  clear c53
                  obtain ⟨y297, hy297⟩ : ∃ y_ : List ByteArray, y_ = (y294 ++ [((rd_T38 l0_3 x4_1).f3)]) := ⟨_, rfl⟩
                  replace H : (if y297.length + y291.length < 8796093022208 then (tmesisref10_Names.l0 k3 (y297 ++ y291) (wrap64 (x4_1 + 1)) a0_0 a0_1 a0_2 l0_3) else (none)) = some r := by first | (rw [hy297]; with_reducible exact H) | (have H2_ := (Option.bind_some _ _).symm.trans H; rw [hy297]; with_reducible exact H2_) | (have H2_ := (Option.bind_some _ _).symm.trans H; with_reducible exact H2_) | with_reducible exact H | (rw [hy297]; exact H) | exact H
                  have Ny297 := Aside0.mk hy297
                  clear hy297
                  by_cases c54 : y297.length + y291.length < 8796093022208
                  ·rw [if_pos c54] at H
                   have LMc54 := Aside0.mk c54
                   clear c54
                   obtain ⟨y300, hy300⟩ : ∃ y_ : List ByteArray, y_ = (y297 ++ y291) := ⟨_, rfl⟩
                   replace H : (tmesisref10_Names.l0 k3 y300 (wrap64 (x4_1 + 1)) a0_0 a0_1 a0_2 l0_3) = some r := by first | (rw [hy300]; with_reducible exact H) | (have H2_ := (Option.bind_some _ _).symm.trans H; rw [hy300]; with_reducible exact H2_) | (have H2_ := (Option.bind_some _ _).symm.trans H; with_reducible exact H2_) | with_reducible exact H | (rw [hy300]; exact H) | exact H
                   have Ny300 := Aside0.mk hy300
                   clear hy300
                   have H' := Aside0.mk H
                   clear H
                   try go_wp2
                   replace HO_3 := Aside0.mk (Kd.R_drew HO_3.out)
                   replace BK257 := Aside0.mk (blk_drew BK257.out)
                   replace BK262 := Aside0.mk (blk_drew BK262.out)
                   replace HB := Aside0.mk (below_drew1 HB.out)
                   obtain ⟨Ao56, co56, eo56⟩ := Kd.R_slice HO_3.out
                   (first | subst eo56 | (injection eo56 with f1_ f2_ f3_; have f4_ := f1_.symm; have f5_ := f3_.symm; clear f1_ f2_ f3_; subst f4_; subst f5_))
                   have p263 : 0 ≤ (x6_3 : Int) := dt
                   have q263 : x6_3 < (x3_1.length : Int) := dt
                   obtain ⟨ad263, e263, hx263_0⟩ := Kd.at_string (Kd.R_reads' HO_3.out).2.2 x6_3 p263 q263
                   cases e263
                   replace p263 := eq_true p263
                   replace q263 := eq_true q263
                   refine start_ (n := 13) (S := fun w' => w'.cell? ⟨gb262, 0, none⟩ = some (.int .i64 ((rd_T38 l0_3 x4_1).f0)) ∧ w'.cell? ⟨gb262, 1, none⟩ = some (.int .i64 ((rd_T38 l0_3 x4_1).f1)) ∧ w'.cell? ⟨gb262, 2, none⟩ = some (.int .i64 ((rd_T38 l0_3 x4_1).f2)) ∧ w'.cell? ⟨gb262, 3, none⟩ = some (.string ((rd_T38 l0_3 x4_1).f3)) ∧ w'.cell? ⟨gb262, 4, none⟩ = some (.int .i64 ((rd_T38 l0_3 x4_1).f4)) ∧ w'.cell? (ad263.add (x6_3).toNat) = some (.string (rdOf ByteArray.empty x3_1 x6_3))) (ds := []) (bm 13 0) (by kernel_rfl) rfl rfl ⟨(blk_cell BK262.out 0).trans rfl, (blk_cell BK262.out 1).trans rfl, (blk_cell BK262.out 2).trans rfl, (blk_cell BK262.out 3).trans rfl, (blk_cell BK262.out 4).trans rfl, hx263_0⟩ (fun hHeld => ?_); refine with_tabW tmesisref10_Names.tab8 tmesisref10_Names.bits8 (fun HT_ HW_ => ?_)
                   generalize wr.drew = w55 at HO_3 BK257 BK262 HB hx263_0 hHeld ⊢
                   refine pv_ 0 (some 34) (bm 13 1) HT_.out ?_
                   refine pv_ 1 (some 35) (bm 13 3) HT_.out ?_
                   refine pv_ 2 (some 36) (bm 13 7) HT_.out ?_
                   refine pv_ 3 (some 37) (bm 13 15) HT_.out ?_
                   refine pv_ 4 (some 38) (bm 13 31) HT_.out ?_
                   refine pv_ 5 (some 39) (bm 13 63) HT_.out ?_
                   refine pv_ 6 (some 40) (bm 13 127) HT_.out ?_
                   refine pv_ 7 (some 41) (bm 13 255) HT_.out ?_
                   refine pv_ 9 (some 43) (bm 13 767) HT_.out ?_
                   refine tk_ 8 (some 42) (bm 13 1023) HT_.out HW_.out hHeld ?_
                   refine tk_ 10 (some 44) (bm 13 2047) HT_.out HW_.out hHeld ?_
                   refine pv_ 11 (some 45) (bm 13 4095) HT_.out ?_
                   refine pv_ 12 (some 46) (bm 13 8191) HT_.out ?_
                   refine done_ (done_of HT_.out (by kernel_rfl)) ?_
                   try go_wp2
                   replace HO_3 := Aside0.mk (Kd.R_drew HO_3.out)
                   replace BK257 := Aside0.mk (blk_drew BK257.out)
                   replace BK262 := Aside0.mk (blk_drew BK262.out)
                   replace HB := Aside0.mk (below_drew1 HB.out)
                   have p283 : 0 ≤ (x6_3 : Int) := dt
                   have q283 : x6_3 < (x3_1.length : Int) := dt
                   obtain ⟨ad283, e283, hx283_0⟩ := Kd.at_string (Kd.R_reads' HO_3.out).2.2 x6_3 p283 q283
                   obtain rfl : ad263 = ad283 := (by injection e283)
                   replace p283 := eq_true p283
                   replace q283 := eq_true q283
                   refine start_ (n := 13) (S := fun w' => w'.cell? ⟨gb262, 0, none⟩ = some (.int .i64 ((rd_T38 l0_3 x4_1).f0)) ∧ w'.cell? ⟨gb262, 1, none⟩ = some (.int .i64 ((rd_T38 l0_3 x4_1).f1)) ∧ w'.cell? ⟨gb262, 2, none⟩ = some (.int .i64 ((rd_T38 l0_3 x4_1).f2)) ∧ w'.cell? ⟨gb262, 3, none⟩ = some (.string ((rd_T38 l0_3 x4_1).f3)) ∧ w'.cell? ⟨gb262, 4, none⟩ = some (.int .i64 ((rd_T38 l0_3 x4_1).f4)) ∧ w'.cell? (ad263.add (x6_3).toNat) = some (.string (rdOf ByteArray.empty x3_1 x6_3))) (ds := []) (bm 13 0) (by kernel_rfl) rfl rfl ⟨(blk_cell BK262.out 0).trans rfl, (blk_cell BK262.out 1).trans rfl, (blk_cell BK262.out 2).trans rfl, (blk_cell BK262.out 3).trans rfl, (blk_cell BK262.out 4).trans rfl, hx283_0⟩ (fun hHeld => ?_); refine with_tabW tmesisref10_Names.tab10 tmesisref10_Names.bits10 (fun HT_ HW_ => ?_)
                   generalize w55.drew = w57 at HO_3 BK257 BK262 HB hx283_0 hHeld ⊢
                   refine pv_ 0 (some 49) (bm 13 1) HT_.out ?_
                   refine pv_ 1 (some 50) (bm 13 3) HT_.out ?_
                   refine pv_ 2 (some 51) (bm 13 7) HT_.out ?_
                   refine pv_ 3 (some 52) (bm 13 15) HT_.out ?_
                   refine pv_ 4 (some 53) (bm 13 31) HT_.out ?_
                   refine pv_ 5 (some 54) (bm 13 63) HT_.out ?_
                   refine pv_ 6 (some 55) (bm 13 127) HT_.out ?_
                   refine pv_ 7 (some 56) (bm 13 255) HT_.out ?_
                   refine pv_ 9 (some 58) (bm 13 767) HT_.out ?_
                   refine tk_ 8 (some 57) (bm 13 1023) HT_.out HW_.out hHeld ?_
                   refine tk_ 10 (some 59) (bm 13 2047) HT_.out HW_.out hHeld ?_
                   refine pv_ 11 (some 60) (bm 13 4095) HT_.out ?_
                   refine pv_ 12 (some 61) (bm 13 8191) HT_.out ?_
                   refine done_ (done_of HT_.out (by kernel_rfl)) ?_
                   try go_wp2_with (first | ((with_reducible refine gate_dst (N := 62) rfl ?_); refine Kd.R_lit Kd.string _ 9 ?hg (N := 62) ?hd (xs := ([] : List ByteArray)) (inner := []) (ok := fun _ => True) (okp := fun _ => True) ?hr ?hp (fun _ hk => hk) trivial (Below.refl _ _) (Nat.le_refl _) (by simp) ?_; (case hd => rfl); (case hg => rfl); (case hr => first | (go_simp; done) | (go_simp; rfl)); (case hp => exact (Reps.none _ _)); intro v285 w58 ho59 hb hg_ hnew_; clear hg_ hnew_; (first | rw [← Ny284.out] at ho59 | (simp only [Int.reduceToNat] at ho59; rw [← Ny284.out] at ho59)); have HO286 := Aside0.mk (Kd.R_lower (Kd.R_new' ho59 (Kd.R_lt (RAt HO_3.out))) (below_size (bAt HB.out))); replace HO_3 := Aside0.mk (Kd.R_elder' (RAt HO_3.out) (Kd.R_base ho59) hb); replace BK257 := Aside0.mk (blk_below (g := gb257) (o := .cells #[.int .i64 a0_0, .int .i64 a0_1, .int .i64 a0_2, .slice (some ad261) l0_3.length c0_3] 25 (0, 0)) (kAt BK257.out) hb); replace BK262 := Aside0.mk (blk_below (g := gb262) (o := .cells #[.int .i64 ((rd_T38 l0_3 x4_1).f0), .int .i64 ((rd_T38 l0_3 x4_1).f1), .int .i64 ((rd_T38 l0_3 x4_1).f2), .string ((rd_T38 l0_3 x4_1).f3), .int .i64 ((rd_T38 l0_3 x4_1).f4)] 38 (0, 0)) (kAt BK262.out) hb); replace HB := Aside0.mk (below_step (bAt HB.out) hb); clear hb ho59; have q60 : (x6_3 : Int) ≤ ((x3_1.length : Int) : Int) := dt; obtain ⟨i060, hi060, _, hsz60, _⟩ := info_parts info9; have hroom60 : x3_1.length ≤ co56 := (Kd.R_reads' HO_3.out).2.1; have hC60 : Kd.C Kd.string _ (some ad263) x3_1.length x3_1 := (Kd.R_reads' HO_3.out).2.2; have q060 : (0 : Int) ≤ (x6_3 : Int) := dt; have hcut60 := cut_from (P := Tryd.prog) 27 9 .i64 Tryd.underlying27 hi060 1 hsz60 (some ad263) x3_1.length co56 x6_3 q060 q60; have hr60 := Kd.C_drop (m := (x6_3 : Int).toNat) (c := co56) hC60 (by omega) hroom60; obtain ⟨A60, hA60⟩ : ∃ A1, A1 = (if co56 = (x6_3 : Int).toNat then (some ad263) else ((some ad263) : Option Addr).map (·.add ((x6_3 : Int).toNat * 1))) := ⟨_, rfl⟩; obtain ⟨c60, hc60⟩ : ∃ c1, c1 = co56 - (x6_3 : Int).toNat := ⟨_, rfl⟩; have hy60 : y287.length = x3_1.length - (x6_3 : Int).toNat := (by rw [Ny287.out, List.length_drop] <;> omega); rw [show (x3_1).drop (x6_3 : Int).toNat = y287 from Ny287.out.symm] at hr60; replace hr60 : Kd.C Kd.string _ A60 y287.length y287 := (by rw [hA60]; exact hr60); rw [← hy60, ← hA60, ← hc60] at hcut60; have HR290 := Aside0.mk hr60; have HC290 := Aside0.mk (show y287.length ≤ c60 from by rw [hy60, hc60]; exact Nat.sub_le_sub_right hroom60 _); clear hr60 hC60 hroom60 hi060 hsz60 hc60; have KY60 := Aside0.mk hy60; have KA60 := Aside0.mk hA60; clear hy60 hA60; have KL60 := Aside0.mk (show (x6_3 : Int).toNat ≤ x3_1.length from by omega); replace q60 := eq_true q60) | ((with_reducible refine gate_builtin (b := .append) (xs := #[.tmp 62, .tmp 65]) rfl ?_); at_builtin; refine Kd.R_append_rows Kd.string (w0 := w) w.heap.size rfl (.tmp 62) (.tmp 65) 27 9 (.string ⟨#[]⟩) 16 rfl Tryd.underlying27 info9 rfl (by decide) (by omega) v285 y284 y287 _ _ _ (fun k_ => some k_ ≠ (.slice (some ad263) x3_1.length co56 : Value).ownBlock) (fun _ => False) rfl rfl ?aO ?aR (fun _ _ h => h) (fun _ h => h.elim) ?aF ?aB ?aS ?aL ?_; (case aR => repeat (first | exact (CAt HR290.out) | (with_reducible refine Kd.C_alloc ?_ _) | (with_reducible refine Kd.C_drewN ?_ _) | (with_reducible refine Kd.C_drew ?_))); (case aB => exact (bAt HB.out)); (case aF => exact (fun k_ hk => Kd.fresh' (Kd.R_lt (RAt HO_3.out)) k_ hk)); (case aO => exact (RAt (Kd.R_mono HO286.out (fun _ hk => hk.2)))); (case aS => exact (below_size (bAt HB.out))); (case aL => have := LMc51.out; omega); intro v292 w61 ho hb hg hat; rw [← Ny291.out] at ho; replace BK257 := Aside0.mk (blk_grown (g := gb257) (o := .cells #[.int .i64 a0_0, .int .i64 a0_1, .int .i64 a0_2, .slice (some ad261) l0_3.length c0_3] 25 (0, 0)) (kAt BK257.out) hg (Kd.R_ne HO286.out BK257.out (by decide))); replace BK262 := Aside0.mk (blk_grown (g := gb262) (o := .cells #[.int .i64 ((rd_T38 l0_3 x4_1).f0), .int .i64 ((rd_T38 l0_3 x4_1).f1), .int .i64 ((rd_T38 l0_3 x4_1).f2), .string ((rd_T38 l0_3 x4_1).f3), .int .i64 ((rd_T38 l0_3 x4_1).f4)] 38 (0, 0)) (kAt BK262.out) hg (Kd.R_ne HO286.out BK262.out (by decide))); replace HB := Aside0.mk (hb); replace HR290 := Aside0.mk ((show Kd.C Kd.string w61 A60 y287.length y287 from by rw [Ny287.out, KA60.out]; exact Kd.C_drop (m := (x6_3 : Int).toNat) (c := co56) ((Kd.R_reads' (Kd.R_after (ok := (fun _ => True)) (RAt HO_3.out) hg hat)).2.2) KL60.out ((Kd.R_reads' (Kd.R_after (ok := (fun _ => True)) (RAt HO_3.out) hg hat)).2.1))); replace HO_3 := Aside0.mk (Kd.R_after (ok := (fun _ => True)) (RAt HO_3.out) hg hat); have HO293 := Aside0.mk (ho); clear HO286; clear ho hb hg hat))
                   replace HO_3 := Aside0.mk (Kd.R_drew HO_3.out)
                   replace HO293 := Aside0.mk (Kd.R_drew HO293.out)
                   replace BK257 := Aside0.mk (blk_drew BK257.out)
                   replace BK262 := Aside0.mk (blk_drew BK262.out)
                   replace HR290 := Aside0.mk (Kd.C_drew HR290.out)
                   replace HB := Aside0.mk (below_drew1 HB.out)
                   have q63 : (x6_3 : Int) ≤ ((x3_1.length : Int) : Int) := dt
                   obtain ⟨i063, hi063, _, hsz63, _⟩ := info_parts info9
                   have hcut63 := cut_to (P := Tryd.prog) 27 9 .i64 Tryd.underlying27 hi063 (some ad263) x3_1.length co56 x6_3 dt q63 (Kd.R_reads' HO_3.out).2.1
                   have hr63 := Kd.R_take (m := (x6_3 : Int).toNat) HO_3.out (by omega)
                   have hy63 : y294.length = (x6_3 : Int).toNat := (by rw [Ny294.out, List.length_take]; omega)
                   rw [← Ny294.out] at hr63
                   rw [← hy63] at hr63 hcut63
                   clear hy63 hi063 hsz63 HO_3
                   have HO296 := Aside0.mk hr63
                   clear hr63
                   replace q63 := eq_true q63
                   refine start_ (n := 10) (S := fun w' => w'.cell? ⟨gb262, 0, none⟩ = some (.int .i64 ((rd_T38 l0_3 x4_1).f0)) ∧ w'.cell? ⟨gb262, 1, none⟩ = some (.int .i64 ((rd_T38 l0_3 x4_1).f1)) ∧ w'.cell? ⟨gb262, 2, none⟩ = some (.int .i64 ((rd_T38 l0_3 x4_1).f2)) ∧ w'.cell? ⟨gb262, 3, none⟩ = some (.string ((rd_T38 l0_3 x4_1).f3)) ∧ w'.cell? ⟨gb262, 4, none⟩ = some (.int .i64 ((rd_T38 l0_3 x4_1).f4))) (ds := []) (bm 10 0) (by kernel_rfl) rfl rfl ⟨(blk_cell BK262.out 0).trans rfl, (blk_cell BK262.out 1).trans rfl, (blk_cell BK262.out 2).trans rfl, (blk_cell BK262.out 3).trans rfl, (blk_cell BK262.out 4).trans rfl⟩ (fun hHeld => ?_); refine with_tabW tmesisref10_Names.tab12 tmesisref10_Names.bits12 (fun HT_ HW_ => ?_)
                   generalize w61.drew = w62 at HO_3 HO293 BK257 BK262 HR290 HB HO296 hHeld ⊢
                   refine pv_ 0 (some 67) (bm 10 1) HT_.out ?_
                   refine pv_ 1 (some 68) (bm 10 3) HT_.out ?_
                   refine pv_ 2 (some 69) (bm 10 7) HT_.out ?_
                   refine pv_ 3 (some 70) (bm 10 15) HT_.out ?_
                   refine pv_ 7 (some 74) (bm 10 143) HT_.out ?_
                   refine tk_ 4 (some 71) (bm 10 159) HT_.out HW_.out hHeld ?_
                   refine one_ (i := 5) (N := some 72) (bm 10 191) rfl rfl (one_of HT_.out (by kernel_rfl)) (by decide) (fun K hK => ?_)
                   refine value_ (w1 := ?_) (v := ?_) (by rfl) rfl ?_ ?_
                   rotate_left 2
                   ·go_simp
                    constructor
                    ·rfl
                    ·rfl
                   refine hK.out _ _ ⟨(blk_cell (blk_alloc BK262.out _) 0).trans rfl, (blk_cell (blk_alloc BK262.out _) 1).trans rfl, (blk_cell (blk_alloc BK262.out _) 2).trans rfl, (blk_cell (blk_alloc BK262.out _) 3).trans rfl, (blk_cell (blk_alloc BK262.out _) 4).trans rfl⟩ (fun hHeld => ?_)
                   clear hK K
                   refine norm_ (a' := ?_) ?_ ?_
                   rotate_left
                   ·show Act.put _ (some 72) _ = _
                    simp only [Act.put, List.setIfInBounds_toArray, List.set_cons_zero, List.set_cons_succ, i64_w, i32_w]
                    rfl
                   refine one_ (i := 6) (N := some 73) (bm 10 255) rfl rfl (one_of HT_.out (by kernel_rfl)) (by decide) (fun K hK => ?_)
                   refine Kd.R_append_step Kd.string (w0 := w) w.heap.size (by rfl) (.tmp 69) (.tmp 72) 27 9 (.string ⟨#[]⟩) 16 rfl Tryd.underlying27 info9 rfl (by decide) (by omega) (.slice (some ad263) y294.length co56) y294 ((rd_T38 l0_3 x4_1).f3) [.string ((rd_T38 l0_3 x4_1).f3)] (fun k_ => some k_ ≠ (v292 : Value).ownBlock) (fun _ => False) rfl rfl ?aP (fun _ hk => hk.elim) ?aF ?aO ?aB ?aS ?aL ?_
                   (case aP => exact rfl)
                   (case aB => exact (bAt HB.out))
                   (case aF => exact (fun k_ hk => Kd.fresh' (Kd.R_lt (RAt HO293.out)) k_ hk))
                   (case aO => exact (RAt (Kd.R_mono HO296.out (fun _ hk => hk.2))))
                   (case aS => exact (below_size (bAt HB.out)))
                   (case aL => have := LMc53.out; omega)
                   intro v298 w64 ho hb hg hat
                   rw [← Ny297.out] at ho
                   have n0_ := Aside0.mk (blk_grown (g := gb257) (o := .cells #[.int .i64 a0_0, .int .i64 a0_1, .int .i64 a0_2, .slice (some ad261) l0_3.length c0_3] 25 (0, 0)) (kAt BK257.out) hg (Kd.R_ne HO296.out BK257.out (by decide)))
                   have n1_ := Aside0.mk (blk_grown (g := gb262) (o := .cells #[.int .i64 ((rd_T38 l0_3 x4_1).f0), .int .i64 ((rd_T38 l0_3 x4_1).f1), .int .i64 ((rd_T38 l0_3 x4_1).f2), .string ((rd_T38 l0_3 x4_1).f3), .int .i64 ((rd_T38 l0_3 x4_1).f4)] 38 (0, 0)) (kAt BK262.out) hg (Kd.R_ne HO296.out BK262.out (by decide)))
                   have n2_ := Aside0.mk (Kd.R_after (ok := (fun _ => True)) (RAt (Kd.R_mono HO293.out (fun _ hk => ⟨trivial, (by first | exact hk | exact ob_ne hk)⟩))) hg hat)
                   have n3_ := Aside0.mk (hb)
                   have n4_ := Aside0.mk (ho)
                   clear BK257 BK262 HO293 HB HO296
                   have BK257 := n0_
                   have BK262 := n1_
                   have HO293 := n2_
                   have HB := n3_
                   have HO299 := n4_
                   clear n0_ n1_ n2_ n3_ n4_ ho hb hg hat
                   obtain ⟨Ao66, co66, eo66⟩ := Kd.R_slice HO293.out
                   (first | subst eo66 | (injection eo66 with f1_ f2_ f3_; have f4_ := f1_.symm; have f5_ := f3_.symm; clear f1_ f2_ f3_; subst f4_; subst f5_))
                   refine hK.out _ _ ⟨(blk_cell BK262.out 0).trans rfl, (blk_cell BK262.out 1).trans rfl, (blk_cell BK262.out 2).trans rfl, (blk_cell BK262.out 3).trans rfl, (blk_cell BK262.out 4).trans rfl⟩ (fun hHeld => ?_)
                   clear hK K
                   refine norm_ (a' := ?_) ?_ ?_
                   rotate_left
                   ·show Act.put _ (some 73) _ = _
                    simp only [Act.put, List.setIfInBounds_toArray, List.set_cons_zero, List.set_cons_succ, i64_w, i32_w]
                    rfl
                   refine one_ (i := 8) (N := some 75) (bm 10 511) rfl rfl (one_of HT_.out (by kernel_rfl)) (by decide) (fun K hK => ?_)
                   refine Kd.R_append_rows_step Kd.string (w0 := w) w.heap.size (by rfl) (.tmp 73) (.tmp 74) 27 9 (.string ⟨#[]⟩) 16 rfl Tryd.underlying27 info9 rfl (by decide) (by omega) v298 y297 y291 _ _ _ (fun k_ => some k_ ≠ (.slice Ao66 y291.length co66 : Value).ownBlock) (fun _ => False) rfl rfl ?aO ?aR (fun _ _ h => h) (fun _ h => h.elim) ?aF ?aB ?aS ?aL ?_
                   (case aR => repeat (first | exact (Kd.R_reads' HO293.out).2.2 | (with_reducible refine Kd.C_alloc ?_ _) | (with_reducible refine Kd.C_drewN ?_ _) | (with_reducible refine Kd.C_drew ?_)))
                   (case aB => exact (bAt HB.out))
                   (case aF => exact (fun k_ hk => Kd.fresh' (Kd.R_lt (RAt HO293.out)) k_ hk))
                   (case aO => exact (RAt HO299.out))
                   (case aS => exact (below_size (bAt HB.out)))
                   (case aL => have := LMc54.out; omega)
                   intro v301 w65 ho hb hg hat
                   rw [← Ny300.out] at ho
                   have n0_ := Aside0.mk (blk_grown (g := gb257) (o := .cells #[.int .i64 a0_0, .int .i64 a0_1, .int .i64 a0_2, .slice (some ad261) l0_3.length c0_3] 25 (0, 0)) (kAt BK257.out) hg (Kd.R_ne HO299.out BK257.out (by decide)))
                   have n1_ := Aside0.mk (blk_grown (g := gb262) (o := .cells #[.int .i64 ((rd_T38 l0_3 x4_1).f0), .int .i64 ((rd_T38 l0_3 x4_1).f1), .int .i64 ((rd_T38 l0_3 x4_1).f2), .string ((rd_T38 l0_3 x4_1).f3), .int .i64 ((rd_T38 l0_3 x4_1).f4)] 38 (0, 0)) (kAt BK262.out) hg (Kd.R_ne HO299.out BK262.out (by decide)))
                   have n2_ := Aside0.mk (Kd.R_after (ok := (fun _ => True)) (RAt HO293.out) hg hat)
                   have n3_ := Aside0.mk (hb)
                   have n4_ := Aside0.mk (ho)
                   clear BK257 BK262 HO293 HB HO299
                   have BK257 := n0_
                   have BK262 := n1_
                   have HO293 := n2_
                   have HB := n3_
                   have HO302 := n4_
                   clear n0_ n1_ n2_ n3_ n4_ ho hb hg hat
                   refine hK.out _ _ ⟨(blk_cell BK262.out 0).trans rfl, (blk_cell BK262.out 1).trans rfl, (blk_cell BK262.out 2).trans rfl, (blk_cell BK262.out 3).trans rfl, (blk_cell BK262.out 4).trans rfl⟩ (fun hHeld => ?_)
                   clear hK K
                   refine norm_ (a' := ?_) ?_ ?_
                   rotate_left
                   ·show Act.put _ (some 75) _ = _
                    simp only [Act.put, List.setIfInBounds_toArray, List.set_cons_zero, List.set_cons_succ, i64_w, i32_w]
                    rfl
                   refine pv_ 9 (some 3) (bm 10 1023) HT_.out ?_
                   refine done_ (done_of HT_.out (by kernel_rfl)) ?_
                   try go_wp2
                   go_roundg k3
                   case measure => have := HK1.out; have := HJ6.out; have := HK3.out; omega
                   case rel => exact ⟨(y300), (wrap64 (x4_1 + 1)), sR, H', ⟨by have := HK1.out; have := HJ6.out; have := HK3.out; omega⟩, ⟨RAt (Kd.R_mono HO302.out (fun _ hk => trivial))⟩, ⟨kAt BK257.out⟩, ⟨bAt HB.out⟩⟩
                  ·exact nB H c54
                 ·exact nB H c53
                ·exact nB H c51
               ·exact nB H c50
           ·exact nB H c22
          ·rw [if_neg c21] at H
           have c21b0 := decide_eq_false c21
           clear c21
           by_cases c67 : x6_3 = (x3_1.length : Int)
           ·rw [if_pos c67] at H
            obtain ⟨c67b0, c67b1⟩ := eqB c67
            clear c67
            obtain ⟨y303, hy303⟩ : ∃ y_ : List ByteArray, y_ = (([] : List ByteArray)) := ⟨_, rfl⟩
            replace H : (if 0 ≤ x6_3 then (if x6_3 ≤ (x3_1.length : Int) then ((some (x3_1.drop (x6_3 : Int).toNat : List ByteArray)).bind fun y306 => (if y303.length + y306.length < 8796093022208 then ((some (y303 ++ y306 : List ByteArray)).bind fun y310 => ((some (x3_1.take (x6_3 : Int).toNat : List ByteArray)).bind fun y313 => (if y313.length < 8796093022208 then ((some (y313 ++ [((rd_T38 l0_3 x4_1).f3)] : List ByteArray)).bind fun y316 => (if y316.length + y310.length < 8796093022208 then (tmesisref10_Names.l0 k3 (y316 ++ y310) (wrap64 (x4_1 + 1)) a0_0 a0_1 a0_2 l0_3) else (none))) else (none)))) else (none))) else (none)) else (none)) = some r := by first | (rw [hy303]; with_reducible exact H) | (have H2_ := (Option.bind_some _ _).symm.trans H; rw [hy303]; with_reducible exact H2_) | (have H2_ := (Option.bind_some _ _).symm.trans H; with_reducible exact H2_) | with_reducible exact H | (rw [hy303]; exact H) | exact H
            have Ny303 := Aside0.mk hy303
            clear hy303
            by_cases c68 : 0 ≤ x6_3
            ·rw [if_pos c68] at H
             have c68b0 := eq_true c68
             have c68b1 := decide_eq_true c68
             clear c68
             by_cases c69 : x6_3 ≤ (x3_1.length : Int)
             ·rw [if_pos c69] at H
              have c69b0 := eq_true c69
              have c69b1 := decide_eq_true c69
              clear c69
              obtain ⟨y306, hy306⟩ : ∃ y_ : List ByteArray, y_ = (x3_1.drop (x6_3 : Int).toNat) := ⟨_, rfl⟩
              replace H : (if y303.length + y306.length < 8796093022208 then ((some (y303 ++ y306 : List ByteArray)).bind fun y310 => ((some (x3_1.take (x6_3 : Int).toNat : List ByteArray)).bind fun y313 => (if y313.length < 8796093022208 then ((some (y313 ++ [((rd_T38 l0_3 x4_1).f3)] : List ByteArray)).bind fun y316 => (if y316.length + y310.length < 8796093022208 then (tmesisref10_Names.l0 k3 (y316 ++ y310) (wrap64 (x4_1 + 1)) a0_0 a0_1 a0_2 l0_3) else (none))) else (none)))) else (none)) = some r := by first | (rw [hy306]; with_reducible exact H) | (have H2_ := (Option.bind_some _ _).symm.trans H; rw [hy306]; with_reducible exact H2_) | (have H2_ := (Option.bind_some _ _).symm.trans H; with_reducible exact H2_) | with_reducible exact H | (rw [hy306]; exact H) | exact H
              have Ny306 := Aside0.mk hy306
              clear hy306
              by_cases c70 : y303.length + y306.length < 8796093022208
              ·rw [if_pos c70] at H
               have LMc70 := Aside0.mk c70
               clear c70
               obtain ⟨y310, hy310⟩ : ∃ y_ : List ByteArray, y_ = (y303 ++ y306) := ⟨_, rfl⟩
               replace H : ((some (x3_1.take (x6_3 : Int).toNat : List ByteArray)).bind fun y313 => (if y313.length < 8796093022208 then ((some (y313 ++ [((rd_T38 l0_3 x4_1).f3)] : List ByteArray)).bind fun y316 => (if y316.length + y310.length < 8796093022208 then (tmesisref10_Names.l0 k3 (y316 ++ y310) (wrap64 (x4_1 + 1)) a0_0 a0_1 a0_2 l0_3) else (none))) else (none))) = some r := by first | (rw [hy310]; with_reducible exact H) | (have H2_ := (Option.bind_some _ _).symm.trans H; rw [hy310]; with_reducible exact H2_) | (have H2_ := (Option.bind_some _ _).symm.trans H; with_reducible exact H2_) | with_reducible exact H | (rw [hy310]; exact H) | exact H
               have Ny310 := Aside0.mk hy310
               clear hy310
               have c71b0 := eq_true (dt : x6_3 ≤ (x3_1.length : Int))
               obtain ⟨y313, hy313⟩ : ∃ y_ : List ByteArray, y_ = (x3_1.take (x6_3 : Int).toNat) := ⟨_, rfl⟩
               replace H : (if y313.length < 8796093022208 then ((some (y313 ++ [((rd_T38 l0_3 x4_1).f3)] : List ByteArray)).bind fun y316 => (if y316.length + y310.length < 8796093022208 then (tmesisref10_Names.l0 k3 (y316 ++ y310) (wrap64 (x4_1 + 1)) a0_0 a0_1 a0_2 l0_3) else (none))) else (none)) = some r := by first | (rw [hy313]; with_reducible exact H) | (have H2_ := (Option.bind_some _ _).symm.trans H; rw [hy313]; with_reducible exact H2_) | (have H2_ := (Option.bind_some _ _).symm.trans H; with_reducible exact H2_) | with_reducible exact H | (rw [hy313]; exact H) | exact H
               have Ny313 := Aside0.mk hy313
               clear hy313
               by_cases c72 : y313.length < 8796093022208
               ·rw [if_pos c72] at H
                have LMc72 := Aside0.mk c72
                clear c72
                obtain ⟨y316, hy316⟩ : ∃ y_ : List ByteArray, y_ = (y313 ++ [((rd_T38 l0_3 x4_1).f3)]) := ⟨_, rfl⟩
                replace H : (if y316.length + y310.length < 8796093022208 then (tmesisref10_Names.l0 k3 (y316 ++ y310) (wrap64 (x4_1 + 1)) a0_0 a0_1 a0_2 l0_3) else (none)) = some r := by first | (rw [hy316]; with_reducible exact H) | (have H2_ := (Option.bind_some _ _).symm.trans H; rw [hy316]; with_reducible exact H2_) | (have H2_ := (Option.bind_some _ _).symm.trans H; with_reducible exact H2_) | with_reducible exact H | (rw [hy316]; exact H) | exact H
                have Ny316 := Aside0.mk hy316
                clear hy316
                by_cases c73 : y316.length + y310.length < 8796093022208
                ·rw [if_pos c73] at H
                 have LMc73 := Aside0.mk c73
                 clear c73
                 obtain ⟨y319, hy319⟩ : ∃ y_ : List ByteArray, y_ = (y316 ++ y310) := ⟨_, rfl⟩
                 replace H : (tmesisref10_Names.l0 k3 y319 (wrap64 (x4_1 + 1)) a0_0 a0_1 a0_2 l0_3) = some r := by first | (rw [hy319]; with_reducible exact H) | (have H2_ := (Option.bind_some _ _).symm.trans H; rw [hy319]; with_reducible exact H2_) | (have H2_ := (Option.bind_some _ _).symm.trans H; with_reducible exact H2_) | with_reducible exact H | (rw [hy319]; exact H) | exact H
                 have Ny319 := Aside0.mk hy319
                 clear hy319
                 have H' := Aside0.mk H
                 clear H
                 try go_wp2
                 replace HO_3 := Aside0.mk (Kd.R_drew HO_3.out)
                 replace BK257 := Aside0.mk (blk_drew BK257.out)
                 replace BK262 := Aside0.mk (blk_drew BK262.out)
                 replace HB := Aside0.mk (below_drew1 HB.out)
                 obtain ⟨Ao75, co75, eo75⟩ := Kd.R_slice HO_3.out
                 (first | subst eo75 | (injection eo75 with f1_ f2_ f3_; have f4_ := f1_.symm; have f5_ := f3_.symm; clear f1_ f2_ f3_; subst f4_; subst f5_))
                 refine start_ (n := 13) (S := fun w' => True) (ds := []) (bm 13 0) (by kernel_rfl) rfl rfl trivial (fun hHeld => ?_); refine with_tabW tmesisref10_Names.tab8 tmesisref10_Names.bits8 (fun HT_ HW_ => ?_)
                 generalize wr.drew = w74 at HO_3 BK257 BK262 HB hHeld ⊢
                 refine pv_ 0 (some 34) (bm 13 1) HT_.out ?_
                 refine pv_ 1 (some 35) (bm 13 3) HT_.out ?_
                 refine pv_ 2 (some 36) (bm 13 7) HT_.out ?_
                 refine pv_ 3 (some 37) (bm 13 15) HT_.out ?_
                 refine pv_ 4 (some 38) (bm 13 31) HT_.out ?_
                 refine pu_ 5 (some 39) (bm 13 63) HT_.out ?_
                 refine pu_ 6 (some 40) (bm 13 127) HT_.out ?_
                 refine pu_ 7 (some 41) (bm 13 255) HT_.out ?_
                 refine pu_ 8 (some 42) (bm 13 511) HT_.out ?_
                 refine pu_ 9 (some 43) (bm 13 1023) HT_.out ?_
                 refine pu_ 10 (some 44) (bm 13 2047) HT_.out ?_
                 refine pu_ 11 (some 45) (bm 13 4095) HT_.out ?_
                 refine pv_ 12 (some 46) (bm 13 8191) HT_.out ?_
                 refine done_ (done_of HT_.out (by kernel_rfl)) ?_
                 try go_wp2
                 replace HO_3 := Aside0.mk (Kd.R_drew HO_3.out)
                 replace BK257 := Aside0.mk (blk_drew BK257.out)
                 replace BK262 := Aside0.mk (blk_drew BK262.out)
                 replace HB := Aside0.mk (below_drew1 HB.out)
                 refine start_ (n := 13) (S := fun w' => True) (ds := []) (bm 13 0) (by kernel_rfl) rfl rfl trivial (fun hHeld => ?_); refine with_tabW tmesisref10_Names.tab10 tmesisref10_Names.bits10 (fun HT_ HW_ => ?_)
                 generalize w74.drew = w76 at HO_3 BK257 BK262 HB hHeld ⊢
                 refine pv_ 0 (some 49) (bm 13 1) HT_.out ?_
                 refine pv_ 1 (some 50) (bm 13 3) HT_.out ?_
                 refine pv_ 2 (some 51) (bm 13 7) HT_.out ?_
                 refine pv_ 3 (some 52) (bm 13 15) HT_.out ?_
                 refine pv_ 4 (some 53) (bm 13 31) HT_.out ?_
                 refine pu_ 5 (some 54) (bm 13 63) HT_.out ?_
                 refine pu_ 6 (some 55) (bm 13 127) HT_.out ?_
                 refine pu_ 7 (some 56) (bm 13 255) HT_.out ?_
                 refine pu_ 8 (some 57) (bm 13 511) HT_.out ?_
                 refine pu_ 9 (some 58) (bm 13 1023) HT_.out ?_
                 refine pu_ 10 (some 59) (bm 13 2047) HT_.out ?_
                 refine pu_ 11 (some 60) (bm 13 4095) HT_.out ?_
                 refine pv_ 12 (some 61) (bm 13 8191) HT_.out ?_
                 refine done_ (done_of HT_.out (by kernel_rfl)) ?_
                 try go_wp2_with (first | ((with_reducible refine gate_dst (N := 62) rfl ?_); refine Kd.R_lit Kd.string _ 9 ?hg (N := 62) ?hd (xs := ([] : List ByteArray)) (inner := []) (ok := fun _ => True) (okp := fun _ => True) ?hr ?hp (fun _ hk => hk) trivial (Below.refl _ _) (Nat.le_refl _) (by simp) ?_; (case hd => rfl); (case hg => rfl); (case hr => first | (go_simp; done) | (go_simp; rfl)); (case hp => exact (Reps.none _ _)); intro v304 w77 ho78 hb hg_ hnew_; clear hg_ hnew_; (first | rw [← Ny303.out] at ho78 | (simp only [Int.reduceToNat] at ho78; rw [← Ny303.out] at ho78)); have HO305 := Aside0.mk (Kd.R_lower (Kd.R_new' ho78 (Kd.R_lt (RAt HO_3.out))) (below_size (bAt HB.out))); replace HO_3 := Aside0.mk (Kd.R_elder' (RAt HO_3.out) (Kd.R_base ho78) hb); replace BK257 := Aside0.mk (blk_below (g := gb257) (o := .cells #[.int .i64 a0_0, .int .i64 a0_1, .int .i64 a0_2, .slice (some ad261) l0_3.length c0_3] 25 (0, 0)) (kAt BK257.out) hb); replace BK262 := Aside0.mk (blk_below (g := gb262) (o := .cells #[.int .i64 ((rd_T38 l0_3 x4_1).f0), .int .i64 ((rd_T38 l0_3 x4_1).f1), .int .i64 ((rd_T38 l0_3 x4_1).f2), .string ((rd_T38 l0_3 x4_1).f3), .int .i64 ((rd_T38 l0_3 x4_1).f4)] 38 (0, 0)) (kAt BK262.out) hb); replace HB := Aside0.mk (below_step (bAt HB.out) hb); clear hb ho78; have q79 : (x6_3 : Int) ≤ ((x3_1.length : Int) : Int) := dt; obtain ⟨i079, hi079, _, hsz79, _⟩ := info_parts info9; have hroom79 : x3_1.length ≤ co75 := (Kd.R_reads' HO_3.out).2.1; have hC79 : Kd.C Kd.string _ Ao75 x3_1.length x3_1 := (Kd.R_reads' HO_3.out).2.2; have q079 : (0 : Int) ≤ (x6_3 : Int) := dt; have hcut79 := cut_from (P := Tryd.prog) 27 9 .i64 Tryd.underlying27 hi079 1 hsz79 Ao75 x3_1.length co75 x6_3 q079 q79; have hr79 := Kd.C_drop (m := (x6_3 : Int).toNat) (c := co75) hC79 (by omega) hroom79; obtain ⟨A79, hA79⟩ : ∃ A1, A1 = (if co75 = (x6_3 : Int).toNat then Ao75 else (Ao75 : Option Addr).map (·.add ((x6_3 : Int).toNat * 1))) := ⟨_, rfl⟩; obtain ⟨c79, hc79⟩ : ∃ c1, c1 = co75 - (x6_3 : Int).toNat := ⟨_, rfl⟩; have hy79 : y306.length = x3_1.length - (x6_3 : Int).toNat := (by rw [Ny306.out, List.length_drop] <;> omega); rw [show (x3_1).drop (x6_3 : Int).toNat = y306 from Ny306.out.symm] at hr79; replace hr79 : Kd.C Kd.string _ A79 y306.length y306 := (by rw [hA79]; exact hr79); rw [← hy79, ← hA79, ← hc79] at hcut79; have HR309 := Aside0.mk hr79; have HC309 := Aside0.mk (show y306.length ≤ c79 from by rw [hy79, hc79]; exact Nat.sub_le_sub_right hroom79 _); clear hr79 hC79 hroom79 hi079 hsz79 hc79; have KY79 := Aside0.mk hy79; have KA79 := Aside0.mk hA79; clear hy79 hA79; have KL79 := Aside0.mk (show (x6_3 : Int).toNat ≤ x3_1.length from by omega); replace q79 := eq_true q79) | ((with_reducible refine gate_builtin (b := .append) (xs := #[.tmp 62, .tmp 65]) rfl ?_); at_builtin; refine Kd.R_append_rows Kd.string (w0 := w) w.heap.size rfl (.tmp 62) (.tmp 65) 27 9 (.string ⟨#[]⟩) 16 rfl Tryd.underlying27 info9 rfl (by decide) (by omega) v304 y303 y306 _ _ _ (fun k_ => some k_ ≠ (.slice Ao75 x3_1.length co75 : Value).ownBlock) (fun _ => False) rfl rfl ?aO ?aR (fun _ _ h => h) (fun _ h => h.elim) ?aF ?aB ?aS ?aL ?_; (case aR => repeat (first | exact (CAt HR309.out) | (with_reducible refine Kd.C_alloc ?_ _) | (with_reducible refine Kd.C_drewN ?_ _) | (with_reducible refine Kd.C_drew ?_))); (case aB => exact (bAt HB.out)); (case aF => exact (fun k_ hk => Kd.fresh' (Kd.R_lt (RAt HO_3.out)) k_ hk)); (case aO => exact (RAt (Kd.R_mono HO305.out (fun _ hk => hk.2)))); (case aS => exact (below_size (bAt HB.out))); (case aL => have := LMc70.out; omega); intro v311 w80 ho hb hg hat; rw [← Ny310.out] at ho; replace BK257 := Aside0.mk (blk_grown (g := gb257) (o := .cells #[.int .i64 a0_0, .int .i64 a0_1, .int .i64 a0_2, .slice (some ad261) l0_3.length c0_3] 25 (0, 0)) (kAt BK257.out) hg (Kd.R_ne HO305.out BK257.out (by decide))); replace BK262 := Aside0.mk (blk_grown (g := gb262) (o := .cells #[.int .i64 ((rd_T38 l0_3 x4_1).f0), .int .i64 ((rd_T38 l0_3 x4_1).f1), .int .i64 ((rd_T38 l0_3 x4_1).f2), .string ((rd_T38 l0_3 x4_1).f3), .int .i64 ((rd_T38 l0_3 x4_1).f4)] 38 (0, 0)) (kAt BK262.out) hg (Kd.R_ne HO305.out BK262.out (by decide))); replace HB := Aside0.mk (hb); replace HR309 := Aside0.mk ((show Kd.C Kd.string w80 A79 y306.length y306 from by rw [Ny306.out, KA79.out]; exact Kd.C_drop (m := (x6_3 : Int).toNat) (c := co75) ((Kd.R_reads' (Kd.R_after (ok := (fun _ => True)) (RAt HO_3.out) hg hat)).2.2) KL79.out ((Kd.R_reads' (Kd.R_after (ok := (fun _ => True)) (RAt HO_3.out) hg hat)).2.1))); replace HO_3 := Aside0.mk (Kd.R_after (ok := (fun _ => True)) (RAt HO_3.out) hg hat); have HO312 := Aside0.mk (ho); clear HO305; clear ho hb hg hat))
                 replace HO_3 := Aside0.mk (Kd.R_drew HO_3.out)
                 replace HO312 := Aside0.mk (Kd.R_drew HO312.out)
                 replace BK257 := Aside0.mk (blk_drew BK257.out)
                 replace BK262 := Aside0.mk (blk_drew BK262.out)
                 replace HR309 := Aside0.mk (Kd.C_drew HR309.out)
                 replace HB := Aside0.mk (below_drew1 HB.out)
                 have q82 : (x6_3 : Int) ≤ ((x3_1.length : Int) : Int) := dt
                 obtain ⟨i082, hi082, _, hsz82, _⟩ := info_parts info9
                 have hcut82 := cut_to (P := Tryd.prog) 27 9 .i64 Tryd.underlying27 hi082 Ao75 x3_1.length co75 x6_3 dt q82 (Kd.R_reads' HO_3.out).2.1
                 have hr82 := Kd.R_take (m := (x6_3 : Int).toNat) HO_3.out (by omega)
                 have hy82 : y313.length = (x6_3 : Int).toNat := (by rw [Ny313.out, List.length_take]; omega)
                 rw [← Ny313.out] at hr82
                 rw [← hy82] at hr82 hcut82
                 clear hy82 hi082 hsz82 HO_3
                 have HO315 := Aside0.mk hr82
                 clear hr82
                 replace q82 := eq_true q82
                 refine start_ (n := 10) (S := fun w' => w'.cell? ⟨gb262, 0, none⟩ = some (.int .i64 ((rd_T38 l0_3 x4_1).f0)) ∧ w'.cell? ⟨gb262, 1, none⟩ = some (.int .i64 ((rd_T38 l0_3 x4_1).f1)) ∧ w'.cell? ⟨gb262, 2, none⟩ = some (.int .i64 ((rd_T38 l0_3 x4_1).f2)) ∧ w'.cell? ⟨gb262, 3, none⟩ = some (.string ((rd_T38 l0_3 x4_1).f3)) ∧ w'.cell? ⟨gb262, 4, none⟩ = some (.int .i64 ((rd_T38 l0_3 x4_1).f4))) (ds := []) (bm 10 0) (by kernel_rfl) rfl rfl ⟨(blk_cell BK262.out 0).trans rfl, (blk_cell BK262.out 1).trans rfl, (blk_cell BK262.out 2).trans rfl, (blk_cell BK262.out 3).trans rfl, (blk_cell BK262.out 4).trans rfl⟩ (fun hHeld => ?_); refine with_tabW tmesisref10_Names.tab12 tmesisref10_Names.bits12 (fun HT_ HW_ => ?_)
                 generalize w80.drew = w81 at HO_3 HO312 BK257 BK262 HR309 HB HO315 hHeld ⊢
                 refine pv_ 0 (some 67) (bm 10 1) HT_.out ?_
                 refine pv_ 1 (some 68) (bm 10 3) HT_.out ?_
                 refine pv_ 2 (some 69) (bm 10 7) HT_.out ?_
                 refine pv_ 3 (some 70) (bm 10 15) HT_.out ?_
                 refine pv_ 7 (some 74) (bm 10 143) HT_.out ?_
                 refine tk_ 4 (some 71) (bm 10 159) HT_.out HW_.out hHeld ?_
                 refine one_ (i := 5) (N := some 72) (bm 10 191) rfl rfl (one_of HT_.out (by kernel_rfl)) (by decide) (fun K hK => ?_)
                 refine value_ (w1 := ?_) (v := ?_) (by rfl) rfl ?_ ?_
                 rotate_left 2
                 ·go_simp
                  constructor
                  ·rfl
                  ·rfl
                 refine hK.out _ _ ⟨(blk_cell (blk_alloc BK262.out _) 0).trans rfl, (blk_cell (blk_alloc BK262.out _) 1).trans rfl, (blk_cell (blk_alloc BK262.out _) 2).trans rfl, (blk_cell (blk_alloc BK262.out _) 3).trans rfl, (blk_cell (blk_alloc BK262.out _) 4).trans rfl⟩ (fun hHeld => ?_)
                 clear hK K
                 refine norm_ (a' := ?_) ?_ ?_
                 rotate_left
                 ·show Act.put _ (some 72) _ = _
                  simp only [Act.put, List.setIfInBounds_toArray, List.set_cons_zero, List.set_cons_succ, i64_w, i32_w]
                  rfl
                 refine one_ (i := 6) (N := some 73) (bm 10 255) rfl rfl (one_of HT_.out (by kernel_rfl)) (by decide) (fun K hK => ?_)
                 refine Kd.R_append_step Kd.string (w0 := w) w.heap.size (by rfl) (.tmp 69) (.tmp 72) 27 9 (.string ⟨#[]⟩) 16 rfl Tryd.underlying27 info9 rfl (by decide) (by omega) (.slice Ao75 y313.length co75) y313 ((rd_T38 l0_3 x4_1).f3) [.string ((rd_T38 l0_3 x4_1).f3)] (fun k_ => some k_ ≠ (v311 : Value).ownBlock) (fun _ => False) rfl rfl ?aP (fun _ hk => hk.elim) ?aF ?aO ?aB ?aS ?aL ?_
                 (case aP => exact rfl)
                 (case aB => exact (bAt HB.out))
                 (case aF => exact (fun k_ hk => Kd.fresh' (Kd.R_lt (RAt HO312.out)) k_ hk))
                 (case aO => exact (RAt (Kd.R_mono HO315.out (fun _ hk => hk.2))))
                 (case aS => exact (below_size (bAt HB.out)))
                 (case aL => have := LMc72.out; omega)
                 intro v317 w83 ho hb hg hat
                 rw [← Ny316.out] at ho
                 have n0_ := Aside0.mk (blk_grown (g := gb257) (o := .cells #[.int .i64 a0_0, .int .i64 a0_1, .int .i64 a0_2, .slice (some ad261) l0_3.length c0_3] 25 (0, 0)) (kAt BK257.out) hg (Kd.R_ne HO315.out BK257.out (by decide)))
                 have n1_ := Aside0.mk (blk_grown (g := gb262) (o := .cells #[.int .i64 ((rd_T38 l0_3 x4_1).f0), .int .i64 ((rd_T38 l0_3 x4_1).f1), .int .i64 ((rd_T38 l0_3 x4_1).f2), .string ((rd_T38 l0_3 x4_1).f3), .int .i64 ((rd_T38 l0_3 x4_1).f4)] 38 (0, 0)) (kAt BK262.out) hg (Kd.R_ne HO315.out BK262.out (by decide)))
                 have n2_ := Aside0.mk (Kd.R_after (ok := (fun _ => True)) (RAt (Kd.R_mono HO312.out (fun _ hk => ⟨trivial, (by first | exact hk | exact ob_ne hk)⟩))) hg hat)
                 have n3_ := Aside0.mk (hb)
                 have n4_ := Aside0.mk (ho)
                 clear BK257 BK262 HO312 HB HO315
                 have BK257 := n0_
                 have BK262 := n1_
                 have HO312 := n2_
                 have HB := n3_
                 have HO318 := n4_
                 clear n0_ n1_ n2_ n3_ n4_ ho hb hg hat
                 obtain ⟨Ao85, co85, eo85⟩ := Kd.R_slice HO312.out
                 (first | subst eo85 | (injection eo85 with f1_ f2_ f3_; have f4_ := f1_.symm; have f5_ := f3_.symm; clear f1_ f2_ f3_; subst f4_; subst f5_))
                 refine hK.out _ _ ⟨(blk_cell BK262.out 0).trans rfl, (blk_cell BK262.out 1).trans rfl, (blk_cell BK262.out 2).trans rfl, (blk_cell BK262.out 3).trans rfl, (blk_cell BK262.out 4).trans rfl⟩ (fun hHeld => ?_)
                 clear hK K
                 refine norm_ (a' := ?_) ?_ ?_
                 rotate_left
                 ·show Act.put _ (some 73) _ = _
                  simp only [Act.put, List.setIfInBounds_toArray, List.set_cons_zero, List.set_cons_succ, i64_w, i32_w]
                  rfl
                 refine one_ (i := 8) (N := some 75) (bm 10 511) rfl rfl (one_of HT_.out (by kernel_rfl)) (by decide) (fun K hK => ?_)
                 refine Kd.R_append_rows_step Kd.string (w0 := w) w.heap.size (by rfl) (.tmp 73) (.tmp 74) 27 9 (.string ⟨#[]⟩) 16 rfl Tryd.underlying27 info9 rfl (by decide) (by omega) v317 y316 y310 _ _ _ (fun k_ => some k_ ≠ (.slice Ao85 y310.length co85 : Value).ownBlock) (fun _ => False) rfl rfl ?aO ?aR (fun _ _ h => h) (fun _ h => h.elim) ?aF ?aB ?aS ?aL ?_
                 (case aR => repeat (first | exact (Kd.R_reads' HO312.out).2.2 | (with_reducible refine Kd.C_alloc ?_ _) | (with_reducible refine Kd.C_drewN ?_ _) | (with_reducible refine Kd.C_drew ?_)))
                 (case aB => exact (bAt HB.out))
                 (case aF => exact (fun k_ hk => Kd.fresh' (Kd.R_lt (RAt HO312.out)) k_ hk))
                 (case aO => exact (RAt HO318.out))
                 (case aS => exact (below_size (bAt HB.out)))
                 (case aL => have := LMc73.out; omega)
                 intro v320 w84 ho hb hg hat
                 rw [← Ny319.out] at ho
                 have n0_ := Aside0.mk (blk_grown (g := gb257) (o := .cells #[.int .i64 a0_0, .int .i64 a0_1, .int .i64 a0_2, .slice (some ad261) l0_3.length c0_3] 25 (0, 0)) (kAt BK257.out) hg (Kd.R_ne HO318.out BK257.out (by decide)))
                 have n1_ := Aside0.mk (blk_grown (g := gb262) (o := .cells #[.int .i64 ((rd_T38 l0_3 x4_1).f0), .int .i64 ((rd_T38 l0_3 x4_1).f1), .int .i64 ((rd_T38 l0_3 x4_1).f2), .string ((rd_T38 l0_3 x4_1).f3), .int .i64 ((rd_T38 l0_3 x4_1).f4)] 38 (0, 0)) (kAt BK262.out) hg (Kd.R_ne HO318.out BK262.out (by decide)))
                 have n2_ := Aside0.mk (Kd.R_after (ok := (fun _ => True)) (RAt HO312.out) hg hat)
                 have n3_ := Aside0.mk (hb)
                 have n4_ := Aside0.mk (ho)
                 clear BK257 BK262 HO312 HB HO318
                 have BK257 := n0_
                 have BK262 := n1_
                 have HO312 := n2_
                 have HB := n3_
                 have HO321 := n4_
                 clear n0_ n1_ n2_ n3_ n4_ ho hb hg hat
                 refine hK.out _ _ ⟨(blk_cell BK262.out 0).trans rfl, (blk_cell BK262.out 1).trans rfl, (blk_cell BK262.out 2).trans rfl, (blk_cell BK262.out 3).trans rfl, (blk_cell BK262.out 4).trans rfl⟩ (fun hHeld => ?_)
                 clear hK K
                 refine norm_ (a' := ?_) ?_ ?_
                 rotate_left
                 ·show Act.put _ (some 75) _ = _
                  simp only [Act.put, List.setIfInBounds_toArray, List.set_cons_zero, List.set_cons_succ, i64_w, i32_w]
                  rfl
                 refine pv_ 9 (some 3) (bm 10 1023) HT_.out ?_
                 refine done_ (done_of HT_.out (by kernel_rfl)) ?_
                 try go_wp2
                 go_roundg k3
                 case measure => have := HK1.out; have := HJ6.out; have := HK3.out; omega
                 case rel => exact ⟨(y319), (wrap64 (x4_1 + 1)), sR, H', ⟨by have := HK1.out; have := HJ6.out; have := HK3.out; omega⟩, ⟨RAt (Kd.R_mono HO321.out (fun _ hk => trivial))⟩, ⟨kAt BK257.out⟩, ⟨bAt HB.out⟩⟩
                ·exact nB H c73
               ·exact nB H c72
              ·exact nB H c70
             ·exact nB H c69
            ·exact nB H c68
           ·rw [if_neg c67] at H
            obtain ⟨c67b0, c67b1⟩ := neB c67
            by_cases c86 : 0 ≤ x6_3
            ·rw [if_pos c86] at H
             exact absurd H (by simp)
            ·exact nB H c86
    ·exact nB H c6
   ·rw [if_neg c5] at H
    have c5b0 := decide_eq_false c5
    clear c5
    obtain rfl := Option.some.inj H
    obtain ⟨hcz87_0, hcz87_1, hcz87_2, hcz87_3, hfz87_0, hfz87_1, hfz87_2, hfz87_3⟩ := blk4 BK257.out
    go_wp2
    go_ret
    exact ⟨_, eR, RAt HO_3.out, bAt HB.out⟩
end Go.Proofs.YtpkklbdclghcfaaDoor.P
