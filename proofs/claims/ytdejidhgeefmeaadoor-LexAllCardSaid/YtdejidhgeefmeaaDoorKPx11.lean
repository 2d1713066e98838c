/- Part of the proof: what the theorem needs of this text. -/
import Derived.Test.YtdejidhgeefmeaaDoorKHG
import Derived.Test.YtdejidhgeefmeaaDoorKHLB
import Derived.Test.YtdejidhgeefmeaaDoorKPx0
import Derived.Test.YtdejidhgeefmeaaDoorKPx8
namespace Go.Proofs.YtdejidhgeefmeaaDoor.P
open Go.RowKit Go.Proofs.YtdejidhgeefmeaaDoorW.PrintWords Go.Proofs.YtdejidhgeefmeaaDoorW.PrintLast Go.Proofs.YtdejidhgeefmeaaDoorW.PrintMore
attribute [local go_sem] max2_int min2_int max_two min_two max_three min_three max_four min_four   -- for this text's walks alone
set_option linter.unusedVariables false
set_option linter.unusedSimpArgs false
def lex_Join_1.f (a0_0 : Int) (a0_1 : Int) (a0_2 : Int) (a0_3 : ByteArray) (a0_4 : Int) (a1_0 : Int) (a1_1 : Int) (a1_2 : Int) (a1_3 : ByteArray) (a1_4 : Int) : Option (Bool) := if a0_0 = a1_0 then (if a0_3.toList = a1_3.toList then (some (a0_0 != 8)) else (some false)) else (some false)
set_option maxHeartbeats 8000000 in
set_option maxRecDepth 100000 in
theorem lex_Join_1.calls (a0_0 : Int) (a0_1 : Int) (a0_2 : Int) (a0_3 : ByteArray) (a0_4 : Int) (a1_0 : Int) (a1_1 : Int) (a1_2 : Int) (a1_3 : ByteArray) (a1_4 : Int) (r : Bool) (w : World) (h : lex_Join_1.f a0_0 a0_1 a0_2 a0_3 a0_4 a1_0 a1_1 a1_2 a1_3 a1_4 = some r) :
  Calls Tryd.prog 20 #[.agg #[.int .i64 a0_0, .int .i64 a0_1, .int .i64 a0_2, .string a0_3, .int .i64 a0_4], .agg #[.int .i64 a1_0, .int .i64 a1_1, .int .i64 a1_2, .string a1_3, .int .i64 a1_4]] w fun e w' => e = .returned (.bool r) ∧ Below w.heap.size w w' := by
 have hu34 := Tryd.underlying34
 have HB := Aside0.mk (Below.refl w.heap.size w)
 have H : (if a0_0 = a1_0 then (if a0_3.toList = a1_3.toList then (some (a0_0 != 8)) else (some false)) else (some false)) = some r := h
 clear h
 by_cases c3 : a0_0 = a1_0
 ·rw [if_pos c3] at H
  obtain ⟨c3b0, c3b1⟩ := eqB c3
  clear c3
  by_cases c4 : a0_3.toList = a1_3.toList
  ·rw [if_pos c4] at H
   obtain ⟨c4b0, c4b1⟩ := eqB c4
   clear c4
   obtain rfl := Option.some.inj H
   go_enter Tryd.func20, Tryd.ntmps20
   go_wp2_with (first | ((with_reducible refine gate_dst (N := 2) rfl ?_); refine box_event ?hg (N := 2) ?hd (cs := #[.int .i64 a0_0, .int .i64 a0_1, .int .i64 a0_2, .string a0_3, .int .i64 a0_4]) (t := 34) ?hr ?_; (case hd => rfl); (case hg => rfl); (case hr => first | (go_simp; done) | (go_simp; rfl)); intro gb226 hg w5 hbox hb; have BK226 := Aside0.mk (hbox); have GW226 := Aside0.mk (gE (g := gb226) hg HB.out); have GE226 := Aside0.mk (gE (g := gb226) hg HB.out); replace HB := Aside0.mk (below_step (bAt HB.out) hb); clear hb hbox hg) | ((with_reducible refine gate_dst (N := 3) rfl ?_); refine box_event ?hg (N := 3) ?hd (cs := #[.int .i64 a1_0, .int .i64 a1_1, .int .i64 a1_2, .string a1_3, .int .i64 a1_4]) (t := 34) ?hr ?_; (case hd => rfl); (case hg => rfl); (case hr => first | (go_simp; done) | (go_simp; rfl)); intro gb227 hg w6 hbox hb; have BK227 := Aside0.mk (hbox); have GW227 := Aside0.mk (gE (g := gb227) hg HB.out); have GE227 := Aside0.mk (gE (g := gb227) hg HB.out); replace HB := Aside0.mk (below_step (bAt HB.out) hb); have NB226_227 := Aside0.mk ((by rw [hg]; exact Nat.ne_of_lt (blk_lt (g := gb226) (o := .cells #[.int .i64 a0_0, .int .i64 a0_1, .int .i64 a0_2, .string a0_3, .int .i64 a0_4] 34 (0, 0)) (kAt BK226.out)) : gb226 ≠ gb227)); have NB227_226 := Aside0.mk ((by rw [hg]; exact Nat.ne_of_gt (blk_lt (g := gb226) (o := .cells #[.int .i64 a0_0, .int .i64 a0_1, .int .i64 a0_2, .string a0_3, .int .i64 a0_4] 34 (0, 0)) (kAt BK226.out)) : gb227 ≠ gb226)); replace BK226 := Aside0.mk (blk_below (g := gb226) (o := .cells #[.int .i64 a0_0, .int .i64 a0_1, .int .i64 a0_2, .string a0_3, .int .i64 a0_4] 34 (0, 0)) (kAt BK226.out) hb); clear hb hbox hg; have hnb7 := NB226_227.out; have hnc7 := NB227_226.out; obtain ⟨hcz8_0, hcz8_1, hcz8_2, hcz8_3, hcz8_4, hfz8_0, hfz8_1, hfz8_2, hfz8_3, hfz8_4⟩ := blk5 BK226.out; obtain ⟨hcz9_0, hcz9_1, hcz9_2, hcz9_3, hcz9_4, hfz9_0, hfz9_1, hfz9_2, hfz9_3, hfz9_4⟩ := blk5 BK227.out))
   go_ret
   exact ⟨eR, bAt HB.out⟩
  ·rw [if_neg c4] at H
   obtain ⟨c4b0, c4b1⟩ := neB c4
   obtain rfl := Option.some.inj H
   go_enter Tryd.func20, Tryd.ntmps20
   go_wp2_with (first | ((with_reducible refine gate_dst (N := 2) rfl ?_); refine box_event ?hg (N := 2) ?hd (cs := #[.int .i64 a0_0, .int .i64 a0_1, .int .i64 a0_2, .string a0_3, .int .i64 a0_4]) (t := 34) ?hr ?_; (case hd => rfl); (case hg => rfl); (case hr => first | (go_simp; done) | (go_simp; rfl)); intro gb226 hg w10 hbox hb; have BK226 := Aside0.mk (hbox); have GW226 := Aside0.mk (gE (g := gb226) hg HB.out); have GE226 := Aside0.mk (gE (g := gb226) hg HB.out); replace HB := Aside0.mk (below_step (bAt HB.out) hb); clear hb hbox hg) | ((with_reducible refine gate_dst (N := 3) rfl ?_); refine box_event ?hg (N := 3) ?hd (cs := #[.int .i64 a1_0, .int .i64 a1_1, .int .i64 a1_2, .string a1_3, .int .i64 a1_4]) (t := 34) ?hr ?_; (case hd => rfl); (case hg => rfl); (case hr => first | (go_simp; done) | (go_simp; rfl)); intro gb227 hg w11 hbox hb; have BK227 := Aside0.mk (hbox); have GW227 := Aside0.mk (gE (g := gb227) hg HB.out); have GE227 := Aside0.mk (gE (g := gb227) hg HB.out); replace HB := Aside0.mk (below_step (bAt HB.out) hb); have NB226_227 := Aside0.mk ((by rw [hg]; exact Nat.ne_of_lt (blk_lt (g := gb226) (o := .cells #[.int .i64 a0_0, .int .i64 a0_1, .int .i64 a0_2, .string a0_3, .int .i64 a0_4] 34 (0, 0)) (kAt BK226.out)) : gb226 ≠ gb227)); have NB227_226 := Aside0.mk ((by rw [hg]; exact Nat.ne_of_gt (blk_lt (g := gb226) (o := .cells #[.int .i64 a0_0, .int .i64 a0_1, .int .i64 a0_2, .string a0_3, .int .i64 a0_4] 34 (0, 0)) (kAt BK226.out)) : gb227 ≠ gb226)); replace BK226 := Aside0.mk (blk_below (g := gb226) (o := .cells #[.int .i64 a0_0, .int .i64 a0_1, .int .i64 a0_2, .string a0_3, .int .i64 a0_4] 34 (0, 0)) (kAt BK226.out) hb); clear hb hbox hg; have hnb12 := NB226_227.out; have hnc12 := NB227_226.out; obtain ⟨hcz13_0, hcz13_1, hcz13_2, hcz13_3, hcz13_4, hfz13_0, hfz13_1, hfz13_2, hfz13_3, hfz13_4⟩ := blk5 BK226.out; obtain ⟨hcz14_0, hcz14_1, hcz14_2, hcz14_3, hcz14_4, hfz14_0, hfz14_1, hfz14_2, hfz14_3, hfz14_4⟩ := blk5 BK227.out))
   go_ret
   exact ⟨eR, bAt HB.out⟩
 ·rw [if_neg c3] at H
  obtain ⟨c3b0, c3b1⟩ := neB c3
  obtain rfl := Option.some.inj H
  go_enter Tryd.func20, Tryd.ntmps20
  go_wp2_with (first | ((with_reducible refine gate_dst (N := 2) rfl ?_); refine box_event ?hg (N := 2) ?hd (cs := #[.int .i64 a0_0, .int .i64 a0_1, .int .i64 a0_2, .string a0_3, .int .i64 a0_4]) (t := 34) ?hr ?_; (case hd => rfl); (case hg => rfl); (case hr => first | (go_simp; done) | (go_simp; rfl)); intro gb226 hg w15 hbox hb; have BK226 := Aside0.mk (hbox); have GW226 := Aside0.mk (gE (g := gb226) hg HB.out); have GE226 := Aside0.mk (gE (g := gb226) hg HB.out); replace HB := Aside0.mk (below_step (bAt HB.out) hb); clear hb hbox hg) | ((with_reducible refine gate_dst (N := 3) rfl ?_); refine box_event ?hg (N := 3) ?hd (cs := #[.int .i64 a1_0, .int .i64 a1_1, .int .i64 a1_2, .string a1_3, .int .i64 a1_4]) (t := 34) ?hr ?_; (case hd => rfl); (case hg => rfl); (case hr => first | (go_simp; done) | (go_simp; rfl)); intro gb227 hg w16 hbox hb; have BK227 := Aside0.mk (hbox); have GW227 := Aside0.mk (gE (g := gb227) hg HB.out); have GE227 := Aside0.mk (gE (g := gb227) hg HB.out); replace HB := Aside0.mk (below_step (bAt HB.out) hb); have NB226_227 := Aside0.mk ((by rw [hg]; exact Nat.ne_of_lt (blk_lt (g := gb226) (o := .cells #[.int .i64 a0_0, .int .i64 a0_1, .int .i64 a0_2, .string a0_3, .int .i64 a0_4] 34 (0, 0)) (kAt BK226.out)) : gb226 ≠ gb227)); have NB227_226 := Aside0.mk ((by rw [hg]; exact Nat.ne_of_gt (blk_lt (g := gb226) (o := .cells #[.int .i64 a0_0, .int .i64 a0_1, .int .i64 a0_2, .string a0_3, .int .i64 a0_4] 34 (0, 0)) (kAt BK226.out)) : gb227 ≠ gb226)); replace BK226 := Aside0.mk (blk_below (g := gb226) (o := .cells #[.int .i64 a0_0, .int .i64 a0_1, .int .i64 a0_2, .string a0_3, .int .i64 a0_4] 34 (0, 0)) (kAt BK226.out) hb); clear hb hbox hg; have hnb17 := NB226_227.out; have hnc17 := NB227_226.out; obtain ⟨hcz18_0, hcz18_1, hcz18_2, hcz18_3, hcz18_4, hfz18_0, hfz18_1, hfz18_2, hfz18_3, hfz18_4⟩ := blk5 BK226.out; obtain ⟨hcz19_0, hcz19_1, hcz19_2, hcz19_3, hcz19_4, hfz19_0, hfz19_1, hfz19_2, hfz19_3, hfz19_4⟩ := blk5 BK227.out))
  go_ret
  exact ⟨eR, bAt HB.out⟩
def api_Token.l0 : Nat → List (S34) → List (S34) → Int → Int → Option (Bool)
 | 0, _, _, _, _ => none
 | k + 1, x1, x15, x16, x17 => if x17 < x16 then (if 0 ≤ x17 then (if x17 < (x15.length : Int) then (if x17 < (x1.length : Int) then ((lex_Join_1.f ((rd_T34 x15 x17).f0) ((rd_T34 x15 x17).f1) ((rd_T34 x15 x17).f2) ((rd_T34 x15 x17).f3) ((rd_T34 x15 x17).f4) ((rd_T34 x1 x17).f0) ((rd_T34 x1 x17).f1) ((rd_T34 x1 x17).f2) ((rd_T34 x1 x17).f3) ((rd_T34 x1 x17).f4)).bind fun t232 => (if t232 = true then (api_Token.l0 k x1 x15 x16 (wrap64 (x17 + 1))) else (some false))) else (none)) else (none)) else (none)) else (some true)
def api_Token.f (k : Nat) (l0 : List (S34)) (l1 : List (S34)) : Option (Bool) := if (l0.length : Int) = (l1.length : Int) then (api_Token.l0 k l1 l0 (l0.length : Int) 0) else (some false)
theorem api_Token.mono_l : ∀ k, (∀ y0 y1 y2 y3, LeO (api_Token.l0 k y0 y1 y2 y3) (api_Token.l0 (k + 1) y0 y1 y2 y3))
 | 0 => fun _ _ _ _ r h => by simp [api_Token.l0] at h
 | k + 1 => by
  have ih0 := api_Token.mono_l k
  ·intro y0 y1 y2 y3
   unfold api_Token.l0
   repeat' with_reducible first | exact ih0 _ _ _ _ | exact LeO.refl _ | exact LeO.none _ | refine LeO.ite ?_ ?_ | refine LeO.bind ?_ (fun _ => ?_)
theorem api_Token.mono : ∀ a0 a1 k, LeO (api_Token.f k a0 a1) (api_Token.f (k + 1) a0 a1) := by
 intro a0 a1 k
 have ih0 := api_Token.mono_l k
 unfold api_Token.f
 repeat' with_reducible first | exact ih0 _ _ _ _ | exact LeO.refl _ | exact LeO.none _ | refine LeO.ite ?_ ?_ | refine LeO.bind ?_ (fun _ => ?_)
set_option maxHeartbeats 8000000 in
set_option maxRecDepth 100000 in
theorem api_Token.calls (k : Nat) (A0 : Option Addr) (c0 : Nat) (l0 : List (S34)) (A1 : Option Addr) (c1 : Nat) (l1 : List (S34)) (r : Bool) (w : World) (hr0 : Kd.C k34 w A0 l0.length l0) (hc0 : l0.length ≤ c0) (hr1 : Kd.C k34 w A1 l1.length l1) (hc1 : l1.length ≤ c1) (h : api_Token.f k l0 l1 = some r) :
  Calls Tryd.prog 19 #[.slice A0 l0.length c0, .slice A1 l1.length c1, .func (.func 20) #[] #[]] w fun e w' => e = .returned (.bool r) ∧ Below w.heap.size w w' := by
 have hu34 := Tryd.underlying34
 have HR0 := Aside0.mk hr0
 have HC0 := Aside0.mk hc0
 clear hr0 hc0
 have HR1 := Aside0.mk hr1
 have HC1 := Aside0.mk hc1
 clear hr1 hc1
 have HB := Aside0.mk (Below.refl w.heap.size w)
 have H : (if (l0.length : Int) = (l1.length : Int) then (api_Token.l0 k l1 l0 (l0.length : Int) 0) else (some false)) = some r := h
 clear h
 by_cases c3 : (l0.length : Int) = (l1.length : Int)
 ·rw [if_pos c3] at H
  obtain ⟨c3b0, c3b1⟩ := eqB c3
  have c3b2 : (l0.length == l1.length) = true := by first | simpa using c3 | (simp at c3 ⊢; omega)
  clear c3
  have H' := Aside0.mk H
  clear H
  go_enter Tryd.func19, Tryd.ntmps19
  go_wp2
  go_loopg [17] k (fun kq v17 w' => ∃ (x17_1 : Int), v17 = .int .i64 x17_1 ∧ Aside0 (api_Token.l0 kq l1 l0 (l0.length : Int) x17_1 = some r) ∧ Aside0 (kq ≤ k) ∧ Aside0 (Below w.heap.size w w'))
  case atStart => exact ⟨(0), sR, H', ⟨Nat.le_refl _⟩, ⟨bAt HB.out⟩⟩
  case round =>
   clear H'
   try clear c1
   try clear p2
   try clear c3
   try clear c3b0 c3b1
   try clear c3b2
   obtain ⟨x17_1, rfl, HA, HK1, HB⟩ := hrel
   cases gk with
   | zero => exact absurd HA.out (by simp [api_Token.l0])
   | succ k1 =>
    have H := HA.out
    clear HA
    simp only [api_Token.l0] at H
    by_cases c4 : x17_1 < (l0.length : Int)
    ·rw [if_pos c4] at H
     have c4b0 := decide_eq_true c4
     clear c4
     by_cases c5 : 0 ≤ x17_1
     ·rw [if_pos c5] at H
      have c5b0 := decide_eq_true c5
      clear c5
      by_cases c6 : x17_1 < (l0.length : Int)
      ·rw [if_pos c6] at H
       have c6b0 := decide_eq_true c6
       clear c6
       by_cases c7 : x17_1 < (l1.length : Int)
       ·rw [if_pos c7] at H
        have c7b0 := decide_eq_true c7
        clear c7
        obtain ⟨t232, A8, H⟩ := bE H
        by_cases c9 : t232 = true
        ·subst c9
         replace H := tP H
         have H' := Aside0.mk H
         clear H
         have p228 : 0 ≤ (x17_1 : Int) := dt
         have q228 : x17_1 < (l0.length : Int) := dt
         obtain ⟨ad228, e228, hx228_0, hx228_1, hx228_2, hx228_3, hx228_4⟩ := at_T34 HR0.out x17_1 p228 q228
         cases e228
         replace hx228_0 := pw_cell_below HB.out hx228_0
         replace hx228_1 := pw_cell_below HB.out hx228_1
         replace hx228_2 := pw_cell_below HB.out hx228_2
         replace hx228_3 := pw_cell_below HB.out hx228_3
         replace hx228_4 := pw_cell_below HB.out hx228_4
         replace p228 := eq_true p228
         replace q228 := eq_true q228
         go_wp2_with (first | ((with_reducible refine gate_dst (N := 8) rfl ?_); refine box_event ?hg (N := 8) ?hd (cs := #[.int .i64 0, .int .i64 0, .int .i64 0, .string (⟨#[]⟩ : ByteArray), .int .i64 0]) (t := 34) ?hr ?_; (case hd => rfl); (case hg => rfl); (case hr => first | (go_simp; done) | (go_simp; rfl)); intro gb229 hg w10 hbox hb; have BK229 := Aside0.mk (hbox); have GW229 := Aside0.mk (gE (g := gb229) hg HB.out); have GE229 := Aside0.mk (gE (g := gb229) hg HB.out); replace HB := Aside0.mk (below_step (bAt HB.out) hb); clear hb hbox hg; obtain ⟨hcz11_0, hcz11_1, hcz11_2, hcz11_3, hcz11_4, hfz11_0, hfz11_1, hfz11_2, hfz11_3, hfz11_4⟩ := blk5 BK229.out; have p230 : 0 ≤ (x17_1 : Int) := dt; have q230 : x17_1 < (l1.length : Int) := dt; obtain ⟨ad230, e230, hx230_0, hx230_1, hx230_2, hx230_3, hx230_4⟩ := at_T34 HR1.out x17_1 p230 q230; cases e230; have hn230_0 : ad230.block ≠ gb229 := Nat.ne_of_lt (Nat.lt_of_lt_of_le (by have := World.block_lt_of_cell? _ _ hx230_0; first | rwa [add_block] at this | exact this) GW229.out); have hn230_1 : ad230.block ≠ gb229 := Nat.ne_of_lt (Nat.lt_of_lt_of_le (by have := World.block_lt_of_cell? _ _ hx230_0; first | rwa [add_block] at this | exact this) GW229.out); have hn230_2 : ad230.block ≠ gb229 := Nat.ne_of_lt (Nat.lt_of_lt_of_le (by have := World.block_lt_of_cell? _ _ hx230_0; first | rwa [add_block] at this | exact this) GW229.out); have hn230_3 : ad230.block ≠ gb229 := Nat.ne_of_lt (Nat.lt_of_lt_of_le (by have := World.block_lt_of_cell? _ _ hx230_0; first | rwa [add_block] at this | exact this) GW229.out); have hn230_4 : ad230.block ≠ gb229 := Nat.ne_of_lt (Nat.lt_of_lt_of_le (by have := World.block_lt_of_cell? _ _ hx230_0; first | rwa [add_block] at this | exact this) GW229.out); replace hx230_0 := pw_cell_below HB.out hx230_0; replace hx230_1 := pw_cell_below HB.out hx230_1; replace hx230_2 := pw_cell_below HB.out hx230_2; replace hx230_3 := pw_cell_below HB.out hx230_3; replace hx230_4 := pw_cell_below HB.out hx230_4; replace hx230_0 := (cell_far (p := ⟨gb229, 0, none⟩) (by first | (rw [add_block]; exact hn230_0) | (show (Addr.add _ _).block ≠ _; rw [add_block]; exact hn230_0) | exact hn230_0) (.int .i64 ((rd_T34 l0 x17_1).f0))).trans hx230_0; replace hx230_1 := (cell_far (p := ⟨gb229, 0, none⟩) (by first | (rw [add_block]; exact hn230_0) | (show (Addr.add _ _).block ≠ _; rw [add_block]; exact hn230_0) | exact hn230_0) (.int .i64 ((rd_T34 l0 x17_1).f0))).trans hx230_1; replace hx230_2 := (cell_far (p := ⟨gb229, 0, none⟩) (by first | (rw [add_block]; exact hn230_0) | (show (Addr.add _ _).block ≠ _; rw [add_block]; exact hn230_0) | exact hn230_0) (.int .i64 ((rd_T34 l0 x17_1).f0))).trans hx230_2; replace hx230_3 := (cell_far (p := ⟨gb229, 0, none⟩) (by first | (rw [add_block]; exact hn230_0) | (show (Addr.add _ _).block ≠ _; rw [add_block]; exact hn230_0) | exact hn230_0) (.int .i64 ((rd_T34 l0 x17_1).f0))).trans hx230_3; replace hx230_4 := (cell_far (p := ⟨gb229, 0, none⟩) (by first | (rw [add_block]; exact hn230_0) | (show (Addr.add _ _).block ≠ _; rw [add_block]; exact hn230_0) | exact hn230_0) (.int .i64 ((rd_T34 l0 x17_1).f0))).trans hx230_4; replace hx230_0 := (cell_far (p := ⟨gb229, 1, none⟩) (by first | (rw [add_block]; exact hn230_1) | (show (Addr.add _ _).block ≠ _; rw [add_block]; exact hn230_1) | exact hn230_1) (.int .i64 ((rd_T34 l0 x17_1).f1))).trans hx230_0; replace hx230_1 := (cell_far (p := ⟨gb229, 1, none⟩) (by first | (rw [add_block]; exact hn230_1) | (show (Addr.add _ _).block ≠ _; rw [add_block]; exact hn230_1) | exact hn230_1) (.int .i64 ((rd_T34 l0 x17_1).f1))).trans hx230_1; replace hx230_2 := (cell_far (p := ⟨gb229, 1, none⟩) (by first | (rw [add_block]; exact hn230_1) | (show (Addr.add _ _).block ≠ _; rw [add_block]; exact hn230_1) | exact hn230_1) (.int .i64 ((rd_T34 l0 x17_1).f1))).trans hx230_2; replace hx230_3 := (cell_far (p := ⟨gb229, 1, none⟩) (by first | (rw [add_block]; exact hn230_1) | (show (Addr.add _ _).block ≠ _; rw [add_block]; exact hn230_1) | exact hn230_1) (.int .i64 ((rd_T34 l0 x17_1).f1))).trans hx230_3; replace hx230_4 := (cell_far (p := ⟨gb229, 1, none⟩) (by first | (rw [add_block]; exact hn230_1) | (show (Addr.add _ _).block ≠ _; rw [add_block]; exact hn230_1) | exact hn230_1) (.int .i64 ((rd_T34 l0 x17_1).f1))).trans hx230_4; replace hx230_0 := (cell_far (p := ⟨gb229, 2, none⟩) (by first | (rw [add_block]; exact hn230_2) | (show (Addr.add _ _).block ≠ _; rw [add_block]; exact hn230_2) | exact hn230_2) (.int .i64 ((rd_T34 l0 x17_1).f2))).trans hx230_0; replace hx230_1 := (cell_far (p := ⟨gb229, 2, none⟩) (by first | (rw [add_block]; exact hn230_2) | (show (Addr.add _ _).block ≠ _; rw [add_block]; exact hn230_2) | exact hn230_2) (.int .i64 ((rd_T34 l0 x17_1).f2))).trans hx230_1; replace hx230_2 := (cell_far (p := ⟨gb229, 2, none⟩) (by first | (rw [add_block]; exact hn230_2) | (show (Addr.add _ _).block ≠ _; rw [add_block]; exact hn230_2) | exact hn230_2) (.int .i64 ((rd_T34 l0 x17_1).f2))).trans hx230_2; replace hx230_3 := (cell_far (p := ⟨gb229, 2, none⟩) (by first | (rw [add_block]; exact hn230_2) | (show (Addr.add _ _).block ≠ _; rw [add_block]; exact hn230_2) | exact hn230_2) (.int .i64 ((rd_T34 l0 x17_1).f2))).trans hx230_3; replace hx230_4 := (cell_far (p := ⟨gb229, 2, none⟩) (by first | (rw [add_block]; exact hn230_2) | (show (Addr.add _ _).block ≠ _; rw [add_block]; exact hn230_2) | exact hn230_2) (.int .i64 ((rd_T34 l0 x17_1).f2))).trans hx230_4; replace hx230_0 := (cell_far (p := ⟨gb229, 3, none⟩) (by first | (rw [add_block]; exact hn230_3) | (show (Addr.add _ _).block ≠ _; rw [add_block]; exact hn230_3) | exact hn230_3) (.string ((rd_T34 l0 x17_1).f3))).trans hx230_0; replace hx230_1 := (cell_far (p := ⟨gb229, 3, none⟩) (by first | (rw [add_block]; exact hn230_3) | (show (Addr.add _ _).block ≠ _; rw [add_block]; exact hn230_3) | exact hn230_3) (.string ((rd_T34 l0 x17_1).f3))).trans hx230_1; replace hx230_2 := (cell_far (p := ⟨gb229, 3, none⟩) (by first | (rw [add_block]; exact hn230_3) | (show (Addr.add _ _).block ≠ _; rw [add_block]; exact hn230_3) | exact hn230_3) (.string ((rd_T34 l0 x17_1).f3))).trans hx230_2; replace hx230_3 := (cell_far (p := ⟨gb229, 3, none⟩) (by first | (rw [add_block]; exact hn230_3) | (show (Addr.add _ _).block ≠ _; rw [add_block]; exact hn230_3) | exact hn230_3) (.string ((rd_T34 l0 x17_1).f3))).trans hx230_3; replace hx230_4 := (cell_far (p := ⟨gb229, 3, none⟩) (by first | (rw [add_block]; exact hn230_3) | (show (Addr.add _ _).block ≠ _; rw [add_block]; exact hn230_3) | exact hn230_3) (.string ((rd_T34 l0 x17_1).f3))).trans hx230_4; replace hx230_0 := (cell_far (p := ⟨gb229, 4, none⟩) (by first | (rw [add_block]; exact hn230_4) | (show (Addr.add _ _).block ≠ _; rw [add_block]; exact hn230_4) | exact hn230_4) (.int .i64 ((rd_T34 l0 x17_1).f4))).trans hx230_0; replace hx230_1 := (cell_far (p := ⟨gb229, 4, none⟩) (by first | (rw [add_block]; exact hn230_4) | (show (Addr.add _ _).block ≠ _; rw [add_block]; exact hn230_4) | exact hn230_4) (.int .i64 ((rd_T34 l0 x17_1).f4))).trans hx230_1; replace hx230_2 := (cell_far (p := ⟨gb229, 4, none⟩) (by first | (rw [add_block]; exact hn230_4) | (show (Addr.add _ _).block ≠ _; rw [add_block]; exact hn230_4) | exact hn230_4) (.int .i64 ((rd_T34 l0 x17_1).f4))).trans hx230_2; replace hx230_3 := (cell_far (p := ⟨gb229, 4, none⟩) (by first | (rw [add_block]; exact hn230_4) | (show (Addr.add _ _).block ≠ _; rw [add_block]; exact hn230_4) | exact hn230_4) (.int .i64 ((rd_T34 l0 x17_1).f4))).trans hx230_3; replace hx230_4 := (cell_far (p := ⟨gb229, 4, none⟩) (by first | (rw [add_block]; exact hn230_4) | (show (Addr.add _ _).block ≠ _; rw [add_block]; exact hn230_4) | exact hn230_4) (.int .i64 ((rd_T34 l0 x17_1).f4))).trans hx230_4; clear hn230_0 hn230_1 hn230_2 hn230_3 hn230_4; replace p230 := eq_true p230; replace q230 := eq_true q230) | ((with_reducible refine gate_dst (N := 9) rfl ?_); refine box_event ?hg (N := 9) ?hd (cs := #[.int .i64 0, .int .i64 0, .int .i64 0, .string (⟨#[]⟩ : ByteArray), .int .i64 0]) (t := 34) ?hr ?_; (case hd => rfl); (case hg => rfl); (case hr => first | (go_simp; done) | (go_simp; rfl)); intro gb231 hg w12 hbox hb; have BK231 := Aside0.mk (hbox); have GW231 := Aside0.mk (gE (g := gb231) hg HB.out); have GE231 := Aside0.mk (gE (g := gb231) hg HB.out); replace HB := Aside0.mk (below_step (bAt HB.out) hb); have NB229_231 := Aside0.mk ((by rw [hg]; exact Nat.ne_of_lt (blk_lt (g := gb229) (o := .cells #[.int .i64 ((rd_T34 l0 x17_1).f0), .int .i64 ((rd_T34 l0 x17_1).f1), .int .i64 ((rd_T34 l0 x17_1).f2), .string ((rd_T34 l0 x17_1).f3), .int .i64 ((rd_T34 l0 x17_1).f4)] 34 (0, 0)) (by refine bP #[.int .i64 ((rd_T34 l0 x17_1).f0), .int .i64 ((rd_T34 l0 x17_1).f1), .int .i64 ((rd_T34 l0 x17_1).f2), .string ((rd_T34 l0 x17_1).f3), .int .i64 0] 4 ?_; refine bP #[.int .i64 ((rd_T34 l0 x17_1).f0), .int .i64 ((rd_T34 l0 x17_1).f1), .int .i64 ((rd_T34 l0 x17_1).f2), .string (⟨#[]⟩ : ByteArray), .int .i64 0] 3 ?_; refine bP #[.int .i64 ((rd_T34 l0 x17_1).f0), .int .i64 ((rd_T34 l0 x17_1).f1), .int .i64 0, .string (⟨#[]⟩ : ByteArray), .int .i64 0] 2 ?_; refine bP #[.int .i64 ((rd_T34 l0 x17_1).f0), .int .i64 0, .int .i64 0, .string (⟨#[]⟩ : ByteArray), .int .i64 0] 1 ?_; refine bP #[.int .i64 0, .int .i64 0, .int .i64 0, .string (⟨#[]⟩ : ByteArray), .int .i64 0] 0 ?_; (with_reducible repeat (first | refine blk_drewN ?_ _ | refine blk_drew ?_ | refine blk_alloc ?_ _)); exact BK229.out)) : gb229 ≠ gb231)); have NB231_229 := Aside0.mk ((by rw [hg]; exact Nat.ne_of_gt (blk_lt (g := gb229) (o := .cells #[.int .i64 ((rd_T34 l0 x17_1).f0), .int .i64 ((rd_T34 l0 x17_1).f1), .int .i64 ((rd_T34 l0 x17_1).f2), .string ((rd_T34 l0 x17_1).f3), .int .i64 ((rd_T34 l0 x17_1).f4)] 34 (0, 0)) (by refine bP #[.int .i64 ((rd_T34 l0 x17_1).f0), .int .i64 ((rd_T34 l0 x17_1).f1), .int .i64 ((rd_T34 l0 x17_1).f2), .string ((rd_T34 l0 x17_1).f3), .int .i64 0] 4 ?_; refine bP #[.int .i64 ((rd_T34 l0 x17_1).f0), .int .i64 ((rd_T34 l0 x17_1).f1), .int .i64 ((rd_T34 l0 x17_1).f2), .string (⟨#[]⟩ : ByteArray), .int .i64 0] 3 ?_; refine bP #[.int .i64 ((rd_T34 l0 x17_1).f0), .int .i64 ((rd_T34 l0 x17_1).f1), .int .i64 0, .string (⟨#[]⟩ : ByteArray), .int .i64 0] 2 ?_; refine bP #[.int .i64 ((rd_T34 l0 x17_1).f0), .int .i64 0, .int .i64 0, .string (⟨#[]⟩ : ByteArray), .int .i64 0] 1 ?_; refine bP #[.int .i64 0, .int .i64 0, .int .i64 0, .string (⟨#[]⟩ : ByteArray), .int .i64 0] 0 ?_; (with_reducible repeat (first | refine blk_drewN ?_ _ | refine blk_drew ?_ | refine blk_alloc ?_ _)); exact BK229.out)) : gb231 ≠ gb229)); replace BK229 := Aside0.mk (blk_below (g := gb229) (o := .cells #[.int .i64 ((rd_T34 l0 x17_1).f0), .int .i64 ((rd_T34 l0 x17_1).f1), .int .i64 ((rd_T34 l0 x17_1).f2), .string ((rd_T34 l0 x17_1).f3), .int .i64 ((rd_T34 l0 x17_1).f4)] 34 (0, 0)) (by refine bP #[.int .i64 ((rd_T34 l0 x17_1).f0), .int .i64 ((rd_T34 l0 x17_1).f1), .int .i64 ((rd_T34 l0 x17_1).f2), .string ((rd_T34 l0 x17_1).f3), .int .i64 0] 4 ?_; refine bP #[.int .i64 ((rd_T34 l0 x17_1).f0), .int .i64 ((rd_T34 l0 x17_1).f1), .int .i64 ((rd_T34 l0 x17_1).f2), .string (⟨#[]⟩ : ByteArray), .int .i64 0] 3 ?_; refine bP #[.int .i64 ((rd_T34 l0 x17_1).f0), .int .i64 ((rd_T34 l0 x17_1).f1), .int .i64 0, .string (⟨#[]⟩ : ByteArray), .int .i64 0] 2 ?_; refine bP #[.int .i64 ((rd_T34 l0 x17_1).f0), .int .i64 0, .int .i64 0, .string (⟨#[]⟩ : ByteArray), .int .i64 0] 1 ?_; refine bP #[.int .i64 0, .int .i64 0, .int .i64 0, .string (⟨#[]⟩ : ByteArray), .int .i64 0] 0 ?_; (with_reducible repeat (first | refine blk_drewN ?_ _ | refine blk_drew ?_ | refine blk_alloc ?_ _)); exact BK229.out) hb); clear hb hbox hg; have hnb13 := NB231_229.out; have hnc13 := NB229_231.out; obtain ⟨hcz14_0, hcz14_1, hcz14_2, hcz14_3, hcz14_4, hfz14_0, hfz14_1, hfz14_2, hfz14_3, hfz14_4⟩ := blk5 BK231.out; obtain ⟨hcz15_0, hcz15_1, hcz15_2, hcz15_3, hcz15_4, hfz15_0, hfz15_1, hfz15_2, hfz15_3, hfz15_4⟩ := blk5 BK229.out) | ((with_reducible refine gate_dst (N := 29) rfl ?_); refine goesF_ (some 29) rfl rfl 20 Tryd.func20 (by kernel_rfl) rfl #[.agg #[.int .i64 ((rd_T34 l0 x17_1).f0), .int .i64 ((rd_T34 l0 x17_1).f1), .int .i64 ((rd_T34 l0 x17_1).f2), .string ((rd_T34 l0 x17_1).f3), .int .i64 ((rd_T34 l0 x17_1).f4)], .agg #[.int .i64 ((rd_T34 l1 x17_1).f0), .int .i64 ((rd_T34 l1 x17_1).f1), .int .i64 ((rd_T34 l1 x17_1).f2), .string ((rd_T34 l1 x17_1).f3), .int .i64 ((rd_T34 l1 x17_1).f4)]] rfl gA ?_; (with_reducible refine (lex_Join_1.calls ((rd_T34 l0 x17_1).f0) ((rd_T34 l0 x17_1).f1) ((rd_T34 l0 x17_1).f2) ((rd_T34 l0 x17_1).f3) ((rd_T34 l0 x17_1).f4) ((rd_T34 l1 x17_1).f0) ((rd_T34 l1 x17_1).f1) ((rd_T34 l1 x17_1).f2) ((rd_T34 l1 x17_1).f3) ((rd_T34 l1 x17_1).f4) true _ A8.out).mono ?_); rintro e w16 ⟨rfl, hb⟩; refine ⟨_, rfl, ?_⟩; replace BK229 := Aside0.mk (blk_below (g := gb229) (o := .cells #[.int .i64 ((rd_T34 l0 x17_1).f0), .int .i64 ((rd_T34 l0 x17_1).f1), .int .i64 ((rd_T34 l0 x17_1).f2), .string ((rd_T34 l0 x17_1).f3), .int .i64 ((rd_T34 l0 x17_1).f4)] 34 (0, 0)) (by (with_reducible repeat (first | refine blk_drewN ?_ _ | refine blk_drew ?_ | refine blk_alloc ?_ _)); refine blk_far ?_ NB229_231.out _; (with_reducible repeat (first | refine blk_drewN ?_ _ | refine blk_drew ?_ | refine blk_alloc ?_ _)); refine blk_far ?_ NB229_231.out _; (with_reducible repeat (first | refine blk_drewN ?_ _ | refine blk_drew ?_ | refine blk_alloc ?_ _)); refine blk_far ?_ NB229_231.out _; (with_reducible repeat (first | refine blk_drewN ?_ _ | refine blk_drew ?_ | refine blk_alloc ?_ _)); refine blk_far ?_ NB229_231.out _; (with_reducible repeat (first | refine blk_drewN ?_ _ | refine blk_drew ?_ | refine blk_alloc ?_ _)); refine blk_far ?_ NB229_231.out _; (with_reducible repeat (first | refine blk_drewN ?_ _ | refine blk_drew ?_ | refine blk_alloc ?_ _)); exact BK229.out) hb); replace BK231 := Aside0.mk (blk_below (g := gb231) (o := .cells #[.int .i64 ((rd_T34 l1 x17_1).f0), .int .i64 ((rd_T34 l1 x17_1).f1), .int .i64 ((rd_T34 l1 x17_1).f2), .string ((rd_T34 l1 x17_1).f3), .int .i64 ((rd_T34 l1 x17_1).f4)] 34 (0, 0)) (by refine bP #[.int .i64 ((rd_T34 l1 x17_1).f0), .int .i64 ((rd_T34 l1 x17_1).f1), .int .i64 ((rd_T34 l1 x17_1).f2), .string ((rd_T34 l1 x17_1).f3), .int .i64 0] 4 ?_; refine bP #[.int .i64 ((rd_T34 l1 x17_1).f0), .int .i64 ((rd_T34 l1 x17_1).f1), .int .i64 ((rd_T34 l1 x17_1).f2), .string (⟨#[]⟩ : ByteArray), .int .i64 0] 3 ?_; refine bP #[.int .i64 ((rd_T34 l1 x17_1).f0), .int .i64 ((rd_T34 l1 x17_1).f1), .int .i64 0, .string (⟨#[]⟩ : ByteArray), .int .i64 0] 2 ?_; refine bP #[.int .i64 ((rd_T34 l1 x17_1).f0), .int .i64 0, .int .i64 0, .string (⟨#[]⟩ : ByteArray), .int .i64 0] 1 ?_; refine bP #[.int .i64 0, .int .i64 0, .int .i64 0, .string (⟨#[]⟩ : ByteArray), .int .i64 0] 0 ?_; (with_reducible repeat (first | refine blk_drewN ?_ _ | refine blk_drew ?_ | refine blk_alloc ?_ _)); exact BK231.out) hb); replace HB := Aside0.mk (below_step (bAt HB.out) hb); (try clear hb); (try clear hb2); (try clear hk); (try clear hi)))
         go_roundg k1
         case measure => have := HK1.out; omega
         case rel => exact ⟨(wrap64 (x17_1 + 1)), sR, H', ⟨by have := HK1.out; omega⟩, ⟨bAt HB.out⟩⟩
        ·replace c9 := Bool.eq_false_iff.mpr c9
         subst c9
         replace H := fP H
         obtain rfl := Option.some.inj H
         have p228 : 0 ≤ (x17_1 : Int) := dt
         have q228 : x17_1 < (l0.length : Int) := dt
         obtain ⟨ad228, e228, hx228_0, hx228_1, hx228_2, hx228_3, hx228_4⟩ := at_T34 HR0.out x17_1 p228 q228
         cases e228
         replace hx228_0 := pw_cell_below HB.out hx228_0
         replace hx228_1 := pw_cell_below HB.out hx228_1
         replace hx228_2 := pw_cell_below HB.out hx228_2
         replace hx228_3 := pw_cell_below HB.out hx228_3
         replace hx228_4 := pw_cell_below HB.out hx228_4
         replace p228 := eq_true p228
         replace q228 := eq_true q228
         go_wp2_with (first | ((with_reducible refine gate_dst (N := 8) rfl ?_); refine box_event ?hg (N := 8) ?hd (cs := #[.int .i64 0, .int .i64 0, .int .i64 0, .string (⟨#[]⟩ : ByteArray), .int .i64 0]) (t := 34) ?hr ?_; (case hd => rfl); (case hg => rfl); (case hr => first | (go_simp; done) | (go_simp; rfl)); intro gb229 hg w17 hbox hb; have BK229 := Aside0.mk (hbox); have GW229 := Aside0.mk (gE (g := gb229) hg HB.out); have GE229 := Aside0.mk (gE (g := gb229) hg HB.out); replace HB := Aside0.mk (below_step (bAt HB.out) hb); clear hb hbox hg; obtain ⟨hcz18_0, hcz18_1, hcz18_2, hcz18_3, hcz18_4, hfz18_0, hfz18_1, hfz18_2, hfz18_3, hfz18_4⟩ := blk5 BK229.out; have p230 : 0 ≤ (x17_1 : Int) := dt; have q230 : x17_1 < (l1.length : Int) := dt; obtain ⟨ad230, e230, hx230_0, hx230_1, hx230_2, hx230_3, hx230_4⟩ := at_T34 HR1.out x17_1 p230 q230; cases e230; have hn230_0 : ad230.block ≠ gb229 := Nat.ne_of_lt (Nat.lt_of_lt_of_le (by have := World.block_lt_of_cell? _ _ hx230_0; first | rwa [add_block] at this | exact this) GW229.out); have hn230_1 : ad230.block ≠ gb229 := Nat.ne_of_lt (Nat.lt_of_lt_of_le (by have := World.block_lt_of_cell? _ _ hx230_0; first | rwa [add_block] at this | exact this) GW229.out); have hn230_2 : ad230.block ≠ gb229 := Nat.ne_of_lt (Nat.lt_of_lt_of_le (by have := World.block_lt_of_cell? _ _ hx230_0; first | rwa [add_block] at this | exact this) GW229.out); have hn230_3 : ad230.block ≠ gb229 := Nat.ne_of_lt (Nat.lt_of_lt_of_le (by have := World.block_lt_of_cell? _ _ hx230_0; first | rwa [add_block] at this | exact this) GW229.out); have hn230_4 : ad230.block ≠ gb229 := Nat.ne_of_lt (Nat.lt_of_lt_of_le (by have := World.block_lt_of_cell? _ _ hx230_0; first | rwa [add_block] at this | exact this) GW229.out); replace hx230_0 := pw_cell_below HB.out hx230_0; replace hx230_1 := pw_cell_below HB.out hx230_1; replace hx230_2 := pw_cell_below HB.out hx230_2; replace hx230_3 := pw_cell_below HB.out hx230_3; replace hx230_4 := pw_cell_below HB.out hx230_4; replace hx230_0 := (cell_far (p := ⟨gb229, 0, none⟩) (by first | (rw [add_block]; exact hn230_0) | (show (Addr.add _ _).block ≠ _; rw [add_block]; exact hn230_0) | exact hn230_0) (.int .i64 ((rd_T34 l0 x17_1).f0))).trans hx230_0; replace hx230_1 := (cell_far (p := ⟨gb229, 0, none⟩) (by first | (rw [add_block]; exact hn230_0) | (show (Addr.add _ _).block ≠ _; rw [add_block]; exact hn230_0) | exact hn230_0) (.int .i64 ((rd_T34 l0 x17_1).f0))).trans hx230_1; replace hx230_2 := (cell_far (p := ⟨gb229, 0, none⟩) (by first | (rw [add_block]; exact hn230_0) | (show (Addr.add _ _).block ≠ _; rw [add_block]; exact hn230_0) | exact hn230_0) (.int .i64 ((rd_T34 l0 x17_1).f0))).trans hx230_2; replace hx230_3 := (cell_far (p := ⟨gb229, 0, none⟩) (by first | (rw [add_block]; exact hn230_0) | (show (Addr.add _ _).block ≠ _; rw [add_block]; exact hn230_0) | exact hn230_0) (.int .i64 ((rd_T34 l0 x17_1).f0))).trans hx230_3; replace hx230_4 := (cell_far (p := ⟨gb229, 0, none⟩) (by first | (rw [add_block]; exact hn230_0) | (show (Addr.add _ _).block ≠ _; rw [add_block]; exact hn230_0) | exact hn230_0) (.int .i64 ((rd_T34 l0 x17_1).f0))).trans hx230_4; replace hx230_0 := (cell_far (p := ⟨gb229, 1, none⟩) (by first | (rw [add_block]; exact hn230_1) | (show (Addr.add _ _).block ≠ _; rw [add_block]; exact hn230_1) | exact hn230_1) (.int .i64 ((rd_T34 l0 x17_1).f1))).trans hx230_0; replace hx230_1 := (cell_far (p := ⟨gb229, 1, none⟩) (by first | (rw [add_block]; exact hn230_1) | (show (Addr.add _ _).block ≠ _; rw [add_block]; exact hn230_1) | exact hn230_1) (.int .i64 ((rd_T34 l0 x17_1).f1))).trans hx230_1; replace hx230_2 := (cell_far (p := ⟨gb229, 1, none⟩) (by first | (rw [add_block]; exact hn230_1) | (show (Addr.add _ _).block ≠ _; rw [add_block]; exact hn230_1) | exact hn230_1) (.int .i64 ((rd_T34 l0 x17_1).f1))).trans hx230_2; replace hx230_3 := (cell_far (p := ⟨gb229, 1, none⟩) (by first | (rw [add_block]; exact hn230_1) | (show (Addr.add _ _).block ≠ _; rw [add_block]; exact hn230_1) | exact hn230_1) (.int .i64 ((rd_T34 l0 x17_1).f1))).trans hx230_3; replace hx230_4 := (cell_far (p := ⟨gb229, 1, none⟩) (by first | (rw [add_block]; exact hn230_1) | (show (Addr.add _ _).block ≠ _; rw [add_block]; exact hn230_1) | exact hn230_1) (.int .i64 ((rd_T34 l0 x17_1).f1))).trans hx230_4; replace hx230_0 := (cell_far (p := ⟨gb229, 2, none⟩) (by first | (rw [add_block]; exact hn230_2) | (show (Addr.add _ _).block ≠ _; rw [add_block]; exact hn230_2) | exact hn230_2) (.int .i64 ((rd_T34 l0 x17_1).f2))).trans hx230_0; replace hx230_1 := (cell_far (p := ⟨gb229, 2, none⟩) (by first | (rw [add_block]; exact hn230_2) | (show (Addr.add _ _).block ≠ _; rw [add_block]; exact hn230_2) | exact hn230_2) (.int .i64 ((rd_T34 l0 x17_1).f2))).trans hx230_1; replace hx230_2 := (cell_far (p := ⟨gb229, 2, none⟩) (by first | (rw [add_block]; exact hn230_2) | (show (Addr.add _ _).block ≠ _; rw [add_block]; exact hn230_2) | exact hn230_2) (.int .i64 ((rd_T34 l0 x17_1).f2))).trans hx230_2; replace hx230_3 := (cell_far (p := ⟨gb229, 2, none⟩) (by first | (rw [add_block]; exact hn230_2) | (show (Addr.add _ _).block ≠ _; rw [add_block]; exact hn230_2) | exact hn230_2) (.int .i64 ((rd_T34 l0 x17_1).f2))).trans hx230_3; replace hx230_4 := (cell_far (p := ⟨gb229, 2, none⟩) (by first | (rw [add_block]; exact hn230_2) | (show (Addr.add _ _).block ≠ _; rw [add_block]; exact hn230_2) | exact hn230_2) (.int .i64 ((rd_T34 l0 x17_1).f2))).trans hx230_4; replace hx230_0 := (cell_far (p := ⟨gb229, 3, none⟩) (by first | (rw [add_block]; exact hn230_3) | (show (Addr.add _ _).block ≠ _; rw [add_block]; exact hn230_3) | exact hn230_3) (.string ((rd_T34 l0 x17_1).f3))).trans hx230_0; replace hx230_1 := (cell_far (p := ⟨gb229, 3, none⟩) (by first | (rw [add_block]; exact hn230_3) | (show (Addr.add _ _).block ≠ _; rw [add_block]; exact hn230_3) | exact hn230_3) (.string ((rd_T34 l0 x17_1).f3))).trans hx230_1; replace hx230_2 := (cell_far (p := ⟨gb229, 3, none⟩) (by first | (rw [add_block]; exact hn230_3) | (show (Addr.add _ _).block ≠ _; rw [add_block]; exact hn230_3) | exact hn230_3) (.string ((rd_T34 l0 x17_1).f3))).trans hx230_2; replace hx230_3 := (cell_far (p := ⟨gb229, 3, none⟩) (by first | (rw [add_block]; exact hn230_3) | (show (Addr.add _ _).block ≠ _; rw [add_block]; exact hn230_3) | exact hn230_3) (.string ((rd_T34 l0 x17_1).f3))).trans hx230_3; replace hx230_4 := (cell_far (p := ⟨gb229, 3, none⟩) (by first | (rw [add_block]; exact hn230_3) | (show (Addr.add _ _).block ≠ _; rw [add_block]; exact hn230_3) | exact hn230_3) (.string ((rd_T34 l0 x17_1).f3))).trans hx230_4; replace hx230_0 := (cell_far (p := ⟨gb229, 4, none⟩) (by first | (rw [add_block]; exact hn230_4) | (show (Addr.add _ _).block ≠ _; rw [add_block]; exact hn230_4) | exact hn230_4) (.int .i64 ((rd_T34 l0 x17_1).f4))).trans hx230_0; replace hx230_1 := (cell_far (p := ⟨gb229, 4, none⟩) (by first | (rw [add_block]; exact hn230_4) | (show (Addr.add _ _).block ≠ _; rw [add_block]; exact hn230_4) | exact hn230_4) (.int .i64 ((rd_T34 l0 x17_1).f4))).trans hx230_1; replace hx230_2 := (cell_far (p := ⟨gb229, 4, none⟩) (by first | (rw [add_block]; exact hn230_4) | (show (Addr.add _ _).block ≠ _; rw [add_block]; exact hn230_4) | exact hn230_4) (.int .i64 ((rd_T34 l0 x17_1).f4))).trans hx230_2; replace hx230_3 := (cell_far (p := ⟨gb229, 4, none⟩) (by first | (rw [add_block]; exact hn230_4) | (show (Addr.add _ _).block ≠ _; rw [add_block]; exact hn230_4) | exact hn230_4) (.int .i64 ((rd_T34 l0 x17_1).f4))).trans hx230_3; replace hx230_4 := (cell_far (p := ⟨gb229, 4, none⟩) (by first | (rw [add_block]; exact hn230_4) | (show (Addr.add _ _).block ≠ _; rw [add_block]; exact hn230_4) | exact hn230_4) (.int .i64 ((rd_T34 l0 x17_1).f4))).trans hx230_4; clear hn230_0 hn230_1 hn230_2 hn230_3 hn230_4; replace p230 := eq_true p230; replace q230 := eq_true q230) | ((with_reducible refine gate_dst (N := 9) rfl ?_); refine box_event ?hg (N := 9) ?hd (cs := #[.int .i64 0, .int .i64 0, .int .i64 0, .string (⟨#[]⟩ : ByteArray), .int .i64 0]) (t := 34) ?hr ?_; (case hd => rfl); (case hg => rfl); (case hr => first | (go_simp; done) | (go_simp; rfl)); intro gb231 hg w19 hbox hb; have BK231 := Aside0.mk (hbox); have GW231 := Aside0.mk (gE (g := gb231) hg HB.out); have GE231 := Aside0.mk (gE (g := gb231) hg HB.out); replace HB := Aside0.mk (below_step (bAt HB.out) hb); have NB229_231 := Aside0.mk ((by rw [hg]; exact Nat.ne_of_lt (blk_lt (g := gb229) (o := .cells #[.int .i64 ((rd_T34 l0 x17_1).f0), .int .i64 ((rd_T34 l0 x17_1).f1), .int .i64 ((rd_T34 l0 x17_1).f2), .string ((rd_T34 l0 x17_1).f3), .int .i64 ((rd_T34 l0 x17_1).f4)] 34 (0, 0)) (by refine bP #[.int .i64 ((rd_T34 l0 x17_1).f0), .int .i64 ((rd_T34 l0 x17_1).f1), .int .i64 ((rd_T34 l0 x17_1).f2), .string ((rd_T34 l0 x17_1).f3), .int .i64 0] 4 ?_; refine bP #[.int .i64 ((rd_T34 l0 x17_1).f0), .int .i64 ((rd_T34 l0 x17_1).f1), .int .i64 ((rd_T34 l0 x17_1).f2), .string (⟨#[]⟩ : ByteArray), .int .i64 0] 3 ?_; refine bP #[.int .i64 ((rd_T34 l0 x17_1).f0), .int .i64 ((rd_T34 l0 x17_1).f1), .int .i64 0, .string (⟨#[]⟩ : ByteArray), .int .i64 0] 2 ?_; refine bP #[.int .i64 ((rd_T34 l0 x17_1).f0), .int .i64 0, .int .i64 0, .string (⟨#[]⟩ : ByteArray), .int .i64 0] 1 ?_; refine bP #[.int .i64 0, .int .i64 0, .int .i64 0, .string (⟨#[]⟩ : ByteArray), .int .i64 0] 0 ?_; (with_reducible repeat (first | refine blk_drewN ?_ _ | refine blk_drew ?_ | refine blk_alloc ?_ _)); exact BK229.out)) : gb229 ≠ gb231)); have NB231_229 := Aside0.mk ((by rw [hg]; exact Nat.ne_of_gt (blk_lt (g := gb229) (o := .cells #[.int .i64 ((rd_T34 l0 x17_1).f0), .int .i64 ((rd_T34 l0 x17_1).f1), .int .i64 ((rd_T34 l0 x17_1).f2), .string ((rd_T34 l0 x17_1).f3), .int .i64 ((rd_T34 l0 x17_1).f4)] 34 (0, 0)) (by refine bP #[.int .i64 ((rd_T34 l0 x17_1).f0), .int .i64 ((rd_T34 l0 x17_1).f1), .int .i64 ((rd_T34 l0 x17_1).f2), .string ((rd_T34 l0 x17_1).f3), .int .i64 0] 4 ?_; refine bP #[.int .i64 ((rd_T34 l0 x17_1).f0), .int .i64 ((rd_T34 l0 x17_1).f1), .int .i64 ((rd_T34 l0 x17_1).f2), .string (⟨#[]⟩ : ByteArray), .int .i64 0] 3 ?_; refine bP #[.int .i64 ((rd_T34 l0 x17_1).f0), .int .i64 ((rd_T34 l0 x17_1).f1), .int .i64 0, .string (⟨#[]⟩ : ByteArray), .int .i64 0] 2 ?_; refine bP #[.int .i64 ((rd_T34 l0 x17_1).f0), .int .i64 0, .int .i64 0, .string (⟨#[]⟩ : ByteArray), .int .i64 0] 1 ?_; refine bP #[.int .i64 0, .int .i64 0, .int .i64 0, .string (⟨#[]⟩ : ByteArray), .int .i64 0] 0 ?_; (with_reducible repeat (first | refine blk_drewN ?_ _ | refine blk_drew ?_ | refine blk_alloc ?_ _)); exact BK229.out)) : gb231 ≠ gb229)); replace BK229 := Aside0.mk (blk_below (g := gb229) (o := .cells #[.int .i64 ((rd_T34 l0 x17_1).f0), .int .i64 ((rd_T34 l0 x17_1).f1), .int .i64 ((rd_T34 l0 x17_1).f2), .string ((rd_T34 l0 x17_1).f3), .int .i64 ((rd_T34 l0 x17_1).f4)] 34 (0, 0)) (by refine bP #[.int .i64 ((rd_T34 l0 x17_1).f0), .int .i64 ((rd_T34 l0 x17_1).f1), .int .i64 ((rd_T34 l0 x17_1).f2), .string ((rd_T34 l0 x17_1).f3), .int .i64 0] 4 ?_; refine bP #[.int .i64 ((rd_T34 l0 x17_1).f0), .int .i64 ((rd_T34 l0 x17_1).f1), .int .i64 ((rd_T34 l0 x17_1).f2), .string (⟨#[]⟩ : ByteArray), .int .i64 0] 3 ?_; refine bP #[.int .i64 ((rd_T34 l0 x17_1).f0), .int .i64 ((rd_T34 l0 x17_1).f1), .int .i64 0, .string (⟨#[]⟩ : ByteArray), .int .i64 0] 2 ?_; refine bP #[.int .i64 ((rd_T34 l0 x17_1).f0), .int .i64 0, .int .i64 0, .string (⟨#[]⟩ : ByteArray), .int .i64 0] 1 ?_; refine bP #[.int .i64 0, .int .i64 0, .int .i64 0, .string (⟨#[]⟩ : ByteArray), .int .i64 0] 0 ?_; (with_reducible repeat (first | refine blk_drewN ?_ _ | refine blk_drew ?_ | refine blk_alloc ?_ _)); exact BK229.out) hb); clear hb hbox hg; have hnb20 := NB231_229.out; have hnc20 := NB229_231.out; obtain ⟨hcz21_0, hcz21_1, hcz21_2, hcz21_3, hcz21_4, hfz21_0, hfz21_1, hfz21_2, hfz21_3, hfz21_4⟩ := blk5 BK231.out; obtain ⟨hcz22_0, hcz22_1, hcz22_2, hcz22_3, hcz22_4, hfz22_0, hfz22_1, hfz22_2, hfz22_3, hfz22_4⟩ := blk5 BK229.out) | ((with_reducible refine gate_dst (N := 29) rfl ?_); refine goesF_ (some 29) rfl rfl 20 Tryd.func20 (by kernel_rfl) rfl #[.agg #[.int .i64 ((rd_T34 l0 x17_1).f0), .int .i64 ((rd_T34 l0 x17_1).f1), .int .i64 ((rd_T34 l0 x17_1).f2), .string ((rd_T34 l0 x17_1).f3), .int .i64 ((rd_T34 l0 x17_1).f4)], .agg #[.int .i64 ((rd_T34 l1 x17_1).f0), .int .i64 ((rd_T34 l1 x17_1).f1), .int .i64 ((rd_T34 l1 x17_1).f2), .string ((rd_T34 l1 x17_1).f3), .int .i64 ((rd_T34 l1 x17_1).f4)]] rfl gA ?_; (with_reducible refine (lex_Join_1.calls ((rd_T34 l0 x17_1).f0) ((rd_T34 l0 x17_1).f1) ((rd_T34 l0 x17_1).f2) ((rd_T34 l0 x17_1).f3) ((rd_T34 l0 x17_1).f4) ((rd_T34 l1 x17_1).f0) ((rd_T34 l1 x17_1).f1) ((rd_T34 l1 x17_1).f2) ((rd_T34 l1 x17_1).f3) ((rd_T34 l1 x17_1).f4) false _ A8.out).mono ?_); rintro e w23 ⟨rfl, hb⟩; refine ⟨_, rfl, ?_⟩; replace BK229 := Aside0.mk (blk_below (g := gb229) (o := .cells #[.int .i64 ((rd_T34 l0 x17_1).f0), .int .i64 ((rd_T34 l0 x17_1).f1), .int .i64 ((rd_T34 l0 x17_1).f2), .string ((rd_T34 l0 x17_1).f3), .int .i64 ((rd_T34 l0 x17_1).f4)] 34 (0, 0)) (by (with_reducible repeat (first | refine blk_drewN ?_ _ | refine blk_drew ?_ | refine blk_alloc ?_ _)); refine blk_far ?_ NB229_231.out _; (with_reducible repeat (first | refine blk_drewN ?_ _ | refine blk_drew ?_ | refine blk_alloc ?_ _)); refine blk_far ?_ NB229_231.out _; (with_reducible repeat (first | refine blk_drewN ?_ _ | refine blk_drew ?_ | refine blk_alloc ?_ _)); refine blk_far ?_ NB229_231.out _; (with_reducible repeat (first | refine blk_drewN ?_ _ | refine blk_drew ?_ | refine blk_alloc ?_ _)); refine blk_far ?_ NB229_231.out _; (with_reducible repeat (first | refine blk_drewN ?_ _ | refine blk_drew ?_ | refine blk_alloc ?_ _)); refine blk_far ?_ NB229_231.out _; (with_reducible repeat (first | refine blk_drewN ?_ _ | refine blk_drew ?_ | refine blk_alloc ?_ _)); exact BK229.out) hb); replace BK231 := Aside0.mk (blk_below (g := gb231) (o := .cells #[.int .i64 ((rd_T34 l1 x17_1).f0), .int .i64 ((rd_T34 l1 x17_1).f1), .int .i64 ((rd_T34 l1 x17_1).f2), .string ((rd_T34 l1 x17_1).f3), .int .i64 ((rd_T34 l1 x17_1).f4)] 34 (0, 0)) (by refine bP #[.int .i64 ((rd_T34 l1 x17_1).f0), .int .i64 ((rd_T34 l1 x17_1).f1), .int .i64 ((rd_T34 l1 x17_1).f2), .string ((rd_T34 l1 x17_1).f3), .int .i64 0] 4 ?_; refine bP #[.int .i64 ((rd_T34 l1 x17_1).f0), .int .i64 ((rd_T34 l1 x17_1).f1), .int .i64 ((rd_T34 l1 x17_1).f2), .string (⟨#[]⟩ : ByteArray), .int .i64 0] 3 ?_; refine bP #[.int .i64 ((rd_T34 l1 x17_1).f0), .int .i64 ((rd_T34 l1 x17_1).f1), .int .i64 0, .string (⟨#[]⟩ : ByteArray), .int .i64 0] 2 ?_; refine bP #[.int .i64 ((rd_T34 l1 x17_1).f0), .int .i64 0, .int .i64 0, .string (⟨#[]⟩ : ByteArray), .int .i64 0] 1 ?_; refine bP #[.int .i64 0, .int .i64 0, .int .i64 0, .string (⟨#[]⟩ : ByteArray), .int .i64 0] 0 ?_; (with_reducible repeat (first | refine blk_drewN ?_ _ | refine blk_drew ?_ | refine blk_alloc ?_ _)); exact BK231.out) hb); replace HB := Aside0.mk (below_step (bAt HB.out) hb); (try clear hb); (try clear hb2); (try clear hk); (try clear hi)))
         go_ret
         exact ⟨eR, bAt HB.out⟩
       ·exact nB H c7
      ·exact nB H c6
     ·exact nB H c5
    ·rw [if_neg c4] at H
     have c4b0 := decide_eq_false c4
     clear c4
     obtain rfl := Option.some.inj H
     go_wp2
     go_ret
     exact ⟨eR, bAt HB.out⟩
 ·rw [if_neg c3] at H
  obtain ⟨c3b0, c3b1⟩ := neB c3
  have c3b2 : (l0.length == l1.length) = false := by first | simpa using c3 | (simp at c3 ⊢; omega)
  obtain rfl := Option.some.inj H
  go_enter Tryd.func19, Tryd.ntmps19
  go_wp2
  go_ret
  exact ⟨eR, bAt HB.out⟩
def lex_Join.l0 : Nat → List (S34) → List Int → List (S34) → Int → Int → Option (List Int × Int)
 | 0, _, _, _, _, _ => none
 | k + 1, x0, x4, x10, x11, x12 => if x12 < x11 then (if 0 ≤ x12 then (if x12 < (x10.length : Int) then ((lex_bytes.f k ((rd_T34 x10 x12).f0) ((rd_T34 x10 x12).f1) ((rd_T34 x10 x12).f2) ((rd_T34 x10 x12).f3) ((rd_T34 x10 x12).f4)).bind fun bt235 => (if bt235.2 = 0 then (if x4.length + bt235.1.length < 140737488355328 then (lex_Join.l0 k x0 (x4 ++ bt235.1) x10 x11 (wrap64 (x12 + 1))) else (none)) else (some (([] : List Int), 1)))) else (none)) else (none)) else ((lex_All.f k x4).bind fun t242 => ((api_Token.f k t242 x0).bind fun t245 => (if t245 = true then (some (x4, 0)) else (some (([] : List Int), 1)))))
def lex_Join.f (k : Nat) (l0 : List (S34)) : Option (List Int × Int) := lex_Join.l0 k l0 ([] : List Int) l0 (l0.length : Int) 0
theorem lex_Join.mono_l : ∀ k, (∀ y0 y1 y2 y3 y4, LeO (lex_Join.l0 k y0 y1 y2 y3 y4) (lex_Join.l0 (k + 1) y0 y1 y2 y3 y4))
 | 0 => fun _ _ _ _ _ r h => by simp [lex_Join.l0] at h
 | k + 1 => by
  have ih0 := lex_Join.mono_l k
  ·intro y0 y1 y2 y3 y4
   unfold lex_Join.l0
   repeat' with_reducible first | exact ih0 _ _ _ _ _ | exact api_Token.mono _ _ _ | exact lex_All.mono _ _ | exact lex_bytes.mono _ _ _ _ _ _ | exact LeO.refl _ | exact LeO.none _ | refine LeO.ite ?_ ?_ | refine LeO.bind ?_ (fun _ => ?_)
theorem lex_Join.mono : ∀ a0 k, LeO (lex_Join.f k a0) (lex_Join.f (k + 1) a0) := by
 intro a0 k
 have ih0 := lex_Join.mono_l k
 unfold lex_Join.f
 repeat' with_reducible first | exact ih0 _ _ _ _ _ | exact api_Token.mono _ _ _ | exact lex_All.mono _ _ | exact lex_bytes.mono _ _ _ _ _ _ | exact LeO.refl _ | exact LeO.none _ | refine LeO.ite ?_ ?_ | refine LeO.bind ?_ (fun _ => ?_)
set_option maxHeartbeats 8000000 in
set_option maxRecDepth 100000 in
theorem lex_Join.calls (k : Nat) (A0 : Option Addr) (c0 : Nat) (l0 : List (S34)) (r1 : List Int) (r2 : Int) (w : World) (hG : Gl w) (hr0 : Kd.C k34 w A0 l0.length l0) (hc0 : l0.length ≤ c0) (h : lex_Join.f k l0 = some (r1, r2)) :
  Calls Tryd.prog 10 #[.slice A0 l0.length c0] w fun e w' => ∃ v0_ : Value, e = .returned (.tuple #[v0_, .int .i64 r2]) ∧ Kd.R (Kd.int .u8) 5 w' w.heap.size (fun _ => True) v0_ r1 ∧ Below w.heap.size w w' := by
 have hu34 := Tryd.underlying34
 have HR0 := Aside0.mk hr0
 have HC0 := Aside0.mk hc0
 clear hr0 hc0
 have HB := Aside0.mk (Below.refl w.heap.size w)
 have HG := Aside0.mk hG
 clear hG
 have H : (lex_Join.l0 k l0 ([] : List Int) l0 (l0.length : Int) 0) = some (r1, r2) := h
 clear h
 have H' := Aside0.mk H
 clear H
 go_enter Tryd.func10, Tryd.ntmps10
 go_wp2
 go_loopg [4, 12] k (fun kq v4 v12 w' => ∃ (x4_1 : List Int) (x12_1 : Int), v12 = .int .i64 x12_1 ∧ Aside0 (lex_Join.l0 kq l0 x4_1 l0 (l0.length : Int) x12_1 = some (r1, r2)) ∧ Aside0 (kq ≤ k) ∧ Aside0 (Kd.R (Kd.int .u8) 5 w' w.heap.size (fun _ => True) v4 x4_1) ∧ Aside0 (Below w.heap.size w w'))
 case atStart => exact ⟨(([] : List Int)), (0), sR, H', ⟨Nat.le_refl _⟩, ⟨by first | exact Kd.R_nil _ _ _ _ _ | exact Kd.N_nil _ _ _ _ _ | exact Kd.V_nil _ _ _ _ _ | exact Kd.Q_nil _ _ _ _ _ | exact Kd.S_nil _ _ _ _ _⟩, ⟨bAt HB.out⟩⟩
 case round =>
  clear H'
  try clear c1
  obtain ⟨x4_1, x12_1, rfl, HA, HK1, HO_4, HB⟩ := hrel
  cases gk with
  | zero => exact absurd HA.out (by simp [lex_Join.l0])
  | succ k1 =>
   have H := HA.out
   clear HA
   simp only [lex_Join.l0] at H
   by_cases c2 : x12_1 < (l0.length : Int)
   ·rw [if_pos c2] at H
    have c2b0 := decide_eq_true c2
    clear c2
    by_cases c3 : 0 ≤ x12_1
    ·rw [if_pos c3] at H
     have c3b0 := decide_eq_true c3
     clear c3
     by_cases c4 : x12_1 < (l0.length : Int)
     ·rw [if_pos c4] at H
      have c4b0 := decide_eq_true c4
      clear c4
      obtain ⟨⟨t235, t238⟩, A5, H⟩ := bE H
      replace H : (if t238 = 0 then (if x4_1.length + t235.length < 140737488355328 then (lex_Join.l0 k1 l0 (x4_1 ++ t235) l0 (l0.length : Int) (wrap64 (x12_1 + 1))) else (none)) else (some (([] : List Int), 1))) = some (r1, r2) := H
      by_cases c6 : t238 = 0
      ·rw [if_pos c6] at H
       obtain ⟨c6b0, c6b1⟩ := eqB c6
       clear c6
       by_cases c7 : x4_1.length + t235.length < 140737488355328
       ·rw [if_pos c7] at H
        have LMc7 := Aside0.mk c7
        clear c7
        obtain ⟨y239, hy239⟩ : ∃ y_ : List Int, y_ = (x4_1 ++ t235) := ⟨_, rfl⟩
        replace H : (lex_Join.l0 k1 l0 y239 l0 (l0.length : Int) (wrap64 (x12_1 + 1))) = some (r1, r2) := by first | (rw [hy239]; with_reducible exact H) | (have H2_ := (Option.bind_some _ _).symm.trans H; rw [hy239]; with_reducible exact H2_) | (have H2_ := (Option.bind_some _ _).symm.trans H; with_reducible exact H2_) | with_reducible exact H | (rw [hy239]; exact H) | exact H
        have Ny239 := Aside0.mk hy239
        clear hy239
        have H' := Aside0.mk H
        clear H
        have p233 : 0 ≤ (x12_1 : Int) := dt
        have q233 : x12_1 < (l0.length : Int) := dt
        obtain ⟨ad233, e233, hx233_0, hx233_1, hx233_2, hx233_3, hx233_4⟩ := at_T34 HR0.out x12_1 p233 q233
        cases e233
        replace hx233_0 := pw_cell_below HB.out hx233_0
        replace hx233_1 := pw_cell_below HB.out hx233_1
        replace hx233_2 := pw_cell_below HB.out hx233_2
        replace hx233_3 := pw_cell_below HB.out hx233_3
        replace hx233_4 := pw_cell_below HB.out hx233_4
        replace p233 := eq_true p233
        replace q233 := eq_true q233
        go_wp2_with (first | ((with_reducible refine gate_dst (N := 6) rfl ?_); refine box_event ?hg (N := 6) ?hd (cs := #[.int .i64 0, .int .i64 0, .int .i64 0, .string (⟨#[]⟩ : ByteArray), .int .i64 0]) (t := 34) ?hr ?_; (case hd => rfl); (case hg => rfl); (case hr => first | (go_simp; done) | (go_simp; rfl)); intro gb234 hg w8 hbox hb; replace HO_4 := Aside0.mk (Kd.R_below (RAt HO_4.out) hb); have BK234 := Aside0.mk (hbox); have GW234 := Aside0.mk (gE (g := gb234) hg HB.out); have GE234 := Aside0.mk (gE (g := gb234) hg HB.out); replace HB := Aside0.mk (below_step (bAt HB.out) hb); clear hb hbox hg; obtain ⟨hcz9_0, hcz9_1, hcz9_2, hcz9_3, hcz9_4, hfz9_0, hfz9_1, hfz9_2, hfz9_3, hfz9_4⟩ := blk5 BK234.out) | ((with_reducible refine gate_callee (f := 18) rfl ?_); refine gL (some 18) Tryd.func18 #[.agg #[.int .i64 ((rd_T34 l0 x12_1).f0), .int .i64 ((rd_T34 l0 x12_1).f1), .int .i64 ((rd_T34 l0 x12_1).f2), .string ((rd_T34 l0 x12_1).f3), .int .i64 ((rd_T34 l0 x12_1).f4)]] rfl gA ?_; (with_reducible refine (lex_bytes.calls k1 ((rd_T34 l0 x12_1).f0) ((rd_T34 l0 x12_1).f1) ((rd_T34 l0 x12_1).f2) ((rd_T34 l0 x12_1).f3) ((rd_T34 l0 x12_1).f4) t235 t238 _ ?side1 A5.out).mono ?_); (case side1 => exact Gl.below HG.out (bAt HB.out)); rintro e w10 ⟨v236, rfl, ho0, hb⟩; refine ⟨_, rfl, ?_⟩; have HO237 := Aside0.mk (Kd.V_lower (Kd.V_mono (ok' := fun k_ => some k_ ≠ (u4 : Value).ownBlock ∧ k_ ≠ gb234) ho0 (fun k_ hk_ => ⟨(Kd.fresh' (Kd.R_lt (RAt (Kd.R_mono (Kd.R_far (p := ⟨gb234, 4, none⟩) (Kd.R_far (p := ⟨gb234, 3, none⟩) (Kd.R_far (p := ⟨gb234, 2, none⟩) (Kd.R_far (p := ⟨gb234, 1, none⟩) (Kd.R_far (p := ⟨gb234, 0, none⟩) (Kd.R_types HO_4.out BK234.out (by decide)) (fun _ hk => hk.2) (.int .i64 ((rd_T34 l0 x12_1).f0))) (fun _ hk => hk.2) (.int .i64 ((rd_T34 l0 x12_1).f1))) (fun _ hk => hk.2) (.int .i64 ((rd_T34 l0 x12_1).f2))) (fun _ hk => hk.2) (.string ((rd_T34 l0 x12_1).f3))) (fun _ hk => hk.2) (.int .i64 ((rd_T34 l0 x12_1).f4))) (fun _ h_ => h_.1)))) k_ hk_), (Kd.freshB (g := gb234) (o := .cells #[.int .i64 ((rd_T34 l0 x12_1).f0), .int .i64 ((rd_T34 l0 x12_1).f1), .int .i64 ((rd_T34 l0 x12_1).f2), .string ((rd_T34 l0 x12_1).f3), .int .i64 ((rd_T34 l0 x12_1).f4)] 34 (0, 0)) (by refine bP #[.int .i64 ((rd_T34 l0 x12_1).f0), .int .i64 ((rd_T34 l0 x12_1).f1), .int .i64 ((rd_T34 l0 x12_1).f2), .string ((rd_T34 l0 x12_1).f3), .int .i64 0] 4 ?_; refine bP #[.int .i64 ((rd_T34 l0 x12_1).f0), .int .i64 ((rd_T34 l0 x12_1).f1), .int .i64 ((rd_T34 l0 x12_1).f2), .string (⟨#[]⟩ : ByteArray), .int .i64 0] 3 ?_; refine bP #[.int .i64 ((rd_T34 l0 x12_1).f0), .int .i64 ((rd_T34 l0 x12_1).f1), .int .i64 0, .string (⟨#[]⟩ : ByteArray), .int .i64 0] 2 ?_; refine bP #[.int .i64 ((rd_T34 l0 x12_1).f0), .int .i64 0, .int .i64 0, .string (⟨#[]⟩ : ByteArray), .int .i64 0] 1 ?_; refine bP #[.int .i64 0, .int .i64 0, .int .i64 0, .string (⟨#[]⟩ : ByteArray), .int .i64 0] 0 ?_; (with_reducible repeat (first | refine blk_drewN ?_ _ | refine blk_drew ?_ | refine blk_alloc ?_ _)); exact BK234.out) k_ hk_)⟩)) (below_size (bAt HB.out))); replace HO_4 := Aside0.mk (Kd.R_below (RAt (Kd.R_mono (Kd.R_far (p := ⟨gb234, 4, none⟩) (Kd.R_far (p := ⟨gb234, 3, none⟩) (Kd.R_far (p := ⟨gb234, 2, none⟩) (Kd.R_far (p := ⟨gb234, 1, none⟩) (Kd.R_far (p := ⟨gb234, 0, none⟩) (Kd.R_types HO_4.out BK234.out (by decide)) (fun _ hk => hk.2) (.int .i64 ((rd_T34 l0 x12_1).f0))) (fun _ hk => hk.2) (.int .i64 ((rd_T34 l0 x12_1).f1))) (fun _ hk => hk.2) (.int .i64 ((rd_T34 l0 x12_1).f2))) (fun _ hk => hk.2) (.string ((rd_T34 l0 x12_1).f3))) (fun _ hk => hk.2) (.int .i64 ((rd_T34 l0 x12_1).f4))) (fun _ h_ => h_.1))) hb); replace BK234 := Aside0.mk (blk_below (g := gb234) (o := .cells #[.int .i64 ((rd_T34 l0 x12_1).f0), .int .i64 ((rd_T34 l0 x12_1).f1), .int .i64 ((rd_T34 l0 x12_1).f2), .string ((rd_T34 l0 x12_1).f3), .int .i64 ((rd_T34 l0 x12_1).f4)] 34 (0, 0)) (by refine bP #[.int .i64 ((rd_T34 l0 x12_1).f0), .int .i64 ((rd_T34 l0 x12_1).f1), .int .i64 ((rd_T34 l0 x12_1).f2), .string ((rd_T34 l0 x12_1).f3), .int .i64 0] 4 ?_; refine bP #[.int .i64 ((rd_T34 l0 x12_1).f0), .int .i64 ((rd_T34 l0 x12_1).f1), .int .i64 ((rd_T34 l0 x12_1).f2), .string (⟨#[]⟩ : ByteArray), .int .i64 0] 3 ?_; refine bP #[.int .i64 ((rd_T34 l0 x12_1).f0), .int .i64 ((rd_T34 l0 x12_1).f1), .int .i64 0, .string (⟨#[]⟩ : ByteArray), .int .i64 0] 2 ?_; refine bP #[.int .i64 ((rd_T34 l0 x12_1).f0), .int .i64 0, .int .i64 0, .string (⟨#[]⟩ : ByteArray), .int .i64 0] 1 ?_; refine bP #[.int .i64 0, .int .i64 0, .int .i64 0, .string (⟨#[]⟩ : ByteArray), .int .i64 0] 0 ?_; (with_reducible repeat (first | refine blk_drewN ?_ _ | refine blk_drew ?_ | refine blk_alloc ?_ _)); exact BK234.out) hb); replace HB := Aside0.mk (below_step (bAt HB.out) hb); (try clear hb); (try clear hb2); (try clear hk); (try clear hi); (try clear ho0); obtain ⟨Ao12, co12, eo12⟩ := Kd.V_slice HO237.out; subst eo12) | ((with_reducible refine gate_builtin (b := .append) (xs := #[.tmp 23, .tmp 24]) rfl ?_); at_builtin; refine Kd.R_append_rows (Kd.int .u8) (w0 := w) w.heap.size rfl (.tmp 23) (.tmp 24) 22 5 (.int .u8 0) 1 rfl Tryd.underlying22 info5 rfl (by decide) (by omega) u4 x4_1 t235 _ _ _ (fun _ => True) (fun _ => False) rfl rfl ?aO ?aR (fun _ _ h => h) (fun _ h => h.elim) ?aF ?aB ?aS ?aL ?_; (case aR => repeat (first | exact (Kd.V_reads' HO237.out).2.2 | (with_reducible refine Kd.C_alloc ?_ _) | (with_reducible refine Kd.C_drewN ?_ _) | (with_reducible refine Kd.C_drew ?_))); (case aB => exact (bAt HB.out)); (case aF => exact (fun _ _ => trivial)); (case aO => exact (RAt HO_4.out)); (case aS => exact (below_size (bAt HB.out))); (case aL => have := LMc7.out; omega); intro v240 w11 ho hb hg hat; rw [← Ny239.out] at ho; replace BK234 := Aside0.mk (blk_grown (g := gb234) (o := .cells #[.int .i64 ((rd_T34 l0 x12_1).f0), .int .i64 ((rd_T34 l0 x12_1).f1), .int .i64 ((rd_T34 l0 x12_1).f2), .string ((rd_T34 l0 x12_1).f3), .int .i64 ((rd_T34 l0 x12_1).f4)] 34 (0, 0)) (kAt BK234.out) hg (Kd.R_ne HO_4.out BK234.out (by decide))); replace HO237 := Aside0.mk (Kd.V_afterv (ok := (fun k_ => k_ ≠ gb234)) (VAt (Kd.V_mono HO237.out (fun _ hk => ⟨hk.2, hk.1⟩))) hg hat); replace HB := Aside0.mk (hb); have HO241 := Aside0.mk (ho); clear HO_4; clear ho hb hg hat))
        go_roundg k1
        case measure => have := HK1.out; omega
        case rel => exact ⟨(y239), (wrap64 (x12_1 + 1)), sR, H', ⟨by have := HK1.out; omega⟩, ⟨RAt HO241.out⟩, ⟨bAt HB.out⟩⟩
       ·exact nB H c7
      ·rw [if_neg c6] at H
       obtain ⟨c6b0, c6b1⟩ := neB c6
       simp only [Option.some.injEq, Prod.mk.injEq] at H
       obtain ⟨rfl, rfl⟩ := H
       have p233 : 0 ≤ (x12_1 : Int) := dt
       have q233 : x12_1 < (l0.length : Int) := dt
       obtain ⟨ad233, e233, hx233_0, hx233_1, hx233_2, hx233_3, hx233_4⟩ := at_T34 HR0.out x12_1 p233 q233
       cases e233
       replace hx233_0 := pw_cell_below HB.out hx233_0
       replace hx233_1 := pw_cell_below HB.out hx233_1
       replace hx233_2 := pw_cell_below HB.out hx233_2
       replace hx233_3 := pw_cell_below HB.out hx233_3
       replace hx233_4 := pw_cell_below HB.out hx233_4
       replace p233 := eq_true p233
       replace q233 := eq_true q233
       go_wp2_with (first | ((with_reducible refine gate_dst (N := 6) rfl ?_); refine box_event ?hg (N := 6) ?hd (cs := #[.int .i64 0, .int .i64 0, .int .i64 0, .string (⟨#[]⟩ : ByteArray), .int .i64 0]) (t := 34) ?hr ?_; (case hd => rfl); (case hg => rfl); (case hr => first | (go_simp; done) | (go_simp; rfl)); intro gb234 hg w13 hbox hb; replace HO_4 := Aside0.mk (Kd.R_below (RAt HO_4.out) hb); have BK234 := Aside0.mk (hbox); have GW234 := Aside0.mk (gE (g := gb234) hg HB.out); have GE234 := Aside0.mk (gE (g := gb234) hg HB.out); replace HB := Aside0.mk (below_step (bAt HB.out) hb); clear hb hbox hg; obtain ⟨hcz14_0, hcz14_1, hcz14_2, hcz14_3, hcz14_4, hfz14_0, hfz14_1, hfz14_2, hfz14_3, hfz14_4⟩ := blk5 BK234.out) | ((with_reducible refine gate_callee (f := 18) rfl ?_); refine gL (some 18) Tryd.func18 #[.agg #[.int .i64 ((rd_T34 l0 x12_1).f0), .int .i64 ((rd_T34 l0 x12_1).f1), .int .i64 ((rd_T34 l0 x12_1).f2), .string ((rd_T34 l0 x12_1).f3), .int .i64 ((rd_T34 l0 x12_1).f4)]] rfl gA ?_; (with_reducible refine (lex_bytes.calls k1 ((rd_T34 l0 x12_1).f0) ((rd_T34 l0 x12_1).f1) ((rd_T34 l0 x12_1).f2) ((rd_T34 l0 x12_1).f3) ((rd_T34 l0 x12_1).f4) t235 t238 _ ?side1 A5.out).mono ?_); (case side1 => exact Gl.below HG.out (bAt HB.out)); rintro e w15 ⟨v236, rfl, ho0, hb⟩; refine ⟨_, rfl, ?_⟩; have HO237 := Aside0.mk (Kd.V_lower (Kd.V_mono (ok' := fun k_ => some k_ ≠ (u4 : Value).ownBlock ∧ k_ ≠ gb234) ho0 (fun k_ hk_ => ⟨(Kd.fresh' (Kd.R_lt (RAt (Kd.R_mono (Kd.R_far (p := ⟨gb234, 4, none⟩) (Kd.R_far (p := ⟨gb234, 3, none⟩) (Kd.R_far (p := ⟨gb234, 2, none⟩) (Kd.R_far (p := ⟨gb234, 1, none⟩) (Kd.R_far (p := ⟨gb234, 0, none⟩) (Kd.R_types HO_4.out BK234.out (by decide)) (fun _ hk => hk.2) (.int .i64 ((rd_T34 l0 x12_1).f0))) (fun _ hk => hk.2) (.int .i64 ((rd_T34 l0 x12_1).f1))) (fun _ hk => hk.2) (.int .i64 ((rd_T34 l0 x12_1).f2))) (fun _ hk => hk.2) (.string ((rd_T34 l0 x12_1).f3))) (fun _ hk => hk.2) (.int .i64 ((rd_T34 l0 x12_1).f4))) (fun _ h_ => h_.1)))) k_ hk_), (Kd.freshB (g := gb234) (o := .cells #[.int .i64 ((rd_T34 l0 x12_1).f0), .int .i64 ((rd_T34 l0 x12_1).f1), .int .i64 ((rd_T34 l0 x12_1).f2), .string ((rd_T34 l0 x12_1).f3), .int .i64 ((rd_T34 l0 x12_1).f4)] 34 (0, 0)) (by refine bP #[.int .i64 ((rd_T34 l0 x12_1).f0), .int .i64 ((rd_T34 l0 x12_1).f1), .int .i64 ((rd_T34 l0 x12_1).f2), .string ((rd_T34 l0 x12_1).f3), .int .i64 0] 4 ?_; refine bP #[.int .i64 ((rd_T34 l0 x12_1).f0), .int .i64 ((rd_T34 l0 x12_1).f1), .int .i64 ((rd_T34 l0 x12_1).f2), .string (⟨#[]⟩ : ByteArray), .int .i64 0] 3 ?_; refine bP #[.int .i64 ((rd_T34 l0 x12_1).f0), .int .i64 ((rd_T34 l0 x12_1).f1), .int .i64 0, .string (⟨#[]⟩ : ByteArray), .int .i64 0] 2 ?_; refine bP #[.int .i64 ((rd_T34 l0 x12_1).f0), .int .i64 0, .int .i64 0, .string (⟨#[]⟩ : ByteArray), .int .i64 0] 1 ?_; refine bP #[.int .i64 0, .int .i64 0, .int .i64 0, .string (⟨#[]⟩ : ByteArray), .int .i64 0] 0 ?_; (with_reducible repeat (first | refine blk_drewN ?_ _ | refine blk_drew ?_ | refine blk_alloc ?_ _)); exact BK234.out) k_ hk_)⟩)) (below_size (bAt HB.out))); replace HO_4 := Aside0.mk (Kd.R_below (RAt (Kd.R_mono (Kd.R_far (p := ⟨gb234, 4, none⟩) (Kd.R_far (p := ⟨gb234, 3, none⟩) (Kd.R_far (p := ⟨gb234, 2, none⟩) (Kd.R_far (p := ⟨gb234, 1, none⟩) (Kd.R_far (p := ⟨gb234, 0, none⟩) (Kd.R_types HO_4.out BK234.out (by decide)) (fun _ hk => hk.2) (.int .i64 ((rd_T34 l0 x12_1).f0))) (fun _ hk => hk.2) (.int .i64 ((rd_T34 l0 x12_1).f1))) (fun _ hk => hk.2) (.int .i64 ((rd_T34 l0 x12_1).f2))) (fun _ hk => hk.2) (.string ((rd_T34 l0 x12_1).f3))) (fun _ hk => hk.2) (.int .i64 ((rd_T34 l0 x12_1).f4))) (fun _ h_ => h_.1))) hb); replace BK234 := Aside0.mk (blk_below (g := gb234) (o := .cells #[.int .i64 ((rd_T34 l0 x12_1).f0), .int .i64 ((rd_T34 l0 x12_1).f1), .int .i64 ((rd_T34 l0 x12_1).f2), .string ((rd_T34 l0 x12_1).f3), .int .i64 ((rd_T34 l0 x12_1).f4)] 34 (0, 0)) (by refine bP #[.int .i64 ((rd_T34 l0 x12_1).f0), .int .i64 ((rd_T34 l0 x12_1).f1), .int .i64 ((rd_T34 l0 x12_1).f2), .string ((rd_T34 l0 x12_1).f3), .int .i64 0] 4 ?_; refine bP #[.int .i64 ((rd_T34 l0 x12_1).f0), .int .i64 ((rd_T34 l0 x12_1).f1), .int .i64 ((rd_T34 l0 x12_1).f2), .string (⟨#[]⟩ : ByteArray), .int .i64 0] 3 ?_; refine bP #[.int .i64 ((rd_T34 l0 x12_1).f0), .int .i64 ((rd_T34 l0 x12_1).f1), .int .i64 0, .string (⟨#[]⟩ : ByteArray), .int .i64 0] 2 ?_; refine bP #[.int .i64 ((rd_T34 l0 x12_1).f0), .int .i64 0, .int .i64 0, .string (⟨#[]⟩ : ByteArray), .int .i64 0] 1 ?_; refine bP #[.int .i64 0, .int .i64 0, .int .i64 0, .string (⟨#[]⟩ : ByteArray), .int .i64 0] 0 ?_; (with_reducible repeat (first | refine blk_drewN ?_ _ | refine blk_drew ?_ | refine blk_alloc ?_ _)); exact BK234.out) hb); replace HB := Aside0.mk (below_step (bAt HB.out) hb); (try clear hb); (try clear hb2); (try clear hk); (try clear hi); (try clear ho0)))
       go_ret2
       exact ⟨_, eR, by first | exact Kd.R_nil _ _ _ _ _ | exact Kd.N_nil _ _ _ _ _ | exact Kd.V_nil _ _ _ _ _ | exact Kd.Q_nil _ _ _ _ _ | exact Kd.S_nil _ _ _ _ _, bAt HB.out⟩
     ·exact nB H c4
    ·exact nB H c3
   ·rw [if_neg c2] at H
    have c2b0 := decide_eq_false c2
    clear c2
    obtain ⟨t242, A16, H⟩ := bE H
    obtain ⟨t245, A17, H⟩ := bE H
    by_cases c18 : t245 = true
    ·subst c18
     replace H := tP H
     simp only [Option.some.injEq, Prod.mk.injEq] at H
     obtain ⟨rfl, rfl⟩ := H
     obtain ⟨Ao19, co19, eo19⟩ := Kd.R_slice HO_4.out
     subst eo19
     go_wp2_with (first | ((with_reducible refine gate_callee (f := 14) rfl ?_); refine gL (some 28) Tryd.func14 #[.slice Ao19 x4_1.length co19] rfl gA ?_; (with_reducible refine (lex_All.calls k1 _ _ x4_1 t242 _ ?side1 ?side2 ?side3 A16.out).mono ?_); (case side1 => exact Gl.below HG.out (bAt HB.out)); (case side2 => exact CAt ((Kd.R_reads' HO_4.out).2.2)); (case side3 => exact (Kd.R_reads' HO_4.out).2.1); rintro e w20 ⟨v243, rfl, ho0, hb⟩; refine ⟨_, rfl, ?_⟩; replace HO_4 := Aside0.mk (Kd.R_below (RAt HO_4.out) hb); have HO244 := Aside0.mk (Kd.Q_lower ho0 (below_size (bAt HB.out))); replace HB := Aside0.mk (below_step (bAt HB.out) hb); (try clear hb); (try clear hb2); (try clear hk); (try clear hi); (try clear ho0); obtain ⟨Ao21, co21, eo21, _⟩ := Kd.Q_slice HO244.out; subst eo21) | ((with_reducible refine gate_callee (f := 19) rfl ?_); refine gL (some 30) Tryd.func19 #[.slice Ao21 t242.length co21, .slice A0 l0.length c0, .func (.func 20) #[] #[]] rfl gA ?_; (with_reducible refine (api_Token.calls k1 _ _ t242 _ _ l0 true _ ?side1 ?side2 ?side3 ?side4 A17.out).mono ?_); (case side1 => exact CAt ((Kd.Q_reads' HO244.out).2.2)); (case side2 => exact (Kd.Q_reads' HO244.out).2.1); (case side3 => exact CAt (Kd.C_below HR0.out HB.out)); (case side4 => exact HC0.out); rintro e w22 ⟨rfl, hb⟩; refine ⟨_, rfl, ?_⟩; replace HO_4 := Aside0.mk (Kd.R_below (RAt HO_4.out) hb); replace HO244 := Aside0.mk (Kd.Q_below (QAt HO244.out) hb); replace HB := Aside0.mk (below_step (bAt HB.out) hb); (try clear hb); (try clear hb2); (try clear hk); (try clear hi)))
     go_ret2
     exact ⟨_, eR, RAt HO_4.out, bAt HB.out⟩
    ·replace c18 := Bool.eq_false_iff.mpr c18
     subst c18
     replace H := fP H
     simp only [Option.some.injEq, Prod.mk.injEq] at H
     obtain ⟨rfl, rfl⟩ := H
     obtain ⟨Ao23, co23, eo23⟩ := Kd.R_slice HO_4.out
     subst eo23
     go_wp2_with (first | ((with_reducible refine gate_callee (f := 14) rfl ?_); refine gL (some 28) Tryd.func14 #[.slice Ao23 x4_1.length co23] rfl gA ?_; (with_reducible refine (lex_All.calls k1 _ _ x4_1 t242 _ ?side1 ?side2 ?side3 A16.out).mono ?_); (case side1 => exact Gl.below HG.out (bAt HB.out)); (case side2 => exact CAt ((Kd.R_reads' HO_4.out).2.2)); (case side3 => exact (Kd.R_reads' HO_4.out).2.1); rintro e w24 ⟨v243, rfl, ho0, hb⟩; refine ⟨_, rfl, ?_⟩; replace HO_4 := Aside0.mk (Kd.R_below (RAt HO_4.out) hb); have HO244 := Aside0.mk (Kd.Q_lower ho0 (below_size (bAt HB.out))); replace HB := Aside0.mk (below_step (bAt HB.out) hb); (try clear hb); (try clear hb2); (try clear hk); (try clear hi); (try clear ho0); obtain ⟨Ao25, co25, eo25, _⟩ := Kd.Q_slice HO244.out; subst eo25) | ((with_reducible refine gate_callee (f := 19) rfl ?_); refine gL (some 30) Tryd.func19 #[.slice Ao25 t242.length co25, .slice A0 l0.length c0, .func (.func 20) #[] #[]] rfl gA ?_; (with_reducible refine (api_Token.calls k1 _ _ t242 _ _ l0 false _ ?side1 ?side2 ?side3 ?side4 A17.out).mono ?_); (case side1 => exact CAt ((Kd.Q_reads' HO244.out).2.2)); (case side2 => exact (Kd.Q_reads' HO244.out).2.1); (case side3 => exact CAt (Kd.C_below HR0.out HB.out)); (case side4 => exact HC0.out); rintro e w26 ⟨rfl, hb⟩; refine ⟨_, rfl, ?_⟩; replace HO_4 := Aside0.mk (Kd.R_below (RAt HO_4.out) hb); replace HO244 := Aside0.mk (Kd.Q_below (QAt HO244.out) hb); replace HB := Aside0.mk (below_step (bAt HB.out) hb); (try clear hb); (try clear hb2); (try clear hk); (try clear hi)))
     go_ret2
     exact ⟨_, eR, by first | exact Kd.R_nil _ _ _ _ _ | exact Kd.N_nil _ _ _ _ _ | exact Kd.V_nil _ _ _ _ _ | exact Kd.Q_nil _ _ _ _ _ | exact Kd.S_nil _ _ _ _ _, bAt HB.out⟩
def tmesislaw07_shown.f (k : Nat)  : Option (Bool) := (lex_All.f k (([88, 61, 49, 46] : List Int))).bind fun t249 => ((lex_Join.f k t249).bind fun bt252 => (if (t249.length : Int) = 4 then (if (strOfNums bt252.1).toList = ([88, 32, 61, 32, 49, 32, 46, 10] : List UInt8) then (some (bt252.2 == 0)) else (some false)) else (some false)))
theorem tmesislaw07_shown.mono : ∀ k, LeO (tmesislaw07_shown.f k ) (tmesislaw07_shown.f (k + 1) ) := by
 intro  k
 unfold tmesislaw07_shown.f
 repeat' with_reducible first | exact lex_All.mono _ _ | exact lex_Join.mono _ _ | exact LeO.refl _ | exact LeO.none _ | refine LeO.ite ?_ ?_ | refine LeO.bind ?_ (fun _ => ?_)
set_option maxHeartbeats 8000000 in
set_option maxRecDepth 100000 in
theorem tmesislaw07_shown.calls (k : Nat)  (r : Bool) (w : World) (hG : Gl w) (h : tmesislaw07_shown.f k  = some r) :
  Calls Tryd.prog 9 #[] w fun e w' => e = .returned (.bool r) ∧ Below w.heap.size w w' := by
 have HB := Aside0.mk (Below.refl w.heap.size w)
 have HG := Aside0.mk hG
 clear hG
 have H : ((lex_All.f k (([88, 61, 49, 46] : List Int))).bind fun t249 => ((lex_Join.f k t249).bind fun bt252 => (if (t249.length : Int) = 4 then (if (strOfNums bt252.1).toList = ([88, 32, 61, 32, 49, 32, 46, 10] : List UInt8) then (some (bt252.2 == 0)) else (some false)) else (some false)))) = some r := h
 clear h
 obtain ⟨y246, hy246⟩ : ∃ y_ : List Int, y_ = (([88, 61, 49, 46] : List Int)) := ⟨_, rfl⟩
 replace H : ((lex_All.f k y246).bind fun t249 => ((lex_Join.f k t249).bind fun bt252 => (if (t249.length : Int) = 4 then (if (strOfNums bt252.1).toList = ([88, 32, 61, 32, 49, 32, 46, 10] : List UInt8) then (some (bt252.2 == 0)) else (some false)) else (some false)))) = some r := by first | (rw [hy246]; with_reducible exact H) | (have H2_ := (Option.bind_some _ _).symm.trans H; rw [hy246]; with_reducible exact H2_) | (have H2_ := (Option.bind_some _ _).symm.trans H; with_reducible exact H2_) | with_reducible exact H | (rw [hy246]; exact H) | exact H
 have Ny246 := Aside0.mk hy246
 clear hy246
 obtain ⟨t249, A1, H⟩ := bE H
 obtain ⟨⟨t252, t253⟩, A2, H⟩ := bE H
 replace H : (if (t249.length : Int) = 4 then (if (strOfNums t252).toList = ([88, 32, 61, 32, 49, 32, 46, 10] : List UInt8) then (some (t253 == 0)) else (some false)) else (some false)) = some r := H
 by_cases c3 : (t249.length : Int) = 4
 ·rw [if_pos c3] at H
  obtain ⟨c3b0, c3b1⟩ := eqB c3
  clear c3
  by_cases c4 : (strOfNums t252).toList = ([88, 32, 61, 32, 49, 32, 46, 10] : List UInt8)
  ·rw [if_pos c4] at H
   obtain ⟨c4b0, c4b1⟩ := eqB c4
   clear c4
   obtain rfl := Option.some.inj H
   go_enter Tryd.func9, Tryd.ntmps9
   go_wp2_with (first | ((with_reducible refine gate_dst (N := 4) rfl ?_); refine V_litsG _ 5 ?hg (N := 4) ?hd (xs := ([88, 61, 49, 46] : List Int)) ?hr ?hw2 ?hr2 (Below.refl _ _) (Nat.le_refl _) (by simp) ?_; (case hd => rfl); (case hg => rfl); (case hr => intro W_; first | (go_simp; done) | (go_simp; rfl)); (case hw2 => rfl); (case hr2 => intro W_; go_simp; rw [run_convert_lit _ 22 5 _ _ _ Tryd.underlying22 Tryd.underlying5]; rfl); intro v247 w5 ho6 hb hg_ hnew_; clear hg_ hnew_; (first | rw [← Ny246.out] at ho6 | (simp only [Int.reduceToNat] at ho6; rw [← Ny246.out] at ho6)); have HO248 := Aside0.mk (Kd.V_lower (Kd.V_mono (ok' := fun k_ => True) ho6 (fun k_ hk_ => trivial)) (below_size (bAt HB.out))); replace HB := Aside0.mk (below_step (bAt HB.out) hb); clear hb ho6; obtain ⟨Ao7, co7, eo7⟩ := Kd.V_slice HO248.out; subst eo7) | ((with_reducible refine gate_callee (f := 14) rfl ?_); refine gL (some 6) Tryd.func14 #[.slice Ao7 y246.length co7] rfl gA ?_; (with_reducible refine (lex_All.calls k _ _ y246 t249 _ ?side1 ?side2 ?side3 A1.out).mono ?_); (case side1 => exact Gl.below HG.out (bAt HB.out)); (case side2 => exact CAt ((Kd.V_reads' HO248.out).2.2)); (case side3 => exact (Kd.V_reads' HO248.out).2.1); rintro e w8 ⟨v250, rfl, ho0, hb⟩; refine ⟨_, rfl, ?_⟩; replace HO248 := Aside0.mk (Kd.V_elder' (VAt HO248.out) (Kd.Q_base ho0) hb); have HO251 := Aside0.mk (Kd.Q_lower ho0 (below_size (bAt HB.out))); replace HB := Aside0.mk (below_step (bAt HB.out) hb); (try clear hb); (try clear hb2); (try clear hk); (try clear hi); (try clear ho0); obtain ⟨Ao9, co9, eo9, _⟩ := Kd.Q_slice HO251.out; subst eo9) | ((with_reducible refine gate_callee (f := 10) rfl ?_); refine gL (some 9) Tryd.func10 #[.slice Ao9 t249.length co9] rfl gA ?_; (with_reducible refine (lex_Join.calls k _ _ t249 t252 t253 _ ?side1 ?side2 ?side3 A2.out).mono ?_); (case side1 => exact Gl.below HG.out (bAt HB.out)); (case side2 => exact CAt ((Kd.Q_reads' HO251.out).2.2)); (case side3 => exact (Kd.Q_reads' HO251.out).2.1); rintro e w10 ⟨v254, rfl, ho0, hb⟩; refine ⟨_, rfl, ?_⟩; replace HO248 := Aside0.mk (Kd.V_elder' (VAt HO248.out) (Kd.R_base ho0) hb); replace HO251 := Aside0.mk (Kd.Q_below (QAt HO251.out) hb); have HO255 := Aside0.mk (Kd.R_lower ho0 (below_size (bAt HB.out))); replace HB := Aside0.mk (below_step (bAt HB.out) hb); (try clear hb); (try clear hb2); (try clear hk); (try clear hi); (try clear ho0); (first | (have hcv11 := own_string (P := Tryd.prog) Tryd.underlying22 Tryd.underlying5 Tryd.underlying9 (Kd.own_of_R HO255.out); have hcv11q := fun (q_ : Nat) => own_string (P := Tryd.prog) Tryd.underlying22 Tryd.underlying5 Tryd.underlying9 (pw_own_drewN (Kd.own_of_R HO255.out) q_)) | (have hcv11 := V_string (P := Tryd.prog) Tryd.underlying22 Tryd.underlying5 Tryd.underlying9 HO255.out; have hcv11q := fun (q_ : Nat) => V_string (P := Tryd.prog) Tryd.underlying22 Tryd.underlying5 Tryd.underlying9 (Kd.V_drewN HO255.out q_)))))
   go_ret
   exact ⟨eR, bAt HB.out⟩
  ·rw [if_neg c4] at H
   obtain ⟨c4b0, c4b1⟩ := neB c4
   obtain rfl := Option.some.inj H
   go_enter Tryd.func9, Tryd.ntmps9
   go_wp2_with (first | ((with_reducible refine gate_dst (N := 4) rfl ?_); refine V_litsG _ 5 ?hg (N := 4) ?hd (xs := ([88, 61, 49, 46] : List Int)) ?hr ?hw2 ?hr2 (Below.refl _ _) (Nat.le_refl _) (by simp) ?_; (case hd => rfl); (case hg => rfl); (case hr => intro W_; first | (go_simp; done) | (go_simp; rfl)); (case hw2 => rfl); (case hr2 => intro W_; go_simp; rw [run_convert_lit _ 22 5 _ _ _ Tryd.underlying22 Tryd.underlying5]; rfl); intro v247 w12 ho13 hb hg_ hnew_; clear hg_ hnew_; (first | rw [← Ny246.out] at ho13 | (simp only [Int.reduceToNat] at ho13; rw [← Ny246.out] at ho13)); have HO248 := Aside0.mk (Kd.V_lower (Kd.V_mono (ok' := fun k_ => True) ho13 (fun k_ hk_ => trivial)) (below_size (bAt HB.out))); replace HB := Aside0.mk (below_step (bAt HB.out) hb); clear hb ho13; obtain ⟨Ao14, co14, eo14⟩ := Kd.V_slice HO248.out; subst eo14) | ((with_reducible refine gate_callee (f := 14) rfl ?_); refine gL (some 6) Tryd.func14 #[.slice Ao14 y246.length co14] rfl gA ?_; (with_reducible refine (lex_All.calls k _ _ y246 t249 _ ?side1 ?side2 ?side3 A1.out).mono ?_); (case side1 => exact Gl.below HG.out (bAt HB.out)); (case side2 => exact CAt ((Kd.V_reads' HO248.out).2.2)); (case side3 => exact (Kd.V_reads' HO248.out).2.1); rintro e w15 ⟨v250, rfl, ho0, hb⟩; refine ⟨_, rfl, ?_⟩; replace HO248 := Aside0.mk (Kd.V_elder' (VAt HO248.out) (Kd.Q_base ho0) hb); have HO251 := Aside0.mk (Kd.Q_lower ho0 (below_size (bAt HB.out))); replace HB := Aside0.mk (below_step (bAt HB.out) hb); (try clear hb); (try clear hb2); (try clear hk); (try clear hi); (try clear ho0); obtain ⟨Ao16, co16, eo16, _⟩ := Kd.Q_slice HO251.out; subst eo16) | ((with_reducible refine gate_callee (f := 10) rfl ?_); refine gL (some 9) Tryd.func10 #[.slice Ao16 t249.length co16] rfl gA ?_; (with_reducible refine (lex_Join.calls k _ _ t249 t252 t253 _ ?side1 ?side2 ?side3 A2.out).mono ?_); (case side1 => exact Gl.below HG.out (bAt HB.out)); (case side2 => exact CAt ((Kd.Q_reads' HO251.out).2.2)); (case side3 => exact (Kd.Q_reads' HO251.out).2.1); rintro e w17 ⟨v254, rfl, ho0, hb⟩; refine ⟨_, rfl, ?_⟩; replace HO248 := Aside0.mk (Kd.V_elder' (VAt HO248.out) (Kd.R_base ho0) hb); replace HO251 := Aside0.mk (Kd.Q_below (QAt HO251.out) hb); have HO255 := Aside0.mk (Kd.R_lower ho0 (below_size (bAt HB.out))); replace HB := Aside0.mk (below_step (bAt HB.out) hb); (try clear hb); (try clear hb2); (try clear hk); (try clear hi); (try clear ho0); (first | (have hcv18 := own_string (P := Tryd.prog) Tryd.underlying22 Tryd.underlying5 Tryd.underlying9 (Kd.own_of_R HO255.out); have hcv18q := fun (q_ : Nat) => own_string (P := Tryd.prog) Tryd.underlying22 Tryd.underlying5 Tryd.underlying9 (pw_own_drewN (Kd.own_of_R HO255.out) q_)) | (have hcv18 := V_string (P := Tryd.prog) Tryd.underlying22 Tryd.underlying5 Tryd.underlying9 HO255.out; have hcv18q := fun (q_ : Nat) => V_string (P := Tryd.prog) Tryd.underlying22 Tryd.underlying5 Tryd.underlying9 (Kd.V_drewN HO255.out q_)))))
   go_ret
   exact ⟨eR, bAt HB.out⟩
 ·rw [if_neg c3] at H
  obtain ⟨c3b0, c3b1⟩ := neB c3
  obtain rfl := Option.some.inj H
  go_enter Tryd.func9, Tryd.ntmps9
  go_wp2_with (first | ((with_reducible refine gate_dst (N := 4) rfl ?_); refine V_litsG _ 5 ?hg (N := 4) ?hd (xs := ([88, 61, 49, 46] : List Int)) ?hr ?hw2 ?hr2 (Below.refl _ _) (Nat.le_refl _) (by simp) ?_; (case hd => rfl); (case hg => rfl); (case hr => intro W_; first | (go_simp; done) | (go_simp; rfl)); (case hw2 => rfl); (case hr2 => intro W_; go_simp; rw [run_convert_lit _ 22 5 _ _ _ Tryd.underlying22 Tryd.underlying5]; rfl); intro v247 w19 ho20 hb hg_ hnew_; clear hg_ hnew_; (first | rw [← Ny246.out] at ho20 | (simp only [Int.reduceToNat] at ho20; rw [← Ny246.out] at ho20)); have HO248 := Aside0.mk (Kd.V_lower (Kd.V_mono (ok' := fun k_ => True) ho20 (fun k_ hk_ => trivial)) (below_size (bAt HB.out))); replace HB := Aside0.mk (below_step (bAt HB.out) hb); clear hb ho20; obtain ⟨Ao21, co21, eo21⟩ := Kd.V_slice HO248.out; subst eo21) | ((with_reducible refine gate_callee (f := 14) rfl ?_); refine gL (some 6) Tryd.func14 #[.slice Ao21 y246.length co21] rfl gA ?_; (with_reducible refine (lex_All.calls k _ _ y246 t249 _ ?side1 ?side2 ?side3 A1.out).mono ?_); (case side1 => exact Gl.below HG.out (bAt HB.out)); (case side2 => exact CAt ((Kd.V_reads' HO248.out).2.2)); (case side3 => exact (Kd.V_reads' HO248.out).2.1); rintro e w22 ⟨v250, rfl, ho0, hb⟩; refine ⟨_, rfl, ?_⟩; replace HO248 := Aside0.mk (Kd.V_elder' (VAt HO248.out) (Kd.Q_base ho0) hb); have HO251 := Aside0.mk (Kd.Q_lower ho0 (below_size (bAt HB.out))); replace HB := Aside0.mk (below_step (bAt HB.out) hb); (try clear hb); (try clear hb2); (try clear hk); (try clear hi); (try clear ho0); obtain ⟨Ao23, co23, eo23, _⟩ := Kd.Q_slice HO251.out; subst eo23) | ((with_reducible refine gate_callee (f := 10) rfl ?_); refine gL (some 9) Tryd.func10 #[.slice Ao23 t249.length co23] rfl gA ?_; (with_reducible refine (lex_Join.calls k _ _ t249 t252 t253 _ ?side1 ?side2 ?side3 A2.out).mono ?_); (case side1 => exact Gl.below HG.out (bAt HB.out)); (case side2 => exact CAt ((Kd.Q_reads' HO251.out).2.2)); (case side3 => exact (Kd.Q_reads' HO251.out).2.1); rintro e w24 ⟨v254, rfl, ho0, hb⟩; refine ⟨_, rfl, ?_⟩; replace HO248 := Aside0.mk (Kd.V_elder' (VAt HO248.out) (Kd.R_base ho0) hb); replace HO251 := Aside0.mk (Kd.Q_below (QAt HO251.out) hb); have HO255 := Aside0.mk (Kd.R_lower ho0 (below_size (bAt HB.out))); replace HB := Aside0.mk (below_step (bAt HB.out) hb); (try clear hb); (try clear hb2); (try clear hk); (try clear hi); (try clear ho0)))
  go_ret
  exact ⟨eR, bAt HB.out⟩
def tmesislaw07_short.l0 : Nat → List (S34) → List (S34) → Int → Option ((List (S34)))
 | 0, _, _, _ => none
 | k + 1, x0, x3, x4 => if x4 < (x0.length : Int) then (if x4 < 40 then (if 0 ≤ x4 then (if 0 ≤ (mn (((rd_T34 x0 x4).f3).size : Int) 30) then (if (mn (((rd_T34 x0 x4).f3).size : Int) 30) ≤ (((rd_T34 x0 x4).f3).size : Int) then (if x3.length < 2932031007402 then (tmesislaw07_short.l0 k x0 (x3 ++ [(⟨(rd_T34 x0 x4).f0, (rd_T34 x0 x4).f1, (rd_T34 x0 x4).f2, ((rd_T34 x0 x4).f3).extract 0 ((mn (((rd_T34 x0 x4).f3).size : Int) 30) : Int).toNat, (rd_T34 x0 x4).f4⟩ : S34)]) (wrap64 (x4 + 1))) else (none)) else (none)) else (none)) else (none)) else (some x3)) else (some x3)
def tmesislaw07_short.f (k : Nat) (l0 : List (S34)) : Option ((List (S34))) := tmesislaw07_short.l0 k l0 (([] : List (S34))) 0
theorem tmesislaw07_short.mono_l : ∀ k, (∀ y0 y1 y2, LeO (tmesislaw07_short.l0 k y0 y1 y2) (tmesislaw07_short.l0 (k + 1) y0 y1 y2))
 | 0 => fun _ _ _ r h => by simp [tmesislaw07_short.l0] at h
 | k + 1 => by
  have ih0 := tmesislaw07_short.mono_l k
  ·intro y0 y1 y2
   unfold tmesislaw07_short.l0
   repeat' with_reducible first | exact ih0 _ _ _ | exact LeO.refl _ | exact LeO.none _ | refine LeO.ite ?_ ?_ | refine LeO.bind ?_ (fun _ => ?_)
theorem tmesislaw07_short.mono : ∀ a0 k, LeO (tmesislaw07_short.f k a0) (tmesislaw07_short.f (k + 1) a0) := by
 intro a0 k
 have ih0 := tmesislaw07_short.mono_l k
 unfold tmesislaw07_short.f
 repeat' with_reducible first | exact ih0 _ _ _ | exact LeO.refl _ | exact LeO.none _ | refine LeO.ite ?_ ?_ | refine LeO.bind ?_ (fun _ => ?_)
set_option maxHeartbeats 8000000 in
set_option maxRecDepth 100000 in
theorem tmesislaw07_short.calls (k : Nat) (A0 : Option Addr) (c0 : Nat) (l0 : List (S34)) (r : List (S34)) (w : World) (hr0 : Kd.C k34 w A0 l0.length l0) (hc0 : l0.length ≤ c0) (h : tmesislaw07_short.f k l0 = some r) :
  Calls Tryd.prog 11 #[.slice A0 l0.length c0] w fun e w' => ∃ v0_ : Value, e = .returned (v0_) ∧ Kd.R k34 34 w' w.heap.size (fun _ => True) v0_ r ∧ Below w.heap.size w w' := by
 have hu34 := Tryd.underlying34
 have HR0 := Aside0.mk hr0
 have HC0 := Aside0.mk hc0
 clear hr0 hc0
 have HB := Aside0.mk (Below.refl w.heap.size w)
 have H : (tmesislaw07_short.l0 k l0 (([] : List (S34))) 0) = some r := h
 clear h
 obtain ⟨y256, hy256⟩ : ∃ y_ : List (S34), y_ = (([] : List (S34))) := ⟨_, rfl⟩
 replace H : (tmesislaw07_short.l0 k l0 y256 0) = some r := by first | (rw [hy256]; with_reducible exact H) | (have H2_ := (Option.bind_some _ _).symm.trans H; rw [hy256]; with_reducible exact H2_) | (have H2_ := (Option.bind_some _ _).symm.trans H; with_reducible exact H2_) | with_reducible exact H | (rw [hy256]; exact H) | exact H
 have Ny256 := Aside0.mk hy256
 clear hy256
 have H' := Aside0.mk H
 clear H
 go_enter Tryd.func11, Tryd.ntmps11
 go_wp2_with (first | ((with_reducible refine gate_dst (N := 6) rfl ?_); refine Kd.R_lit k34 _ 34 ?hg (N := 6) ?hd (xs := ([] : List (S34))) (inner := []) (ok := fun _ => True) (okp := fun _ => True) ?hr ?hp (fun _ hk => hk) trivial (Below.refl _ _) (Nat.le_refl _) (by simp) ?_; (case hd => rfl); (case hg => rfl); (case hr => first | (go_simp; done) | (go_simp; rfl)); (case hp => exact (Reps.none _ _)); intro v257 w2 ho3 hb hg_ hnew_; clear hg_ hnew_; (first | rw [← Ny256.out] at ho3 | (simp only [Int.reduceToNat] at ho3; rw [← Ny256.out] at ho3)); have HO258 := Aside0.mk (Kd.R_lower ho3 (below_size (bAt HB.out))); replace HB := Aside0.mk (below_step (bAt HB.out) hb); clear hb ho3))
 go_loopg [3, 4] k (fun kq v3 v4 w' => ∃ (x3_1 : List (S34)) (x4_1 : Int), v4 = .int .i64 x4_1 ∧ Aside0 (tmesislaw07_short.l0 kq l0 x3_1 x4_1 = some r) ∧ Aside0 (kq ≤ k) ∧ Aside0 (Kd.R k34 34 w' w.heap.size (fun _ => True) v3 x3_1) ∧ Aside0 (Below w.heap.size w w'))
 case atStart => exact ⟨(y256), (0), sR, H', ⟨Nat.le_refl _⟩, ⟨RAt HO258.out⟩, ⟨bAt HB.out⟩⟩
 case round =>
  clear H'
  try clear c1
  try clear p2
  obtain ⟨x3_1, x4_1, rfl, HA, HK1, HO_3, HB⟩ := hrel
  cases gk with
  | zero => exact absurd HA.out (by simp [tmesislaw07_short.l0])
  | succ k1 =>
   have H := HA.out
   clear HA
   simp only [tmesislaw07_short.l0] at H
   by_cases c4 : x4_1 < (l0.length : Int)
   ·rw [if_pos c4] at H
    have c4b0 := decide_eq_true c4
    clear c4
    by_cases c5 : x4_1 < 40
    ·rw [if_pos c5] at H
     have c5b0 := decide_eq_true c5
     clear c5
     by_cases c6 : 0 ≤ x4_1
     ·rw [if_pos c6] at H
      have c6b0 := decide_eq_true c6
      clear c6
      obtain ⟨ji7, hji7⟩ : ∃ j_ : Int, (mn (((rd_T34 l0 x4_1).f3).size : Int) 30) = j_ := ⟨_, rfl⟩
      replace H : (if 0 ≤ (ji7) then (if (ji7) ≤ (((rd_T34 l0 x4_1).f3).size : Int) then (if x3_1.length < 2932031007402 then (tmesislaw07_short.l0 k1 l0 (x3_1 ++ [(⟨(rd_T34 l0 x4_1).f0, (rd_T34 l0 x4_1).f1, (rd_T34 l0 x4_1).f2, ((rd_T34 l0 x4_1).f3).extract 0 ((ji7) : Int).toNat, (rd_T34 l0 x4_1).f4⟩ : S34)]) (wrap64 (x4_1 + 1))) else (none)) else (none)) else (none)) = some r := by first | (rw [hji7] at H; exact H) | (simp only [hji7] at H ⊢; exact H)
      have hji7_ : (if 30 < (((rd_T34 l0 x4_1).f3).size : Int) then 30 else (((rd_T34 l0 x4_1).f3).size : Int)) = ji7 := hji7
      by_cases c8 : 0 ≤ (ji7)
      ·rw [if_pos c8] at H
       have c8b0 := eq_true c8
       have c8b1 := decide_eq_true c8
       clear c8
       by_cases c9 : (ji7) ≤ (((rd_T34 l0 x4_1).f3).size : Int)
       ·rw [if_pos c9] at H
        have c9b0 := eq_true c9
        have c9b1 := decide_eq_true c9
        clear c9
        by_cases c10 : x3_1.length < 2932031007402
        ·rw [if_pos c10] at H
         have LMc10 := Aside0.mk c10
         clear c10
         obtain ⟨y261, hy261⟩ : ∃ y_ : List (S34), y_ = (x3_1 ++ [(⟨(rd_T34 l0 x4_1).f0, (rd_T34 l0 x4_1).f1, (rd_T34 l0 x4_1).f2, ((rd_T34 l0 x4_1).f3).extract 0 ((ji7) : Int).toNat, (rd_T34 l0 x4_1).f4⟩ : S34)]) := ⟨_, rfl⟩
         replace H : (tmesislaw07_short.l0 k1 l0 y261 (wrap64 (x4_1 + 1))) = some r := by first | (rw [hy261]; with_reducible exact H) | (have H2_ := (Option.bind_some _ _).symm.trans H; rw [hy261]; with_reducible exact H2_) | (have H2_ := (Option.bind_some _ _).symm.trans H; with_reducible exact H2_) | with_reducible exact H | (rw [hy261]; exact H) | exact H
         have Ny261 := Aside0.mk hy261
         clear hy261
         have H' := Aside0.mk H
         clear H
         have p259 : 0 ≤ (x4_1 : Int) := dt
         have q259 : x4_1 < (l0.length : Int) := dt
         obtain ⟨ad259, e259, hx259_0, hx259_1, hx259_2, hx259_3, hx259_4⟩ := at_T34 HR0.out x4_1 p259 q259
         cases e259
         replace hx259_0 := pw_cell_below HB.out hx259_0
         replace hx259_1 := pw_cell_below HB.out hx259_1
         replace hx259_2 := pw_cell_below HB.out hx259_2
         replace hx259_3 := pw_cell_below HB.out hx259_3
         replace hx259_4 := pw_cell_below HB.out hx259_4
         replace p259 := eq_true p259
         replace q259 := eq_true q259
         go_upto_region 6 with (first | ((with_reducible refine gate_dst (N := 5) rfl ?_); refine box_event ?hg (N := 5) ?hd (cs := #[.int .i64 0, .int .i64 0, .int .i64 0, .string (⟨#[]⟩ : ByteArray), .int .i64 0]) (t := 34) ?hr ?_; (case hd => rfl); (case hg => rfl); (case hr => first | (go_simp; done) | (go_simp; rfl)); intro gb260 hg w11 hbox hb; replace HO_3 := Aside0.mk (Kd.R_below (Kd.R_elderB (RAt HO_3.out) gb260 (Nat.le_of_eq hg.symm)) hb); have BK260 := Aside0.mk (hbox); have GW260 := Aside0.mk (gE (g := gb260) hg HB.out); have GE260 := Aside0.mk (gE (g := gb260) hg HB.out); replace HB := Aside0.mk (below_step (bAt HB.out) hb); clear hb hbox hg; obtain ⟨hcz12_0, hcz12_1, hcz12_2, hcz12_3, hcz12_4, hfz12_0, hfz12_1, hfz12_2, hfz12_3, hfz12_4⟩ := blk5 BK260.out))
         generalize hW_ : World.setCell _ _ _ = w12
         have n0_ : Aside0 (w12.heap[gb260]? = some (.cells #[.int .i64 ((rd_T34 l0 x4_1).f0), .int .i64 ((rd_T34 l0 x4_1).f1), .int .i64 ((rd_T34 l0 x4_1).f2), .string ((rd_T34 l0 x4_1).f3), .int .i64 ((rd_T34 l0 x4_1).f4)] 34 (0, 0))) := ⟨by rw [← hW_]; refine bP #[.int .i64 ((rd_T34 l0 x4_1).f0), .int .i64 ((rd_T34 l0 x4_1).f1), .int .i64 ((rd_T34 l0 x4_1).f2), .string ((rd_T34 l0 x4_1).f3), .int .i64 0] 4 ?_; refine bP #[.int .i64 ((rd_T34 l0 x4_1).f0), .int .i64 ((rd_T34 l0 x4_1).f1), .int .i64 ((rd_T34 l0 x4_1).f2), .string (⟨#[]⟩ : ByteArray), .int .i64 0] 3 ?_; refine bP #[.int .i64 ((rd_T34 l0 x4_1).f0), .int .i64 ((rd_T34 l0 x4_1).f1), .int .i64 0, .string (⟨#[]⟩ : ByteArray), .int .i64 0] 2 ?_; refine bP #[.int .i64 ((rd_T34 l0 x4_1).f0), .int .i64 0, .int .i64 0, .string (⟨#[]⟩ : ByteArray), .int .i64 0] 1 ?_; refine bP #[.int .i64 0, .int .i64 0, .int .i64 0, .string (⟨#[]⟩ : ByteArray), .int .i64 0] 0 ?_; exact BK260.out⟩
         have n1_ : Aside0 (Below w.heap.size w w12) := ⟨by rw [← hW_]; exact (bAt HB.out)⟩
         have n2_ := Aside0.mk (Kd.R_far (p := ⟨gb260, 4, none⟩) (Kd.R_far (p := ⟨gb260, 3, none⟩) (Kd.R_far (p := ⟨gb260, 2, none⟩) (Kd.R_far (p := ⟨gb260, 1, none⟩) (Kd.R_far (p := ⟨gb260, 0, none⟩) (Kd.R_mono HO_3.out (fun k_ hk => (⟨hk, hk.2⟩ : _ ∧ k_ ≠ gb260))) (fun _ hk => hk.2) (.int .i64 ((rd_T34 l0 x4_1).f0))) (fun _ hk => hk.2) (.int .i64 ((rd_T34 l0 x4_1).f1))) (fun _ hk => hk.2) (.int .i64 ((rd_T34 l0 x4_1).f2))) (fun _ hk => hk.2) (.string ((rd_T34 l0 x4_1).f3))) (fun _ hk => hk.2) (.int .i64 ((rd_T34 l0 x4_1).f4)))
         rw [hW_] at n2_
         clear hW_ hcz12_0 hcz12_1 hcz12_2 hcz12_3 hcz12_4 hfz12_0 hfz12_1 hfz12_2 hfz12_3 hfz12_4 BK260 HB HO_3
         have BK260 := n0_
         have HB := n1_
         have HO_3 := n2_
         clear n0_ n1_ n2_
         obtain ⟨hcz12_0, hcz12_1, hcz12_2, hcz12_3, hcz12_4, hfz12_0, hfz12_1, hfz12_2, hfz12_3, hfz12_4⟩ := blk5 BK260.out
         go_wp2_with (first | ((with_reducible refine gate_builtin (b := .append) (xs := #[.tmp 29, .tmp 31]) rfl ?_); at_builtin; refine Kd.R_append k34 (w0 := w) w.heap.size rfl (.tmp 29) (.tmp 31) 23 34 (.agg #[(.int .i64 0), (.int .i64 0), (.int .i64 0), (.string ⟨#[]⟩), (.int .i64 0)]) 48 rfl Tryd.underlying23 info34 rfl (by decide) (by omega) u3 x3_1 (⟨(rd_T34 l0 x4_1).f0, (rd_T34 l0 x4_1).f1, (rd_T34 l0 x4_1).f2, ((rd_T34 l0 x4_1).f3).extract 0 ((ji7) : Int).toNat, (rd_T34 l0 x4_1).f4⟩ : S34) [.int .i64 ((rd_T34 l0 x4_1).f0), .int .i64 ((rd_T34 l0 x4_1).f1), .int .i64 ((rd_T34 l0 x4_1).f2), .string (((rd_T34 l0 x4_1).f3).extract 0 ((ji7) : Int).toNat), .int .i64 ((rd_T34 l0 x4_1).f4)] (fun k_ => k_ ≠ gb260) (fun _ => False) rfl (by first | (go_simp; done) | (go_simp; rfl)) ?aP (fun _ hk => hk.elim) ?aF ?aO ?aB ?aS ?aL ?_; (case aP => exact k34_mkM _ _ _ (⟨(rd_T34 l0 x4_1).f0, (rd_T34 l0 x4_1).f1, (rd_T34 l0 x4_1).f2, ((rd_T34 l0 x4_1).f3).extract 0 ((ji7) : Int).toNat, (rd_T34 l0 x4_1).f4⟩ : S34)); (case aB => exact (bAt HB.out)); (case aF => exact (fun k_ hk => Kd.freshB (g := gb260) (o := .cells #[.int .i64 ((rd_T34 l0 x4_1).f0), .int .i64 ((rd_T34 l0 x4_1).f1), .int .i64 ((rd_T34 l0 x4_1).f2), .string (((rd_T34 l0 x4_1).f3).extract 0 ((ji7) : Int).toNat), .int .i64 ((rd_T34 l0 x4_1).f4)] 34 (0, 0)) (by refine bP #[.int .i64 ((rd_T34 l0 x4_1).f0), .int .i64 ((rd_T34 l0 x4_1).f1), .int .i64 ((rd_T34 l0 x4_1).f2), .string ((rd_T34 l0 x4_1).f3), .int .i64 ((rd_T34 l0 x4_1).f4)] 3 ?_; (with_reducible repeat (first | refine blk_drewN ?_ _ | refine blk_drew ?_ | refine blk_alloc ?_ _)); exact BK260.out) k_ hk)); (case aO => exact (RAt (Kd.R_mono (Kd.R_far (p := ⟨gb260, 3, none⟩) (HO_3.out) (fun _ hk => hk.2) (.string (((rd_T34 l0 x4_1).f3).extract 0 ((ji7) : Int).toNat))) (fun _ hk => hk.1.2)))); (case aS => exact (below_size (bAt HB.out))); (case aL => have := LMc10.out; omega); intro v262 w13 ho hb hg hat; rw [← Ny261.out] at ho; replace BK260 := Aside0.mk (blk_grown (g := gb260) (o := .cells #[.int .i64 ((rd_T34 l0 x4_1).f0), .int .i64 ((rd_T34 l0 x4_1).f1), .int .i64 ((rd_T34 l0 x4_1).f2), .string (((rd_T34 l0 x4_1).f3).extract 0 ((ji7) : Int).toNat), .int .i64 ((rd_T34 l0 x4_1).f4)] 34 (0, 0)) (by refine bP #[.int .i64 ((rd_T34 l0 x4_1).f0), .int .i64 ((rd_T34 l0 x4_1).f1), .int .i64 ((rd_T34 l0 x4_1).f2), .string ((rd_T34 l0 x4_1).f3), .int .i64 ((rd_T34 l0 x4_1).f4)] 3 ?_; (with_reducible repeat (first | refine blk_drewN ?_ _ | refine blk_drew ?_ | refine blk_alloc ?_ _)); exact BK260.out) hg (Kd.R_away HO_3.out (fun _ hk => hk.2))); replace HB := Aside0.mk (hb); have HO263 := Aside0.mk (ho); clear HO_3; clear ho hb hg hat))
         go_roundg k1
         case measure => have := HK1.out; omega
         case rel => exact ⟨(y261), (wrap64 (x4_1 + 1)), sR, H', ⟨by have := HK1.out; omega⟩, ⟨RAt (Kd.R_mono HO263.out (fun _ hk => trivial))⟩, ⟨bAt HB.out⟩⟩
        ·exact nB H c10
       ·exact nB H c9
      ·exact nB H c8
     ·exact nB H c6
    ·rw [if_neg c5] at H
     have c5b0 := decide_eq_false c5
     clear c5
     obtain rfl := Option.some.inj H
     go_wp2
     go_ret
     exact ⟨_, eR, RAt HO_3.out, bAt HB.out⟩
   ·rw [if_neg c4] at H
    have c4b0 := decide_eq_false c4
    clear c4
    obtain rfl := Option.some.inj H
    go_wp2
    go_ret
    exact ⟨_, eR, RAt HO_3.out, bAt HB.out⟩
def tmesisref02_in.l0 : Nat → Int → ByteArray → Int → Option (Bool)
 | 0, _, _, _ => none
 | k + 1, x0, x1, x5 => if x5 < (x1.size : Int) then (if 0 ≤ x5 then (if (bt x1 x5) = x0 then (some true) else (tmesisref02_in.l0 k x0 x1 (wrap64 (x5 + 1)))) else (none)) else (some false)
def tmesisref02_in.f (k : Nat) (a0 : Int) (a1 : ByteArray) : Option (Bool) := tmesisref02_in.l0 k a0 a1 0
theorem tmesisref02_in.mono_l : ∀ k, (∀ y0 y1 y2, LeO (tmesisref02_in.l0 k y0 y1 y2) (tmesisref02_in.l0 (k + 1) y0 y1 y2))
 | 0 => fun _ _ _ r h => by simp [tmesisref02_in.l0] at h
 | k + 1 => by
  have ih0 := tmesisref02_in.mono_l k
  ·intro y0 y1 y2
   unfold tmesisref02_in.l0
   repeat' with_reducible first | exact ih0 _ _ _ | exact LeO.refl _ | exact LeO.none _ | refine LeO.ite ?_ ?_ | refine LeO.bind ?_ (fun _ => ?_)
theorem tmesisref02_in.mono : ∀ a0 a1 k, LeO (tmesisref02_in.f k a0 a1) (tmesisref02_in.f (k + 1) a0 a1) := by
 intro a0 a1 k
 have ih0 := tmesisref02_in.mono_l k
 unfold tmesisref02_in.f
 repeat' with_reducible first | exact ih0 _ _ _ | exact LeO.refl _ | exact LeO.none _ | refine LeO.ite ?_ ?_ | refine LeO.bind ?_ (fun _ => ?_)
set_option maxHeartbeats 8000000 in
set_option maxRecDepth 100000 in
theorem tmesisref02_in.calls (k : Nat) (a0 : Int) (a1 : ByteArray) (r : Bool) (w : World) (h : tmesisref02_in.f k a0 a1 = some r) :
  Calls Tryd.prog 64 #[.int .u8 a0, .string a1] w fun e w' => e = .returned (.bool r) ∧ Drawn0 w w' := by
 have H : (tmesisref02_in.l0 k a0 a1 0) = some r := h
 clear h
 have H' := Aside0.mk H
 clear H
 go_enter Tryd.func64, Tryd.ntmps64
 go_wp2
 go_loopg [5] k (fun kq v5 w' => ∃ (x5_1 : Int), v5 = .int .i64 x5_1 ∧ Aside0 (tmesisref02_in.l0 kq a0 a1 x5_1 = some r) ∧ Aside0 (kq ≤ k) ∧ Drawn0 w w')
 case atStart => exact ⟨(0), sR, H', ⟨Nat.le_refl _⟩, by repeat (first | exact Drawn0.refl _ | apply Drawn0.step)⟩
 case round =>
  clear H'
  try clear p2
  obtain ⟨x5_1, rfl, HA, HK1, ⟨m1, rfl⟩⟩ := hrel
  cases gk with
  | zero => exact absurd HA.out (by simp [tmesisref02_in.l0])
  | succ k1 =>
   have H := HA.out
   clear HA
   simp only [tmesisref02_in.l0] at H
   by_cases c3 : x5_1 < (a1.size : Int)
   ·rw [if_pos c3] at H
    have c3b0 := decide_eq_true c3
    clear c3
    by_cases c4 : 0 ≤ x5_1
    ·rw [if_pos c4] at H
     have c4b0 := decide_eq_true c4
     clear c4
     by_cases c6 : (bt a1 x5_1) = a0
     ·rw [if_pos c6] at H
      obtain ⟨c6b0, c6b1⟩ := eqB c6
      clear c6
      obtain rfl := Option.some.inj H
      have p5 : 0 ≤ (x5_1 : Int) := dt
      have q5 : x5_1 < (a1.size : Int) := dt
      have hx5 := bt_at a1 x5_1
      replace p5 := eq_true p5
      replace q5 := eq_true q5
      go_wp2
      go_ret
      exact ⟨by first | rfl | (simp; done) | (simp [*]; done), by repeat (first | exact Drawn0.refl _ | apply Drawn0.step)⟩
     ·rw [if_neg c6] at H
      obtain ⟨c6b0, c6b1⟩ := neB c6
      have H' := Aside0.mk H
      clear H
      have p5 : 0 ≤ (x5_1 : Int) := dt
      have q5 : x5_1 < (a1.size : Int) := dt
      have hx5 := bt_at a1 x5_1
      replace p5 := eq_true p5
      replace q5 := eq_true q5
      go_wp2
      go_roundg k1
      case measure => have := HK1.out; omega
      case rel => exact ⟨(wrap64 (x5_1 + 1)), sR, H', ⟨by have := HK1.out; omega⟩, by repeat (first | exact Drawn0.refl _ | apply Drawn0.step)⟩
    ·exact nB H c4
   ·rw [if_neg c3] at H
    have c3b0 := decide_eq_false c3
    clear c3
    obtain rfl := Option.some.inj H
    go_wp2
    go_ret
    exact ⟨by first | rfl | (simp; done) | (simp [*]; done), by repeat (first | exact Drawn0.refl _ | apply Drawn0.step)⟩
end Go.Proofs.YtdejidhgeefmeaaDoor.P
