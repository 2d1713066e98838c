/- Part of the proof: what the theorem needs of this text. -/
import Derived.Test.YtdejidhgeefmeaaDoorKHG
import Derived.Test.YtdejidhgeefmeaaDoorKHGR
import Derived.Test.YtdejidhgeefmeaaDoorKHW
import Derived.Test.YtdejidhgeefmeaaDoorKPx10
import Derived.ArgAppend
import Derived.Laws.IdiomCopy
namespace Go.Proofs.YtdejidhgeefmeaaDoor.P
set_option linter.unusedSimpArgs false
set_option linter.unusedVariables false
open Go.RowKit Go.Proofs.YtdejidhgeefmeaaDoorW.PrintWords Go.Proofs.YtdejidhgeefmeaaDoorW.PrintLast Go.Proofs.YtdejidhgeefmeaaDoorW.PrintMore
section
variable {P : Program} {ops : Array Oper} {rest : List Oper} {o : Oper} {a : Act} {Q : Exit → Act → World → Prop}
/-- a row that a conversion has made: its cells can be written up to its capacity, whatever mark it bears -/
structure Marked (W : World) (base g cap : Nat) (ys : List Int) : Prop where
 base : base ≤ g
 lt : g < W.heap.size
 le : ys.length ≤ cap
 small : ys.length ≤ 1000000
 cells : ∀ j, j < ys.length → W.cell? ⟨g, j, none⟩ = some (.int .u8 (ys.getD j 0))
 room : ∀ j, j < cap → (W.cell? ⟨g, j, none⟩).isSome = true ∧ W.frozen? ⟨g, j, none⟩ = false
theorem Marked.below {W W1 : World} {b g cap : Nat} {ys : List Int} (h : Marked W b g cap ys) (hb : Below W.heap.size W W1) : Marked W1 b g cap ys :=
 ⟨h.base, Nat.lt_of_lt_of_le h.lt hb.size, h.le, h.small, fun j hj => by rw [hb.cell (p := ⟨g, j, none⟩) h.lt]; exact h.cells j hj, fun j hj => by rw [hb.cell (p := ⟨g, j, none⟩) h.lt, hb.frozen (p := ⟨g, j, none⟩) h.lt]; exact h.room j hj⟩
theorem add_nat (g j : Nat) : (⟨g, 0, none⟩ : Addr).add j = ⟨g, j, none⟩ := by unfold Addr.add; split <;> simp_all
theorem Marked.reads {W : World} {b g cap : Nat} {ys : List Int} (h : Marked W b g cap ys) : Kd.C (Kd.int .u8) W (some ⟨g, 0, none⟩) ys.length ys :=
 Kd.C_of_reads (d := (0 : Int)) (h1 := fun _ => rfl) ⟨rfl, by have := h.small; omega, fun _ => ⟨_, rfl, fun j hj => by rw [add_nat]; exact h.cells j hj⟩⟩
/-- '[]byte(s)' -/
theorem M_bytes {w0 W : World} (base e : Nat) (hgd : o.guard = none) {N : Tmp} (_hd : o.dst = some N) {src dst : TypeId} {x : Operand} (ho : o.op = .convert src dst x) {s : ByteArray} (hx : a.eval x = .string s)
  (hsrc : P.underlying src = some .string) (hdst : P.underlying dst = some (.slice e)) (he : P.underlying e = some (.int .u8)) (hm : s.size ≤ 1000000) (HB : Below base w0 W) (hbase : base ≤ W.heap.size)
  (h : ∀ g cap w1, Marked w1 base g cap (Go.Proofs.YtdejidhgeefmeaaDoorW.PrintWords.bytesOf s) → Below base w0 w1 → Below W.heap.size W w1 → wpList P ops Q rest (a.put o.dst (.slice (some ⟨g, 0, none⟩) (Go.Proofs.YtdejidhgeefmeaaDoorW.PrintWords.bytesOf s).length cap)) w1) :
  wpList P ops Q (o :: rest) a W := by
 have hr := run_bytes_of_string (P := P) W src dst e s hsrc hdst he
 have hlen : (Go.Proofs.YtdejidhgeefmeaaDoorW.PrintWords.bytesOf s).length = s.size := bytesOf_length s
 have hge := grownCap_ge W s.size 0 e
 generalize grownCap W s.size 0 e = cap at hr hge
 have hsz : (bytesRow s cap).size = cap := by
  have : s.data.size = s.size := rfl
  simp [bytesRow]
  omega
 have hrun : (execOp a.eval o).run P W = .ok (.value (.slice (some ⟨W.heap.size, 0, none⟩) s.size cap)) (W.drew.alloc (.cells (bytesRow s cap) e ((bytesRow s cap).size, (bytesRow s cap).size + 1))) := by
  unfold execOp
  simp only [ho, hx, Sem.run_bind, hr, Result.andThen_ok, Sem.run_pure]
 refine Kd.event_run hgd hrun ?_
 have hb : (W.drew.alloc (.cells (bytesRow s cap) e ((bytesRow s cap).size, (bytesRow s cap).size + 1))).heap[W.heap.size]? = some (.cells (bytesRow s cap) e ((bytesRow s cap).size, (bytesRow s cap).size + 1)) := alloc_new W.drew _
 rw [← hlen]
 refine h _ _ _ ⟨hbase, by simp, by rw [hlen]; exact hge, by rw [hlen]; exact hm, fun j hj => ?_, fun j hj => ?_⟩ ((HB.drew).alloc hbase _) (below_alloc (below_drew1 (Below.refl _ _)) _)
 ·rw [hlen] at hj
  have hj2 : j < s.data.size := hj
  rw [cell_of_row _ _ j _ _ _ hb]
  simp [bytesRow, Go.Proofs.YtdejidhgeefmeaaDoorW.PrintWords.bytesOf, List.getD_eq_getElem?_getD, Array.getElem?_append]
  rw [if_pos hj, Array.getElem?_eq_getElem hj2]
  rfl
 ·refine ⟨?_, ?_⟩
  ·rw [cell_of_row _ _ j _ _ _ hb, Array.getElem?_eq_getElem (by rw [hsz]; exact hj)]; rfl
  ·unfold World.frozen?
   rw [hb]
   simp only [hsz]
   simp
   omega
theorem one_room {W : World} {g n j : Nat} (hj : j = 0) (h : (W.cell? ⟨g, n, none⟩).isSome = true ∧ W.frozen? ⟨g, n, none⟩ = false) : (W.cell? ⟨g, n + j, none⟩).isSome = true ∧ W.frozen? ⟨g, n + j, none⟩ = false := by subst hj; exact h
/-- append(b, y), b such a row -/
theorem M_append {w0 W : World} (base e : Nat) (hgd : o.guard = none) (s x : Operand) (t : TypeId) (ho : o.op = .call { callee := .builtin .append, args := #[s, x], argTypes := #[t, t] })
  (ht : P.underlying t = some (.slice e)) (hinfo : (P.info? e).map (fun i => (i.zero, i.size, i.bytes)) = some (some (.int .u8 0), 1, 1))
  (g cap : Nat) (ys : List Int) (y : Int) (q : Nat) (hs : a.eval s = .slice (some ⟨g, 0, none⟩) ys.length cap) (hx : a.eval x = .slice (some ⟨q, 0, none⟩) 1 1) (hy : W.cell? ⟨q, 0, none⟩ = some (.int .u8 y))
  (HM : Marked W base g cap ys) (HB : Below base w0 W) (hbase : base ≤ W.heap.size)
  (h : ∀ v1 w1, Kd.V (Kd.int .u8) e w1 base (fun k => base ≤ k) v1 (ys ++ [y]) → Below base w0 w1 → wpList P ops Q rest (a.put o.dst v1) w1) :
  wpList P ops Q (o :: rest) a W := by
 obtain ⟨i0, hi, hzz⟩ := Option.map_eq_some_iff.1 hinfo
 simp only [Prod.mk.injEq] at hzz
 obtain ⟨hz0, hz1, hz2⟩ := hzz
 have hsmall := HM.small
 have hnews : ∀ j u, [Value.int .u8 y][j]? = some u → W.cell? ((⟨q, 0, none⟩ : Addr).add j) = some u := by
  intro j u hu
  cases j with
  | zero =>
   obtain rfl := Option.some.inj hu
   rw [add_nat]; exact hy
  | succ j => simp at hu
 have h1 : ∀ u ∈ [Value.int .u8 y], u.oneCell' = true := by
  intro u hu
  rw [List.mem_singleton.1 hu]; rfl
 obtain ⟨v1, w1, hr, hV, hB⟩ : ∃ v1 w1, (Builtin.append_ #[t, t] o.type #[.slice (some ⟨g, 0, none⟩) ys.length cap, .slice (some ⟨q, 0, none⟩) 1 1]).run P W = .ok v1 w1 ∧ Kd.V (Kd.int .u8) e w1 base (fun k => base ≤ k) v1 (ys ++ [y]) ∧ Below base w0 w1 := by
  by_cases hroom : ys.length + 1 ≤ cap
  ·have hr := run_append_room_cells (P := P) (w := W) t o.type e i0 ht hi g 0 ys.length cap ⟨q, 0, none⟩ 1 1 [.int .u8 y] (by rw [hz1]; rfl) hnews h1 hroom
    (fun j hj => by rw [hz1, Nat.zero_add, Nat.mul_one]; exact (one_room (by simpa using hj) (HM.room ys.length (by omega))).1)
    (fun j hj => by rw [hz1, Nat.zero_add, Nat.mul_one]; exact (one_room (by simpa using hj) (HM.room ys.length (by omega))).2)
   rw [hz1, Nat.zero_add, Nat.mul_one] at hr
   obtain ⟨s1, s2, s3, s4⟩ := setCells_same g [Value.int .u8 y] ys.length W
   refine ⟨_, _, hr, ⟨some ⟨g, 0, none⟩, cap, by simp, by simpa using hroom, fun W' hW => ?_⟩, HB.trans ⟨s1, s2, s3, by rw [s4]; exact Nat.le_refl _, fun k hk => setCells_far _ _ k (by have := HM.base; omega)⟩⟩
   have hh : W'.heap[g]? = (W.setCells g ys.length [Value.int .u8 y]).heap[g]? := hW g HM.base (by rw [s4]; exact HM.lt)
   have hc : ∀ j, W'.cell? ⟨g, j, none⟩ = (W.setCells g ys.length [Value.int .u8 y]).cell? ⟨g, j, none⟩ := by
    intro j
    unfold World.cell?
    rw [hh]
   refine Kd.C_of_reads (d := (0 : Int)) (h1 := fun _ => rfl) ⟨rfl, by simp; omega, fun _ => ⟨_, rfl, fun j hj => ?_⟩⟩
   rw [add_nat, hc]
   simp only [List.length_append, List.length_singleton] at hj
   by_cases hjl : j < ys.length
   ·rw [World.cell?_setCells_out g _ _ W ⟨g, j, none⟩ (fun _ _ => .inl hjl), HM.cells j hjl]
    simp [List.getD_eq_getElem?_getD, List.getElem?_append_left hjl]
   ·obtain rfl : j = ys.length := by omega
    have := World.cell?_setCells_in g [Value.int .u8 y] ys.length W (fun j hj => (one_room (by simpa using hj) (HM.room ys.length (by omega))).1) 0 (by simp)
    rw [Nat.add_zero] at this
    rw [this]
    simp [List.getD_eq_getElem?_getD]
  ·have hrd := HM.reads
   obtain ⟨v', w', hr, hown, hg⟩ := run_append_arg_grows (P := P) (w := W) t o.type e i0 (.int .u8 0) 1 1 ht hi hz0 hz1 hz2 rfl (by omega) ⟨g, 0, none⟩ ys.length cap (encs (Value.int .u8) ys) (by simp [encs])
    (fun j u hu => by
     unfold encs at hu
     rw [List.getElem?_map] at hu
     obtain ⟨z, hz, rfl⟩ := Option.map_eq_some_iff.1 hu
     have hj := (List.getElem?_eq_some_iff.1 hz).1
     rw [add_nat, HM.cells j hj]
     simp [List.getD_eq_getElem?_getD, hz]) ⟨q, 0, none⟩ 1 1 [.int .u8 y] rfl hnews (by omega) (by simp only [maxLen]; omega) (by omega)
   have he : encs (Value.int .u8) ys ++ [Value.int .u8 y] = encs (Value.int .u8) (ys ++ [y]) := by simp [encs]
   rw [he] at hown
   have hR : Kd.R (Kd.int .u8) e w' base (fun k => base ≤ k) v' (ys ++ [y]) := Kd.R_of_own (by rw [List.length_append, List.length_singleton]; exact own_weaken hown hbase) (fun k hk => Nat.le_trans hbase (own_base hown k hk))
   exact ⟨v', w', hr, Kd.R_V hR, HB.grown hg hbase (fun k hk => by cases hk)⟩
 refine wpList_plain hgd fun K hK => ?_
 unfold Oper.wp execOp
 simp only [ho, resolve, invoke, builtin, Sem.run_bind, Sem.run_pure, Result.andThen_ok, List.map_toArray, List.map_cons, List.map_nil, hs, hx, hr]
 exact hK _ _ (h v1 w1 hV hB)
end
def lex_bytes.f (k : Nat) (a0 a1 a2 : Int) (a3 : ByteArray) (a4 : Int) : Option (List Int × Int) :=
 if a3.size ≤ 1000000 then (if a0 = 5 then (quote_Put.f k (Go.Proofs.YtdejidhgeefmeaaDoorW.PrintWords.bytesOf a3)).bind fun p => (if p.1.length ≤ 1000000 then some (p.1 ++ [32], p.2) else none) else if a0 = 7 then some (Go.Proofs.YtdejidhgeefmeaaDoorW.PrintWords.bytesOf a3 ++ [10], 0) else some (Go.Proofs.YtdejidhgeefmeaaDoorW.PrintWords.bytesOf a3 ++ [32], 0)) else none
theorem lex_bytes.mono : ∀ a0 a1 a2 a3 a4 k, LeO (lex_bytes.f k a0 a1 a2 a3 a4) (lex_bytes.f (k + 1) a0 a1 a2 a3 a4) := by
 intro a0 a1 a2 a3 a4 k
 unfold lex_bytes.f
 exact LeO.ite (LeO.ite (LeO.bind (quote_Put.mono _ _) (fun _ => LeO.refl _)) (LeO.refl _)) (LeO.refl _)
set_option maxHeartbeats 2000000 in
set_option maxRecDepth 100000 in
theorem lex_bytes.calls (k : Nat) (a0 a1 a2 : Int) (a3 : ByteArray) (a4 : Int) (r1 : List Int) (r2 : Int) (w : World) (hG : Gl w) (h : lex_bytes.f k a0 a1 a2 a3 a4 = some (r1, r2)) :
  Calls Tryd.prog 18 #[.agg #[.int .i64 a0, .int .i64 a1, .int .i64 a2, .string a3, .int .i64 a4]] w fun e w' => ∃ v0_ : Value, e = .returned (.tuple #[v0_, .int .i64 r2]) ∧ Kd.V (Kd.int .u8) 5 w' w.heap.size (fun k_ => w.heap.size ≤ k_) v0_ r1 ∧ Below w.heap.size w w' := by
 unfold lex_bytes.f at h
 by_cases hs : a3.size ≤ 1000000
 rotate_left
 ·rw [if_neg hs] at h; cases h
 rw [if_pos hs] at h
 have HS := Aside0.mk hs
 have HG := Aside0.mk hG
 clear hs hG
 by_cases h5 : a0 = 5
 ·rw [if_pos h5] at h
  subst h5
  obtain ⟨⟨p1, p2⟩, hp, h⟩ := Option.bind_eq_some_iff.1 h
  by_cases hpl : p1.length ≤ 1000000
  rotate_left
  ·rw [if_neg hpl] at h; cases h
  rw [if_pos hpl] at h
  simp only [Option.some.injEq, Prod.mk.injEq] at h
  obtain ⟨rfl, rfl⟩ := h
  have HP := Aside0.mk hp
  have HPL := Aside0.mk hpl
  clear hp hpl
  go_enter Tryd.func18, Tryd.ntmps18
  go_wp2_with (first
   | ((with_reducible refine gate_dst (N := 1) rfl ?_); refine box_event ?hg (N := 1) ?hd (cs := #[.int .i64 5, .int .i64 a1, .int .i64 a2, .string a3, .int .i64 a4]) (t := 34) ?hr ?_; (case hd => rfl); (case hg => rfl); (case hr => first | (go_simp; done) | (go_simp; rfl)); intro gb hg w1 hbox hb; clear hg; have HB := Aside0.mk hb; have hc0 : w1.cell? ⟨gb, 0, none⟩ = some (.int .i64 5) := (blk_cell hbox 0).trans rfl; have hc3 : w1.cell? ⟨gb, 3, none⟩ = some (.string a3) := (blk_cell hbox 3).trans rfl; clear hbox hb)
   | ((with_reducible refine gate_dst (N := 8) rfl ?_); refine M_bytes (w0 := w) w.heap.size 5 rfl (N := 8) rfl rfl (s := a3) rfl Tryd.underlying9 Tryd.underlying22 Tryd.underlying5 HS.out HB.out HB.out.size ?_; intro g cap w2 hm hb hb2; have HM := Aside0.mk hm; have hc0b := (hb2.cell (p := ⟨gb, 0, none⟩) (World.block_lt_of_cell? _ _ hc0)).trans hc0; clear HB hc0 hc3; have HB := Aside0.mk hb; have hc0 := hc0b; clear hm hb hb2 hc0b)
   | (go_at_call 24; refine (quote_Put.calls k _ cap _ p1 _ _ (Gl.below HG.out HB.out) HM.out.reads HM.out.le HP.out).mono ?_; rintro e w3 ⟨v3, rfl, hv, hb⟩; have HV := Aside0.mk (Kd.R_lower hv HB.out.size); have hc0b := (hb.cell (p := ⟨gb, 0, none⟩) (World.block_lt_of_cell? _ _ hc0)).trans hc0; have hbb := below_step HB.out hb; clear HB hc0 HM; have HB := Aside0.mk hbb; have hc0 := hc0b; clear hv hb hbb hc0b)
   | ((with_reducible refine gate_builtin (b := .append) (xs := #[.tmp 24, .tmp 25]) rfl ?_); at_builtin; refine Kd.R_append (Kd.int .u8) (w0 := w) w.heap.size rfl (.tmp 24) (.tmp 25) 22 5 (.int .u8 0) 1 rfl Tryd.underlying22 infoU8 rfl (by decide) (by omega) v3 p1 32 [.int .u8 32] (fun _ => True) (fun _ => False) rfl rfl ?aP (fun _ hk => hk.elim) ?aF ?aO ?aB ?aS ?aL ?_; (case aP => exact rfl); (case aF => exact fun _ _ => trivial); (case aO => exact HV.out); (case aB => exact HB.out); (case aS => exact HB.out.size); (case aL => have := HPL.out; omega); intro v4 w4 ho hb hg hat; have HO := Aside0.mk ho; have HB4 := Aside0.mk hb; clear ho hb hg hat))
  go_ret2
  exact ⟨_, rfl, Kd.R_V (Kd.R_mono (Kd.R_bound HO.out) (fun k_ hk => hk.2.1)), HB4.out⟩
 ·rw [if_neg h5] at h
  have h5b : (a0 == 5) = false := beq_eq_false_iff_ne.mpr h5
  by_cases h7 : a0 = 7
  ·subst h7
   simp only [if_true, Option.some.injEq, Prod.mk.injEq] at h
   obtain ⟨rfl, rfl⟩ := h
   clear h5 h5b
   go_enter Tryd.func18, Tryd.ntmps18
   go_wp2_with (first
   | ((with_reducible refine gate_dst (N := 1) rfl ?_); refine box_event ?hg (N := 1) ?hd (cs := #[.int .i64 7, .int .i64 a1, .int .i64 a2, .string a3, .int .i64 a4]) (t := 34) ?hr ?_; (case hd => rfl); (case hg => rfl); (case hr => first | (go_simp; done) | (go_simp; rfl)); intro gb hg w1 hbox hb; clear hg; have HB := Aside0.mk hb; have hc0 : w1.cell? ⟨gb, 0, none⟩ = some (.int .i64 7) := (blk_cell hbox 0).trans rfl; have hc3 : w1.cell? ⟨gb, 3, none⟩ = some (.string a3) := (blk_cell hbox 3).trans rfl; clear hbox hb)
   | ((with_reducible refine gate_dst (N := 8) rfl ?_); refine M_bytes (w0 := w) w.heap.size 5 rfl (N := 8) rfl rfl (s := a3) rfl Tryd.underlying9 Tryd.underlying22 Tryd.underlying5 HS.out HB.out HB.out.size ?_; intro g cap w2 hm hb hb2; have HM := Aside0.mk hm; have hc0b := (hb2.cell (p := ⟨gb, 0, none⟩) (World.block_lt_of_cell? _ _ hc0)).trans hc0; clear HB hc0 hc3; have HB := Aside0.mk hb; have hc0 := hc0b; clear hm hb hb2 hc0b)
   | ((with_reducible refine gate_builtin (b := .append) (xs := #[.tmp 20, .tmp 21]) rfl ?_); at_builtin; refine M_append (w0 := w) w.heap.size 5 rfl (.tmp 20) (.tmp 21) 22 rfl Tryd.underlying22 infoU8 g cap _ 10 w2.heap.size rfl rfl (blk_cell (blk_new w2 _) 0) (HM.out.below (below_alloc (Below.refl _ _) _)) (below_alloc HB.out _) (by have := HB.out.size; simp; omega) ?_; intro v4 w4 hv hb; have HO := Aside0.mk hv; have HB4 := Aside0.mk hb; clear hv hb))
   go_ret2
   exact ⟨_, rfl, HO.out, HB4.out⟩
  ·rw [if_neg h7] at h
   simp only [Option.some.injEq, Prod.mk.injEq] at h
   obtain ⟨rfl, rfl⟩ := h
   have h7b : (a0 == 7) = false := beq_eq_false_iff_ne.mpr h7
   clear h5 h7
   go_enter Tryd.func18, Tryd.ntmps18
   go_wp2_with (first
   | ((with_reducible refine gate_dst (N := 1) rfl ?_); refine box_event ?hg (N := 1) ?hd (cs := #[.int .i64 a0, .int .i64 a1, .int .i64 a2, .string a3, .int .i64 a4]) (t := 34) ?hr ?_; (case hd => rfl); (case hg => rfl); (case hr => first | (go_simp; done) | (go_simp; rfl)); intro gb hg w1 hbox hb; clear hg; have HB := Aside0.mk hb; have hc0 : w1.cell? ⟨gb, 0, none⟩ = some (.int .i64 a0) := (blk_cell hbox 0).trans rfl; have hc3 : w1.cell? ⟨gb, 3, none⟩ = some (.string a3) := (blk_cell hbox 3).trans rfl; clear hbox hb)
   | ((with_reducible refine gate_dst (N := 8) rfl ?_); refine M_bytes (w0 := w) w.heap.size 5 rfl (N := 8) rfl rfl (s := a3) rfl Tryd.underlying9 Tryd.underlying22 Tryd.underlying5 HS.out HB.out HB.out.size ?_; intro g cap w2 hm hb hb2; have HM := Aside0.mk hm; have hc0b := (hb2.cell (p := ⟨gb, 0, none⟩) (World.block_lt_of_cell? _ _ hc0)).trans hc0; clear HB hc0 hc3; have HB := Aside0.mk hb; have hc0 := hc0b; clear hm hb hb2 hc0b)
   | ((with_reducible refine gate_builtin (b := .append) (xs := #[.tmp 24, .tmp 25]) rfl ?_); at_builtin; refine M_append (w0 := w) w.heap.size 5 rfl (.tmp 24) (.tmp 25) 22 rfl Tryd.underlying22 infoU8 g cap _ 32 w2.heap.size rfl rfl (blk_cell (blk_new w2 _) 0) (HM.out.below (below_alloc (Below.refl _ _) _)) (below_alloc HB.out _) (by have := HB.out.size; simp; omega) ?_; intro v4 w4 hv hb; have HO := Aside0.mk hv; have HB4 := Aside0.mk hb; clear hv hb))
   go_ret2
   exact ⟨_, rfl, HO.out, HB4.out⟩
end Go.Proofs.YtdejidhgeefmeaaDoor.P
