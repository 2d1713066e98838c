/- Part of the proof: what the theorem needs of this text. -/
import Derived.Test.YtklpephnbkoinaaDoorKHW
import Derived.ArgAppend
import Derived.Lib.AppendStr
namespace Go.Proofs.YtklpephnbkoinaaDoor.P
set_option linter.unusedSimpArgs false
set_option linter.unusedVariables false
open Go.RowKit Go.Proofs.YtklpephnbkoinaaDoorW.PrintWords Go.Proofs.YtklpephnbkoinaaDoorW.PrintLast Go.Proofs.YtklpephnbkoinaaDoorW.PrintMore
/-- bytes that fill their row -/
def RL (e : Nat) (W : World) (base : Nat) (ok : Nat → Prop) (v : Value) (xs : List Int) : Prop :=
 Kd.R (Kd.int .u8) e W base ok v xs ∨ ∃ g : Nat, v = .slice (some ⟨g, 0, none⟩) xs.length xs.length ∧ base ≤ g ∧ g < W.heap.size ∧ 0 < xs.length ∧ ∀ j, j < xs.length → W.cell? ⟨g, j, none⟩ = some (.int .u8 (xs.getD j 0))
section
variable {P : Program} {ops : Array Oper} {rest : List Oper} {o o2 : Oper} {a : Act} {Q : Exit → Act → World → Prop}
theorem RL_base {e base : Nat} {W : World} {ok : Nat → Prop} {v : Value} {xs : List Int} (h : RL e W base ok v xs) : ∀ k, v.ownBlock = some k → base ≤ k := by
 rcases h with h | ⟨g, rfl, hb, _⟩
 ·exact Kd.R_base h
 ·intro k hk
  obtain rfl := Option.some.inj (show some g = some k from hk)
  exact hb
theorem RL_lower {e base base' : Nat} {W : World} {ok : Nat → Prop} {v : Value} {xs : List Int} (h : RL e W base ok v xs) (hb : base' ≤ base) : RL e W base' ok v xs := by
 rcases h with h | ⟨g, h1, h2, h3⟩
 ·exact .inl (Kd.R_lower h hb)
 ·exact .inr ⟨g, h1, Nat.le_trans hb h2, h3⟩
theorem add_natL (g j : Nat) : (⟨g, 0, none⟩ : Addr).add j = ⟨g, j, none⟩ := by unfold Addr.add; split <;> simp_all
theorem RL_cells {W : World} {g : Nat} {xs : List Int} (hc : ∀ j, j < xs.length → W.cell? ⟨g, j, none⟩ = some (.int .u8 (xs.getD j 0))) : ∀ j u, (encs (Value.int .u8) xs)[j]? = some u → W.cell? ((⟨g, 0, none⟩ : Addr).add j) = some u := by
 intro j u hu
 unfold encs at hu
 rw [List.getElem?_map] at hu
 obtain ⟨z, hz, rfl⟩ := Option.map_eq_some_iff.1 hu
 have hj := (List.getElem?_eq_some_iff.1 hz).1
 rw [add_natL, hc j hj]
 simp [List.getD_eq_getElem?_getD, hz]
theorem RL_litsG {w0 W : World} (base e : Nat) (hgd : o.guard = none) {N : Tmp} (_hd : o.dst = some N) {xs : List Int}
  (hrun : ∀ W : World, (execOp a.eval o).run P W = .ok (.value (.slice (some ⟨W.heap.size, 0, none⟩) xs.length xs.length)) (W.alloc (.cells (xs.map (Value.int .u8)).toArray e)))
  (hw2 : Region.wanted o2 (yielded ops (a.put o.dst (.slice (some ⟨W.heap.size, 0, none⟩) xs.length xs.length)).tmps) = true)
  (hrun2 : ∀ W : World, (execOp (a.put o.dst (.slice (some ⟨W.heap.size, 0, none⟩) xs.length xs.length)).eval o2).run P (W.alloc (.cells (xs.map (Value.int .u8)).toArray e)) = .ok (.value (.slice (some ⟨W.heap.size, 0, none⟩) xs.length xs.length)) (W.alloc (.cells (xs.map (Value.int .u8)).toArray e (xs.length, xs.length + 1))))
  (HB : Below base w0 W) (hbase : base ≤ W.heap.size) (h0 : 0 < xs.length)
  (h : ∀ v1 w1, (∀ ok, RL e w1 W.heap.size ok v1 xs) → Below base w0 w1 → W.grownBy w1 none → (∃ b, v1.ownBlock = some b ∧ W.heap.size ≤ b) → wpList P ops Q rest ((a.put o.dst v1).put o2.dst v1) w1) :
  wpList P ops Q (o :: o2 :: rest) a W := by
 refine Kd.event_run hgd (hrun W) ?_
 refine wpList_step fun K hK => ?_
 rw [if_pos hw2]
 unfold Oper.wp
 rw [hrun2 W]
 have hb : (W.alloc (.cells (xs.map (Value.int .u8)).toArray e (xs.length, xs.length + 1))).heap[W.heap.size]? = some (.cells (xs.map (Value.int .u8)).toArray e (xs.length, xs.length + 1)) := alloc_new W _
 refine hK _ _ (h _ _ (fun ok => .inr ⟨W.heap.size, rfl, Nat.le_refl _, by simp, h0, fun j hj => ?_⟩) (HB.alloc hbase _) (World.grownBy_alloc W _ none) ⟨W.heap.size, by simp [Value.ownBlock], Nat.le_refl _⟩)
 rw [cell_of_row _ _ j _ _ _ hb]
 simp [List.getD_eq_getElem?_getD, hj]
theorem str_grows {w : World} (t u ty e : TypeId) (i : TypeInfo) (ht : P.underlying t = some (.slice e)) (hu : P.underlying u = some .string) (hi : P.info? e = some i) (hz : i.zero = some (.int .u8 0))
  (hsize : i.size = 1) (hby : i.bytes = 1) (b : Addr) (n cap : Nat) (olds : List Value) (hlo : olds.length = n) (holds : ∀ j v, olds[j]? = some v → w.cell? (b.add j) = some v) (y : ByteArray)
  (hg : cap < n + y.size) (hl : n + y.size ≤ 140737488355328) :
  ∃ v' w', (Builtin.append_ #[t, u] ty #[.slice (some b) n cap, .string y]).run P w = .ok v' w' ∧ w'.ownsRow w.heap.size e 1 v' (n + y.size) (olds ++ Lib.strCells y) ∧ w.grownBy w' none := by
 have hsl : (Lib.strCells y).length = y.size := by simp [Lib.strCells]
 have hlen : (olds ++ Lib.strCells y).length = (n + y.size) * 1 := by rw [List.length_append, hlo, hsl]; omega
 have hge := grownCap_ge w (n + y.size) cap e
 have hcm : grownCap w (n + y.size) cap e ≤ maxLen := grownCap_le_maxLen w (n + y.size) cap e (by simp only [maxLen]; omega)
 have hr := Lib.run_append_grow_string (P := P) (w := w) t u ty e i (.int .u8 0) ht hu hi hz b n cap olds (by rw [hsize]; omega) holds y hg (by omega) (growslice_fits hg (by rw [hby]; omega))
 refine ⟨_, _, hr, ⟨hlen, .inr ⟨w.heap.size, _, _, rfl, Nat.le_refl _, heap_alloc_new w.drew _, hge, hcm, ?_, ?_⟩⟩, ⟨rfl, rfl, rfl, by simp, fun k hk _ => heap_alloc_old w.drew _ hk⟩⟩
 ·simp only [Array.size_append, List.size_toArray, size_zeroCells, hlo, hsl]
  simp [Value.cells]
  omega
 ·simp only [Array.toList_append, Nat.mul_one]
  rw [List.take_left' (by simpa using hlen)]
theorem RL_append_rows (d_ : Kd Int) {w0 W : World} (base : Nat) (hgd : o.guard = none) (s x : Operand) (t e : TypeId) (z : Value) (bytes : Nat)
  (ho : o.op = .call { callee := .builtin .append, args := #[s, x], argTypes := #[t, t] })
  (ht : P.underlying t = some (.slice e)) (hinfo : (P.info? e).map (fun i => (i.zero, i.size, i.bytes)) = some (some (.int .u8 0), 1, 1))
  (v : Value) (xs ys : List Int) (A : Option Addr) (m c : Nat) (ok : Nat → Prop) (hs : a.eval s = v) (hx : a.eval x = .slice A m c)
  (HO : RL e W base ok v xs) (HR : (Kd.int .u8).C W A m ys) (hfresh : ∀ k, W.heap.size ≤ k → ok k)
  (HB : Below base w0 W) (hbase : base ≤ W.heap.size) (hl : (xs.length + m) * 1 ≤ 140737488355328)
  (h : ∀ v1 w1, RL e w1 base ok v1 (xs ++ ys) → Below base w0 w1 → W.grownBy w1 v.ownBlock → (v1.ownBlock = v.ownBlock ∨ ∃ b, v1.ownBlock = some b ∧ W.heap.size ≤ b) → wpList P ops Q rest (a.put o.dst v1) w1) :
  wpList P ops Q (o :: rest) a W := by
 obtain ⟨i0, hi, hzz⟩ := Option.map_eq_some_iff.1 hinfo
 simp only [Prod.mk.injEq] at hzz
 obtain ⟨hz0, hz1, hz2⟩ := hzz
 rcases HO with HO | ⟨g, rfl, hg1, hg2, hg3, hg4⟩
 ·exact Kd.R_append_row (Value.int .u8) (0 : Int) (h1 := fun _ => rfl) base hgd s x t e (.int .u8 0) 1 ho ht hinfo rfl (by omega) v xs ys A m c ok hs hx hfresh HO HR HB hbase (by omega) (fun v1 w1 q1 q2 q3 q4 => h v1 w1 (.inl q1) q2 q3 q4)
 ·have HRR := Kd.reads_of_C (d := (0 : Int)) (h1 := fun _ => rfl) HR
  have hm : ys.length = m := HRR.1
  have hrun : ∃ v1 w1, (Builtin.append_ #[t, t] o.type #[.slice (some ⟨g, 0, none⟩) xs.length xs.length, .slice A m c]).run P W = .ok v1 w1 ∧ RL e w1 base ok v1 (xs ++ ys) ∧ W.grownBy w1 (some g) ∧ (v1.ownBlock = some g ∨ ∃ b, v1.ownBlock = some b ∧ W.heap.size ≤ b) := by
   rcases Nat.eq_zero_or_pos m with h0 | h0
   ·subst h0
    obtain rfl : ys = [] := List.eq_nil_of_length_eq_zero hm
    refine ⟨.slice (some ⟨g, 0, none⟩) xs.length xs.length, W, ?_, by rw [List.append_nil]; exact .inr ⟨g, rfl, hg1, hg2, hg3, hg4⟩, World.grownBy.refl W _, .inl rfl⟩
    cases A with
    | none => simp [Builtin.append_, run_underlying ht, sizeOf, typeInfo, hi, Builtin.lenOf, Builtin.firstCells, storeCells]
    | some ad =>
     have hr := run_append_room_cells (P := P) (w := W) t o.type e i0 ht hi g 0 xs.length xs.length ad 0 c [] (by simp) (fun j u hu => by simp at hu) (fun u hu => by simp at hu) (by omega) (fun j hj => by simp at hj) (fun j hj => by simp at hj)
     exact hr
   ·obtain ⟨ad, rfl, hc⟩ := HRR.2.2 h0
    obtain ⟨v', w', hr, hown, hgr⟩ := run_append_arg_grows (P := P) (w := W) t o.type e i0 (.int .u8 0) 1 1 ht hi hz0 hz1 hz2 rfl (by omega) ⟨g, 0, none⟩ xs.length xs.length (encs (Value.int .u8) xs) (by simp [encs])
     (RL_cells hg4) ad m c (encs (Value.int .u8) ys) (by simp [encs, hm])
     (fun j u hu => by
      have hj : j < ys.length := by
       rcases Nat.lt_or_ge j ys.length with h | h
       ·exact h
       ·simp [encs, List.getElem?_eq_none h] at hu
      rw [encs_get (d := (0 : Int)) ys j hj] at hu
      rw [← hu]
      exact hc j (by omega)) (by omega) (by simp only [maxLen]; omega) (by omega)
    have he : encs (Value.int .u8) xs ++ encs (Value.int .u8) ys = encs (Value.int .u8) (xs ++ ys) := by simp [encs]
    rw [he] at hown
    refine ⟨v', w', hr, .inl (Kd.R_of_own (by rw [List.length_append, hm]; exact own_weaken hown hbase) (fun k hk => hfresh k (own_base hown k hk))), ⟨hgr.os, hgr.tape, hgr.output, hgr.size, fun k hk _ => hgr.block k hk (by simp)⟩, ?_⟩
    rcases own_base' hown with h1 | ⟨k, h1, h2⟩
    ·rcases hown.2 with ⟨_, h3⟩ | ⟨gg, cap, cur, rfl, hb2, _⟩
     ·omega
     ·simp [Value.ownBlock] at h1
    ·exact .inr ⟨k, h1, h2⟩
  obtain ⟨v1, w1, hr, hR, hg, hat⟩ := hrun
  refine wpList_plain hgd fun K hK => ?_
  unfold Oper.wp execOp
  simp only [ho, resolve, invoke, builtin, Sem.run_bind, Sem.run_pure, Result.andThen_ok, List.map_toArray, List.map_cons, List.map_nil, hs, hx, hr]
  exact hK _ _ (h v1 w1 hR (HB.grown hg hbase (fun k hk => by obtain rfl := Option.some.inj hk; exact hg1)) hg hat)
theorem RL_append_str {w0 W : World} (base : Nat) (hgd : o.guard = none) (s x : Operand) (t u e : TypeId)
  (ho : o.op = .call { callee := .builtin .append, args := #[s, x], argTypes := #[t, u] })
  (ht : P.underlying t = some (.slice e)) (hu : P.underlying u = some .string) (hinfo : (P.info? e).map (fun i => (i.zero, i.size, i.bytes)) = some (some (.int .u8 0), 1, 1))
  (v : Value) (xs : List Int) (y : ByteArray) (ok : Nat → Prop) (hs : a.eval s = v) (hx : a.eval x = .string y)
  (HO : RL e W base ok v xs) (hfresh : ∀ k, W.heap.size ≤ k → ok k) (HB : Below base w0 W) (hbase : base ≤ W.heap.size) (hl : xs.length + y.size ≤ 140737488355328) (hy : 0 < y.size)
  (h : ∀ v1 w1, (Kd.int .u8).R e w1 base ok v1 (xs ++ Go.Proofs.YtklpephnbkoinaaDoorW.PrintWords.bytesOf y) → Below base w0 w1 → W.grownBy w1 v.ownBlock → (v1.ownBlock = v.ownBlock ∨ ∃ b, v1.ownBlock = some b ∧ W.heap.size ≤ b) → wpList P ops Q rest (a.put o.dst v1) w1) :
  wpList P ops Q (o :: rest) a W := by
 rcases HO with HO | ⟨g, rfl, hg1, hg2, hg3, hg4⟩
 ·exact R_append_str base hgd s x t u e ho ht hu hinfo v xs y ok hs hx HO hfresh HB hbase (by omega) h
 ·obtain ⟨i0, hi, hzz⟩ := Option.map_eq_some_iff.1 hinfo
  simp only [Prod.mk.injEq] at hzz
  obtain ⟨hz0, hz1, hz2⟩ := hzz
  obtain ⟨v', w', hr, hown, hgr⟩ := str_grows (P := P) (w := W) t u o.type e i0 ht hu hi hz0 hz1 hz2 ⟨g, 0, none⟩ xs.length xs.length (encs (Value.int .u8) xs) (by simp [encs]) (RL_cells hg4) y (by omega) (by omega)
  have hc : encs (Value.int .u8) (xs ++ Go.Proofs.YtklpephnbkoinaaDoorW.PrintWords.bytesOf y) = encs (Value.int .u8) xs ++ Lib.strCells y := by
   unfold encs
   rw [List.map_append]
   congr 1
   simp [Go.Proofs.YtklpephnbkoinaaDoorW.PrintWords.bytesOf, Lib.strCells]
  refine wpList_plain hgd fun K hK => ?_
  unfold Oper.wp execOp
  simp only [ho, resolve, invoke, builtin, Sem.run_bind, Sem.run_pure, Result.andThen_ok, List.map_toArray, List.map_cons, List.map_nil, hs, hx, hr]
  refine hK _ _ (h v' w' (Kd.R_of_own ?_ (fun k hk => hfresh k (own_base hown k hk))) (HB.grown hgr hbase (fun k hk => by cases hk)) ⟨hgr.os, hgr.tape, hgr.output, hgr.size, fun k hk _ => hgr.block k hk (by simp)⟩ ?_)
  ·rw [List.length_append, bytesOf_length, hc]
   exact own_weaken hown hbase
  ·rcases own_base' hown with h1 | ⟨k, h1, h2⟩
   ·rcases hown.2 with ⟨_, h3⟩ | ⟨gg, cap, cur, rfl, hb2, _⟩
    ·omega
    ·simp [Value.ownBlock] at h1
   ·exact .inr ⟨k, h1, h2⟩
end
end Go.Proofs.YtklpephnbkoinaaDoor.P
