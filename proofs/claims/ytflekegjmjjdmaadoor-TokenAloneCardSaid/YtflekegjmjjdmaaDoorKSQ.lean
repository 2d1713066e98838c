/- Part of the proof: what the theorem needs of this text. -/
import Derived.Test.YtflekegjmjjdmaaDoorMW1
import Derived.Test.YtflekegjmjjdmaaDoorProg
import Derived.WalkKit
import Derived.KernelRfl
import Derived.OrdersHeld
namespace Go.Proofs.YtflekegjmjjdmaaDoor.P
set_option linter.unusedSimpArgs false
set_option linter.unusedVariables false
open Go.RowKit Go.Proofs.YtflekegjmjjdmaaDoorW.PrintWords Go.Proofs.YtflekegjmjjdmaaDoorW.PrintLast Go.Proofs.YtflekegjmjjdmaaDoorW.PrintMore
/-- which of n are listed, as_ bits -/
def bm (n k : Nat) : Array Bool := ((List.range n).map fun i => k.testBit i).toArray
theorem dt {p : Prop} [Decidable p] (h : decide p = true := by first | (with_reducible assumption) | assumption) : p := of_decide_eq_true h
theorem sR {α : Sort _} {a b : α} (h : a = b := by first | rfl | (simp; done) | (simp [*]; done)) : a = b := h
theorem eR {α : Sort _} {a b : α} (h : a = b := by first | rfl | (simp [errW_none, errW_some] <;> rfl) | (simp [*, errW_none, errW_some] <;> rfl)) : a = b := h
theorem gA {α : Sort _} {a b : α} (h : a = b := by (try simp only [List.map_toArray, List.map_cons, List.map_nil]); first | done | rfl | (simp only [List.length_drop, List.length_take]; rfl)) : a = b := h
theorem bAt {B : Nat} {w W W' : World} (h : Below B w W) (hq : Below B w W → Below B w W' := by intro h_; repeat (first | (with_reducible first | exact h_ | apply below_alloc | apply pw_below_drewN | apply below_drew1 | refine below_set ?_ (Aside0.out (by assumption))) | exact h_)) : Below B w W' := hq h
theorem kAt {W W' : World} {g : Nat} {o : Obj} (h : W.heap[g]? = some o) (hq : W.heap[g]? = some o → W'.heap[g]? = some o := by intro h_; (with_reducible repeat (first | refine blk_drewN ?_ _ | refine blk_drew ?_ | refine blk_alloc ?_ _)); exact h_) : W'.heap[g]? = some o := hq h
section
variable {α : Type} {d : Kd α} {e : Nat} {W W' : World} {base : Nat} {ok : Nat → Prop} {v : Value} {xs : List α}
theorem RAt (h : Kd.R d e W base ok v xs) (hq : Kd.R d e W base ok v xs → Kd.R d e W' base ok v xs := by intro h_; (with_reducible repeat (first | apply Kd.R_alloc | apply Kd.R_drewN | apply Kd.R_drew)); exact h_) : Kd.R d e W' base ok v xs := hq h
theorem VAt (h : Kd.V d e W base ok v xs) (hq : Kd.V d e W base ok v xs → Kd.V d e W' base ok v xs := by intro h_; (with_reducible repeat (first | apply Kd.V_alloc | apply Kd.V_drewN | apply Kd.V_drew)); exact h_) : Kd.V d e W' base ok v xs := hq h
end
section
variable {P : Program} {ops : Array Oper} {Q : Exit → Act → World → Prop} {md : Region.Mode} {S : World → Prop} {ds : List Nat} {T : Bool × List (List Nat × List Nat)}
theorem pv_ {oi : Oper} {v : Value} {fuel : Nat} {l : Array Bool} {a a' : Act} {w : World} (i : Nat) (N : Option Tmp) (l' : Array Bool) (hT : rtab md ops = T) (h : wpAnyLast P md ops Q S ds fuel l' a' w)
  (hi : ops[i]? = some oi := by rfl) (hN : oi.dst = N := by rfl) (hc : anyT T l.toList l'.toList i = true := by kernel_rfl) (hQ : ∀ c a w, Q (.panic c) (a.put oi.dst v) w → Q (.panic c) a w := by exact fun _ _ _ h => h) (hy : Yields P ops oi v a := by (refine Or.inl ⟨by rfl, ?_⟩; intro w'; go_simp; with_reducible rfl)) (ha : a.put N v = a' := by (simp only [Act.put, List.setIfInBounds_toArray, List.set_cons_zero, List.set_cons_succ, i64_w, i32_w]; rfl)) :
  wpAnyLast P md ops Q S ds (fuel + 1) l a w := pure_ l' hi hN (any_of hT hc) hQ hy ha h
theorem pu_ {oi : Oper} {fuel : Nat} {l : Array Bool} {a a' : Act} {w : World} (i : Nat) (N : Option Tmp) (l' : Array Bool) (hT : rtab md ops = T) (h : wpAnyLast P md ops Q S ds fuel l' a' w)
  (hi : ops[i]? = some oi := by rfl) (hN : oi.dst = N := by rfl) (hc : anyT T l.toList l'.toList i = true := by kernel_rfl) (hQ : ∀ c a w, Q (.panic c) (a.put oi.dst undef) w → Q (.panic c) a w := by exact fun _ _ _ h => h) (hy : Yields P ops oi undef a := by exact Or.inr ⟨by rfl, rfl⟩) (ha : a.put N undef = a' := by (simp only [Act.put, List.setIfInBounds_toArray, List.set_cons_zero, List.set_cons_succ, i64_w, i32_w]; rfl)) :
  wpAnyLast P md ops Q S ds (fuel + 1) l a w := pure_ l' hi hN (any_of hT hc) hQ hy ha h
theorem tk_ {B : List Nat} {oi : Oper} {v : Value} {fuel : Nat} {l : Array Bool} {a a' : Act} {w : World} (i : Nat) (N : Option Tmp) (l' : Array Bool) (hT : rtab md ops = T) (hB : waitsOk T.2 B = true) (hS : S w) (h : wpAnyLast P md ops Q S ds fuel l' a' w)
  (hi : ops[i]? = some oi := by rfl) (hN : oi.dst = N := by rfl) (hc : takeW T B ds l.toList l'.toList i = true := by kernel_rfl) (hQ : ∀ c a w, Q (.panic c) (a.put oi.dst v) w → Q (.panic c) a w := by exact fun _ _ _ h => h) (hy : YieldsIf P ops S oi v a := by (refine Or.inl ⟨by rfl, ?_⟩; intro w' hs_; (repeat (obtain ⟨_, hs_⟩ := hs_)); go_simp; with_reducible rfl)) (ha : a.put N v = a' := by (simp only [Act.put, List.setIfInBounds_toArray, List.set_cons_zero, List.set_cons_succ, i64_w, i32_w]; rfl)) :
  wpAnyLast P md ops Q S ds (fuel + 1) l a w := take_ l' hi hN (take_ofW hT hB hc) hQ hy hS ha h
end
theorem blk3 {w : World} {g : Nat} {t : TypeId} {a0 a1 a2 : Value} (h : w.heap[g]? = some (.cells #[a0, a1, a2] t (0, 0))) : w.cell? ⟨g, 0, none⟩ = some a0 ∧ w.cell? ⟨g, 1, none⟩ = some a1 ∧ w.cell? ⟨g, 2, none⟩ = some a2 ∧ w.frozen? ⟨g, 0, none⟩ = false ∧ w.frozen? ⟨g, 1, none⟩ = false ∧ w.frozen? ⟨g, 2, none⟩ = false := ⟨(blk_cell h 0).trans rfl, (blk_cell h 1).trans rfl, (blk_cell h 2).trans rfl, blk_frozen h 0, blk_frozen h 1, blk_frozen h 2⟩
theorem blk5 {w : World} {g : Nat} {t : TypeId} {a0 a1 a2 a3 a4 : Value} (h : w.heap[g]? = some (.cells #[a0, a1, a2, a3, a4] t (0, 0))) : w.cell? ⟨g, 0, none⟩ = some a0 ∧ w.cell? ⟨g, 1, none⟩ = some a1 ∧ w.cell? ⟨g, 2, none⟩ = some a2 ∧ w.cell? ⟨g, 3, none⟩ = some a3 ∧ w.cell? ⟨g, 4, none⟩ = some a4 ∧ w.frozen? ⟨g, 0, none⟩ = false ∧ w.frozen? ⟨g, 1, none⟩ = false ∧ w.frozen? ⟨g, 2, none⟩ = false ∧ w.frozen? ⟨g, 3, none⟩ = false ∧ w.frozen? ⟨g, 4, none⟩ = false := ⟨(blk_cell h 0).trans rfl, (blk_cell h 1).trans rfl, (blk_cell h 2).trans rfl, (blk_cell h 3).trans rfl, (blk_cell h 4).trans rfl, blk_frozen h 0, blk_frozen h 1, blk_frozen h 2, blk_frozen h 3, blk_frozen h 4⟩
theorem bE {α β : Type} {o : Option α} {f : α → Option β} {r : β} (H : o.bind f = some r) : ∃ t, Aside0 (o = some t) ∧ f t = some r := by
 obtain ⟨t, h, k⟩ := Option.bind_eq_some_iff.mp H
 exact ⟨t, ⟨h⟩, k⟩
theorem tP {α : Type} {i : Decidable (true = true)} {t e r : α} (H : @ite α (true = true) i t e = r) : t = r := (if_pos rfl).symm.trans H
theorem fP {α : Type} {i : Decidable (false = true)} {t e r : α} (H : @ite α (false = true) i t e = r) : e = r := (if_neg Bool.false_ne_true).symm.trans H
theorem nB {p : Prop} {α : Type} {c : Prop} {i : Decidable c} {t : Option α} {r : α} (H : @ite (Option α) c i t none = some r) (h : ¬ c) : p := by
 rw [if_neg h] at H; exact absurd H (by simp)
theorem eqB {α : Type} [BEq α] [LawfulBEq α] {a b : α} (h : a = b) : (a == b) = true ∧ (a != b) = false := ⟨beq_iff_eq.mpr h, bne_eq_false_iff_eq.mpr h⟩
theorem neB {α : Type} [BEq α] [LawfulBEq α] {a b : α} (h : ¬ a = b) : (a == b) = false ∧ (a != b) = true := ⟨beq_eq_false_iff_ne.mpr h, bne_iff_ne.mpr h⟩
theorem gE {w W W1 : World} {g : Nat} (hg : g = W1.heap.size) (h : Below w.heap.size w W) (hq : Below w.heap.size w W → Below w.heap.size w W1 := by intro h_; exact bAt h_) : w.heap.size ≤ g := by rw [hg]; exact below_size (hq h)
theorem mM {a n : Nat} (h : a ≤ n := by have h_ := of_decide_eq_true (by assumption); omega) : min a n = a := Nat.min_eq_left h
theorem gD {β α : Type _} {a b : α} (l : List β) (n : Nat) (hq : (l.drop n).length = l.length - n → a = b := by intro hl_; (try simp only [List.map_toArray, List.map_cons, List.map_nil]); first | done | (rw [hl_] <;> rfl) | rfl | (simp only [List.length_drop, List.length_take]; rfl)) : a = b := hq List.length_drop
theorem bP {w W : World} {g : Nat} {t : TypeId} {cs' : Array Value} {u : Value} (cs : Array Value) (i : Nat) (h : w.heap[g]? = some (.cells cs t (0, 0))) (hq : (w.setCell ⟨g, i, none⟩ u).heap[g]? = some (.cells cs' t (0, 0)) → W.heap[g]? = some (.cells cs' t (0, 0)) := by intro h_; (with_reducible repeat (first | refine blk_drewN ?_ _ | refine blk_drew ?_ | refine blk_alloc ?_ _)); exact h_) (e : cs.setIfInBounds i u = cs' := by rfl) : W.heap[g]? = some (.cells cs' t (0, 0)) := hq (blk_put h i u e)
theorem kq {W W1 W' : World} {g : Nat} {o : Obj} (h : Aside0 (W.heap[g]? = some o)) (e : W1 = W') (hq : W.heap[g]? = some o → W1.heap[g]? = some o := by intro h_; exact kAt h_) : Aside0 (W'.heap[g]? = some o) := ⟨e ▸ hq h.out⟩
section
variable {α : Type} {d : Kd α} {W W' : World} {xs : List α} {A : Option Addr} {n : Nat}
theorem CAt (h : Kd.C d W A n xs) (hq : Kd.C d W A n xs → Kd.C d W' A n xs := by intro h_; repeat (first | exact h_ | (with_reducible refine Kd.C_alloc ?_ _) | (with_reducible refine Kd.C_drewN ?_ _) | (with_reducible refine Kd.C_drew ?_))) : Kd.C d W' A n xs := hq h
end
section
variable {P : Program} {ops : Array Oper} {Q : Exit → Act → World → Prop}
theorem gL {rest : List Oper} {oi : Oper} {a : Act} {w : World} (N : Option Tmp) {f : FuncId} {fn : Func} (hf : P.funcs[f]? = some fn) (args : Array Value) {as_ : Array Operand} {ts : Array TypeId}
  (hop : oi.op = .call { callee := .value (.func f), args := as_, argTypes := ts }) (hargs : as_.map a.eval = args)
  (h : Calls P f args w fun e w' => ∃ v, e = .returned v ∧ wpList P ops Q rest (a.put N v) w') (hd : oi.dst = N := by rfl) (hg : oi.guard = none := by rfl) (hname : (fn.name == "runtime.NumGoroutine") = false := by kernel_rfl) (hb : fn.body.isSome = true := by rfl) : wpList P ops Q (oi :: rest) a w := goesL_ N hd hg hf hname hb args hop hargs h
end
end Go.Proofs.YtflekegjmjjdmaaDoor.P
