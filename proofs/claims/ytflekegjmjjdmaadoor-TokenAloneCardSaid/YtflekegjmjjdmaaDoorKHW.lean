/- Part of the proof: what the theorem needs of this text. -/
import Derived.Test.YtflekegjmjjdmaaDoorMW1
import Derived.Test.YtflekegjmjjdmaaDoorProg
import Derived.WalkKit
import Derived.Laws.IdiomStrings
import Derived.KernelRfl
import Derived.WalkMore
import Derived.Lib.AppendStr
namespace Go.Proofs.YtflekegjmjjdmaaDoor.P
set_option linter.unusedSimpArgs false
set_option linter.unusedVariables false
open Go.RowKit Go.Proofs.YtflekegjmjjdmaaDoorW.PrintWords Go.Proofs.YtflekegjmjjdmaaDoorW.PrintLast Go.Proofs.YtflekegjmjjdmaaDoorW.PrintMore
section
variable {P : Program}
/-- A conversion of a fresh row of bytes to its own type: the row gets the run-time's mark. -/
theorem run_convert_lit (w : World) (t e : TypeId) (C : Array Value) (n c : Nat) (ht : P.underlying t = some (.slice e)) (he : P.underlying e = some (.int .u8)) :
  (convert t t (.slice (some ⟨w.heap.size, 0, none⟩) n c)).run P (w.alloc (.cells C e)) = .ok (.slice (some ⟨w.heap.size, 0, none⟩) n c) (w.alloc (.cells C e (C.size, C.size + 1))) := by
 have hsh : (w.alloc (.cells C e)).shape? w.heap.size = some (e, C.size) := by
  have : (w.alloc (.cells C e)).heap[w.heap.size]? = some (.cells C e) := by
   show (w.heap.push (.cells C e))[w.heap.size]? = _
   simp
  unfold World.shape?
  rw [this]
 have hfr : ∀ (k : Nat), (w.alloc (.cells C e)).freeze ⟨w.heap.size, k, none⟩ 1 = w.alloc (.cells C e (k, k + 1)) := fun k => by
  have hm : ∀ (a : Array Obj) (x : Obj) (f : Obj → Obj), (a.push x).modify a.size f = a.push (f x) := by
   intro a x f
   apply Array.ext
   ·simp
   ·intro i h1 h2
    simp only [Array.getElem_modify, Array.getElem_push]
    by_cases h : a.size = i
    ·subst h
     simp
    ·have hi : i < a.size := by simp at h1; omega
     simp [h, hi]
  unfold World.freeze
  rw [if_neg (by decide)]
  show ({ w.alloc (.cells C e) with heap := (w.heap.push (.cells C e)).modify w.heap.size _ } : World) = _
  rw [hm]
  rfl
 simp [convert, run_underlying ht, run_underlying he, markStringish, hsh]
 exact hfr _
theorem alloc_new (w : World) (o : Obj) : (w.alloc o).heap[w.heap.size]? = some o := by
 show (w.heap.push o)[w.heap.size]? = _
 simp
/-- The row of a marked literal, as_ what is only read. -/
theorem V_marked (W : World) (e base : Nat) (xs : List Int) (fr : Nat × Nat) (hm : xs.length ≤ 9223372036854775807) :
  Kd.V (Kd.int .u8) e (W.alloc (.cells (xs.map (Value.int .u8)).toArray e fr)) base (fun k => W.heap.size ≤ k) (.slice (some ⟨W.heap.size, 0, none⟩) xs.length xs.length) xs := by
 refine ⟨_, _, rfl, Nat.le_refl _, ?_⟩
 intro W' hW
 have hb : W'.heap[W.heap.size]? = some (.cells (xs.map (Value.int .u8)).toArray e fr) := by
  rw [← alloc_new W (.cells (xs.map (Value.int .u8)).toArray e fr)]
  exact hW _ (Nat.le_refl _) (by simp)
 refine Kd.C_of_reads (d := (0 : Int)) (h1 := fun _ => rfl) ⟨rfl, hm, fun _ => ⟨_, rfl, fun j hj => ?_⟩⟩
 have hadd : (⟨W.heap.size, 0, none⟩ : Addr).add j = ⟨W.heap.size, j, none⟩ := by unfold Addr.add; split <;> simp_all
 rw [hadd, cell_of_row _ _ j _ _ _ hb]
 simp [List.getD_eq_getElem?_getD, hj]
/-- A string made of a row that is only read. -/
theorem V_string {w : World} {src dst e b : TypeId} {base : Nat} {ok : Nat → Prop} {v : Value} {xs : List Int} (hs : P.underlying src = some (.slice e)) (he : P.underlying e = some (.int .u8)) (hd : P.underlying dst = some .string)
  (h : Kd.V (Kd.int .u8) b w base ok v xs) : (convert src dst v).run P w = .ok (.string (strOfNums xs)) w := by
 obtain ⟨A, c, rfl, hl, hf⟩ := h
 exact Kd.C_string hs he hd (hf w (fun _ _ _ => rfl))
theorem C_cast {α : Type} {d : Kd α} {w : World} {A : Option Addr} {n m : Nat} {xs : List α} (e : n = m) (h : Kd.C d w A n xs) : Kd.C d w A m xs := e ▸ h
variable {ops : Array Oper} {rest : List Oper} {o o2 : Oper} {a : Act} {Q : Exit → Act → World → Prop}
/-- A literal and its conversion behind it, '[]byte("..")': one step. -/
theorem V_lits {w0 W : World} (base e : Nat) (hgd : o.guard = none) {N : Tmp} (_hd : o.dst = some N) {xs : List Int}
  (hrun : (execOp a.eval o).run P W = .ok (.value (.slice (some ⟨W.heap.size, 0, none⟩) xs.length xs.length)) (W.alloc (.cells (xs.map (Value.int .u8)).toArray e)))
  (hw2 : Region.wanted o2 (yielded ops (a.put o.dst (.slice (some ⟨W.heap.size, 0, none⟩) xs.length xs.length)).tmps) = true)
  (hrun2 : (execOp (a.put o.dst (.slice (some ⟨W.heap.size, 0, none⟩) xs.length xs.length)).eval o2).run P (W.alloc (.cells (xs.map (Value.int .u8)).toArray e)) = .ok (.value (.slice (some ⟨W.heap.size, 0, none⟩) xs.length xs.length)) (W.alloc (.cells (xs.map (Value.int .u8)).toArray e (xs.length, xs.length + 1))))
  (HB : Below base w0 W) (hbase : base ≤ W.heap.size) (hm : xs.length ≤ 9223372036854775807)
  (h : ∀ v1 w1, Kd.V (Kd.int .u8) e w1 base (fun k => W.heap.size ≤ k) v1 xs → Below base w0 w1 → W.grownBy w1 none → (∃ b, v1.ownBlock = some b ∧ W.heap.size ≤ b) → wpList P ops Q rest ((a.put o.dst v1).put o2.dst v1) w1) :
  wpList P ops Q (o :: o2 :: rest) a W := by
 refine Kd.event_run hgd hrun ?_
 refine wpList_step fun K hK => ?_
 rw [if_pos hw2]
 unfold Oper.wp
 rw [hrun2]
 exact hK _ _ (h _ _ (V_marked W e base xs _ hm) (HB.alloc hbase _) (World.grownBy_alloc W _ none) ⟨W.heap.size, by simp [Value.ownBlock], Nat.le_refl _⟩)
/-- The same, the two runs shown at any world. -/
theorem V_litsG {w0 W : World} (base e : Nat) (hgd : o.guard = none) {N : Tmp} (_hd : o.dst = some N) {xs : List Int}
  (hrun : ∀ W : World, (execOp a.eval o).run P W = .ok (.value (.slice (some ⟨W.heap.size, 0, none⟩) xs.length xs.length)) (W.alloc (.cells (xs.map (Value.int .u8)).toArray e)))
  (hw2 : Region.wanted o2 (yielded ops (a.put o.dst (.slice (some ⟨W.heap.size, 0, none⟩) xs.length xs.length)).tmps) = true)
  (hrun2 : ∀ W : World, (execOp (a.put o.dst (.slice (some ⟨W.heap.size, 0, none⟩) xs.length xs.length)).eval o2).run P (W.alloc (.cells (xs.map (Value.int .u8)).toArray e)) = .ok (.value (.slice (some ⟨W.heap.size, 0, none⟩) xs.length xs.length)) (W.alloc (.cells (xs.map (Value.int .u8)).toArray e (xs.length, xs.length + 1))))
  (HB : Below base w0 W) (hbase : base ≤ W.heap.size) (hm : xs.length ≤ 9223372036854775807)
  (h : ∀ v1 w1, Kd.V (Kd.int .u8) e w1 base (fun k => W.heap.size ≤ k) v1 xs → Below base w0 w1 → W.grownBy w1 none → (∃ b, v1.ownBlock = some b ∧ W.heap.size ≤ b) → wpList P ops Q rest ((a.put o.dst v1).put o2.dst v1) w1) :
  wpList P ops Q (o :: o2 :: rest) a W :=
 V_lits base e hgd _hd (hrun W) hw2 (hrun2 W) HB hbase hm h
/-- '[]byte(s)' of a string that is no constant: a row that is only read. -/
theorem V_bytes {w0 W : World} (base e : Nat) (hgd : o.guard = none) {N : Tmp} (_hd : o.dst = some N) {src dst : TypeId} {x : Operand} (ho : o.op = .convert src dst x) {s : ByteArray} (hx : a.eval x = .string s)
  (hsrc : P.underlying src = some .string) (hdst : P.underlying dst = some (.slice e)) (he : P.underlying e = some (.int .u8)) (hm : s.size ≤ 9223372036854775807) (HB : Below base w0 W) (hbase : base ≤ W.heap.size)
  (h : ∀ v1 w1, Kd.V (Kd.int .u8) e w1 base (fun k => W.heap.size ≤ k) v1 (Go.Proofs.YtflekegjmjjdmaaDoorW.PrintWords.bytesOf s) → Below base w0 w1 → W.grownBy w1 none → (∃ b, v1.ownBlock = some b ∧ W.heap.size ≤ b) → wpList P ops Q rest (a.put o.dst v1) w1) :
  wpList P ops Q (o :: rest) a W := by
 have hr := run_bytes_of_string (P := P) W src dst e s hsrc hdst he
 have hrun : (execOp a.eval o).run P W = .ok (.value (.slice (some ⟨W.heap.size, 0, none⟩) s.size (grownCap W s.size 0 e))) (W.drew.alloc (.cells (bytesRow s (grownCap W s.size 0 e)) e ((bytesRow s (grownCap W s.size 0 e)).size, (bytesRow s (grownCap W s.size 0 e)).size + 1))) := by
  unfold execOp
  simp only [ho, hx, Sem.run_bind, hr, Result.andThen_ok, Sem.run_pure]
 refine Kd.event_run hgd hrun ?_
 have hlen : (Go.Proofs.YtflekegjmjjdmaaDoorW.PrintWords.bytesOf s).length = s.size := bytesOf_length s
 have hge := grownCap_ge W s.size 0 e
 refine h _ _ ?_ ((HB.drew).alloc hbase _) (World.grownBy.trans (⟨rfl, rfl, rfl, Nat.le_refl _, fun _ _ _ => rfl⟩ : W.grownBy W.drew none) (World.grownBy_alloc W.drew _ none)) ⟨W.heap.size, by simp [Value.ownBlock], Nat.le_refl _⟩
 refine ⟨_, _, by rw [hlen], by rw [hlen]; exact hge, ?_⟩
 intro W' hW
 have hb : W'.heap[W.heap.size]? = some (.cells (bytesRow s (grownCap W s.size 0 e)) e ((bytesRow s (grownCap W s.size 0 e)).size, (bytesRow s (grownCap W s.size 0 e)).size + 1)) := by
  rw [← alloc_new W.drew (.cells (bytesRow s (grownCap W s.size 0 e)) e ((bytesRow s (grownCap W s.size 0 e)).size, (bytesRow s (grownCap W s.size 0 e)).size + 1))]
  exact hW _ (Nat.le_refl _) (by simp)
 refine Kd.C_of_reads (d := (0 : Int)) (h1 := fun _ => rfl) ⟨rfl, by rw [hlen]; exact hm, fun _ => ⟨_, rfl, fun j hj => ?_⟩⟩
 have hadd : (⟨W.heap.size, 0, none⟩ : Addr).add j = ⟨W.heap.size, j, none⟩ := by unfold Addr.add; split <;> simp_all
 rw [hadd, cell_of_row _ _ j _ _ _ hb]
 rw [hlen] at hj
 have hj2 : j < s.data.size := hj
 simp [bytesRow, Go.Proofs.YtflekegjmjjdmaaDoorW.PrintWords.bytesOf, List.getD_eq_getElem?_getD, Array.getElem?_append]
 rw [if_pos hj, Array.getElem?_eq_getElem hj2]
 rfl
end
end Go.Proofs.YtflekegjmjjdmaaDoor.P
