/- Part of the proof: what the theorem needs of this text. -/
import Derived.Test.YtflekegjmjjdmaaDoorMW1
import Derived.Test.YtflekegjmjjdmaaDoorProg
import Derived.WalkKit
import Derived.KernelRfl
import Derived.WideMake
namespace Go.Proofs.YtflekegjmjjdmaaDoor.P
set_option linter.unusedSimpArgs false
set_option linter.unusedVariables false
open Go.RowKit Go.Proofs.YtflekegjmjjdmaaDoorW.PrintWords Go.Proofs.YtflekegjmjjdmaaDoorW.PrintLast Go.Proofs.YtflekegjmjjdmaaDoorW.PrintMore
/-- a name's closure: where its kind lies -/
def namedAt (g : Nat) : Value := .func (.func 40) #[] #[.pointer (some ⟨g, 0, none⟩)]
set_option maxHeartbeats 1000000 in
set_option maxRecDepth 100000 in
theorem token_named.calls (kd : Int) (w : World) :
  Calls Tryd.prog 23 #[.int .i64 kd] w fun e w' => e = .returned (namedAt w.heap.size) ∧ w' = w.alloc (.cells #[.int .i64 kd] 3) := by
 have hmf : ∀ (fn : Fn) (first cap : Array Value) (w : World), (Instr.makeFunc fn first cap).run Tryd.prog w = .ok (.func fn first cap) w := fun _ _ _ _ => rfl
 go_enter Tryd.func23, Tryd.ntmps23
 go_wp2
 go_ret
 exact ⟨rfl, rfl⟩
/-- an entry laid -/
def upd (W : World) (r : Nat) (o : Obj) : World := { W with heap := W.heap.setIfInBounds r o }
theorem upd_run {P : Program} {W : World} {t kt et : TypeId} {r c : Nat} {es : Array MapEntry} (ht : P.underlying t = some (.map kt et)) (hk : P.underlying kt = some (.int .i64)) (hb : W.heap[r]? = some (.map es c)) (k : Int) (val : Value)
  (hf : Instr.findNow (.int .i64) (.int .i64 k) es.toList 0 = some none) : (Instr.mapUpdate t (.map (some r)) (.int .i64 k) val).run P W = .ok () (upd W r (.map (es.push { key := .int .i64 k, val := val, born := c }) (c + 1))) := by
 have hc : (Instr.checkKey false 10000 kt (.int .i64 k)).run P W = .ok () W := MapKept.run_checkKey (k := .int .i64 k) hk (by simp [MapKept.IsKey]) false 9999
 simp [Instr.mapUpdate, run_underlying ht, MapKept.run_getObj_map hb, hc, MapKept.run_findKey hk hf, MapKept.run_setObj_map _ hb, Result.andThen, upd]
theorem upd_at {W : World} {r : Nat} {o o' : Obj} (h : W.heap[r]? = some o') : (upd W r o).heap[r]? = some o := (MapKept.heap_set h).1
theorem upd_ne {W : World} {r i : Nat} {o : Obj} (h : i ≠ r) : (upd W r o).heap[i]? = W.heap[i]? := by
 show (W.heap.setIfInBounds r o)[i]? = _
 rw [Array.getElem?_setIfInBounds, if_neg (Ne.symm h)]
theorem upd_size {W : World} {r : Nat} {o : Obj} : (upd W r o).heap.size = W.heap.size := by
 show (W.heap.setIfInBounds r o).size = _
 simp
theorem upd_below {B : Nat} {w W : World} {r : Nat} {o : Obj} (h : Below B w W) (hr : B ≤ r) : Below B w (upd W r o) :=
 ⟨h.os, h.tape, h.output, by rw [upd_size]; exact h.size, fun k hk => by rw [upd_ne (by omega)]; exact h.block k hk⟩
theorem al_new (w : World) (o : Obj) : (w.alloc o).heap[w.heap.size]? = some o := by
 show (w.heap.push o)[w.heap.size]? = _
 simp
theorem al_size (w : World) (o : Obj) : (w.alloc o).heap.size = w.heap.size + 1 := by
 show (w.heap.push o).size = _
 simp
theorem al_old {w : World} {i : Nat} {o o' : Obj} (h : w.heap[i]? = some o') : (w.alloc o).heap[i]? = some o' := by
 show (w.heap.push o)[i]? = _
 have := (Array.getElem?_eq_some_iff.1 h).1
 rw [Array.getElem?_push, if_neg (by omega)]; exact h
/-- the entries -/
def scansOf (g1 g2 : Nat) : Array MapEntry := #[⟨.int .i64 2, namedAt g1, 0⟩, ⟨.int .i64 3, namedAt g2, 1⟩, ⟨.int .i64 9, .func (.func 24) #[] #[], 2⟩, ⟨.int .i64 5, .func (.func 25) #[] #[], 3⟩, ⟨.int .i64 4, .func (.func 26) #[] #[], 4⟩, ⟨.int .i64 7, .func (.func 27) #[] #[], 5⟩, ⟨.int .i64 6, .func (.func 28) #[] #[], 6⟩]
/-- what lies behind 'scans()' -/
def ScansAt (B g : Nat) (W : World) : Prop := ∃ g1 g2, B ≤ g1 ∧ B ≤ g2 ∧ W.heap[g]? = some (.map (scansOf g1 g2) 7) ∧ W.heap[g1]? = some (.cells #[.int .i64 1] 3) ∧ W.heap[g2]? = some (.cells #[.int .i64 3] 3)
set_option maxHeartbeats 2000000 in
set_option maxRecDepth 100000 in
theorem token_scans.calls (w : World) :
  Calls Tryd.prog 15 #[] w fun e w' => e = .returned (.map (some w.heap.size)) ∧ ScansAt w.heap.size w.heap.size w' ∧ Below w.heap.size w w' := by
 have hmm := @run_makeMap_plain Tryd.prog
 go_enter Tryd.func15, Tryd.ntmps15
 go_wp2
 rw [upd_run Tryd.underlying42 Tryd.underlying3 (al_old (al_new w _)) 2 _ rfl]
 simp only [Result.andThen]
 rw [Oper.upon_skip]
 generalize hW1 : (upd _ _ _ : World) = W1
 have m1 : W1.heap[w.heap.size]? = some (.map #[⟨.int .i64 2, namedAt (w.heap.size + 1), 0⟩] 1) := by rw [← hW1]; exact upd_at (al_old (al_new w _))
 have c1 : W1.heap[w.heap.size + 1]? = some (.cells #[.int .i64 1] 3) := by
  rw [← hW1, upd_ne (by omega)]
  have := al_new (w.alloc (.map #[] 0)) (.cells #[.int .i64 1] 3)
  rwa [al_size] at this
 have b1 : Below w.heap.size w W1 := by rw [← hW1]; exact upd_below (((Below.refl _ _).alloc (Nat.le_refl _) _).alloc (by rw [al_size]; omega) _) (Nat.le_refl _)
 have z1 : W1.heap.size = w.heap.size + 2 := by rw [← hW1, upd_size, al_size, al_size]
 clear hW1
 go_wp2
 rw [upd_run Tryd.underlying42 Tryd.underlying3 (al_old m1) 3 _ rfl]
 simp only [Result.andThen]
 rw [Oper.upon_skip]
 generalize hW2 : (upd _ _ _ : World) = W2
 have m2 : W2.heap[w.heap.size]? = some (.map #[⟨.int .i64 2, namedAt (w.heap.size + 1), 0⟩, ⟨.int .i64 3, namedAt (w.heap.size + 2), 1⟩] 2) := by rw [← hW2, ← z1]; exact upd_at (al_old m1)
 have c2 : W2.heap[w.heap.size + 1]? = some (.cells #[.int .i64 1] 3) := by rw [← hW2, upd_ne (by omega)]; exact al_old c1
 have d2 : W2.heap[w.heap.size + 2]? = some (.cells #[.int .i64 3] 3) := by rw [← hW2, upd_ne (by omega), ← z1]; exact al_new _ _
 have b2 : Below w.heap.size w W2 := by rw [← hW2]; exact upd_below (b1.alloc (by omega) _) (Nat.le_refl _)
 clear hW2 m1 c1 b1 z1
 go_wp2
 rw [upd_run Tryd.underlying42 Tryd.underlying3 m2 9 _ rfl]
 simp only [Result.andThen]
 rw [Oper.upon_skip]
 generalize hW3 : (upd _ _ _ : World) = W3
 have m3 : W3.heap[w.heap.size]? = some (.map #[⟨.int .i64 2, namedAt (w.heap.size + 1), 0⟩, ⟨.int .i64 3, namedAt (w.heap.size + 2), 1⟩, ⟨.int .i64 9, .func (.func 24) #[] #[], 2⟩] 3) := by rw [← hW3]; exact upd_at m2
 have c3 : W3.heap[w.heap.size + 1]? = some (.cells #[.int .i64 1] 3) := by rw [← hW3, upd_ne (by omega)]; exact c2
 have d3 : W3.heap[w.heap.size + 2]? = some (.cells #[.int .i64 3] 3) := by rw [← hW3, upd_ne (by omega)]; exact d2
 have b3 : Below w.heap.size w W3 := by rw [← hW3]; exact upd_below b2 (Nat.le_refl _)
 clear hW3 m2 c2 d2 b2
 go_wp2
 rw [upd_run Tryd.underlying42 Tryd.underlying3 m3 5 _ rfl]
 simp only [Result.andThen]
 rw [Oper.upon_skip]
 generalize hW4 : (upd _ _ _ : World) = W4
 have m4 : W4.heap[w.heap.size]? = some (.map #[⟨.int .i64 2, namedAt (w.heap.size + 1), 0⟩, ⟨.int .i64 3, namedAt (w.heap.size + 2), 1⟩, ⟨.int .i64 9, .func (.func 24) #[] #[], 2⟩, ⟨.int .i64 5, .func (.func 25) #[] #[], 3⟩] 4) := by rw [← hW4]; exact upd_at m3
 have c4 : W4.heap[w.heap.size + 1]? = some (.cells #[.int .i64 1] 3) := by rw [← hW4, upd_ne (by omega)]; exact c3
 have d4 : W4.heap[w.heap.size + 2]? = some (.cells #[.int .i64 3] 3) := by rw [← hW4, upd_ne (by omega)]; exact d3
 have b4 : Below w.heap.size w W4 := by rw [← hW4]; exact upd_below b3 (Nat.le_refl _)
 clear hW4 m3 c3 d3 b3
 go_wp2
 rw [upd_run Tryd.underlying42 Tryd.underlying3 m4 4 _ rfl]
 simp only [Result.andThen]
 rw [Oper.upon_skip]
 generalize hW5 : (upd _ _ _ : World) = W5
 have m5 : W5.heap[w.heap.size]? = some (.map #[⟨.int .i64 2, namedAt (w.heap.size + 1), 0⟩, ⟨.int .i64 3, namedAt (w.heap.size + 2), 1⟩, ⟨.int .i64 9, .func (.func 24) #[] #[], 2⟩, ⟨.int .i64 5, .func (.func 25) #[] #[], 3⟩, ⟨.int .i64 4, .func (.func 26) #[] #[], 4⟩] 5) := by rw [← hW5]; exact upd_at m4
 have c5 : W5.heap[w.heap.size + 1]? = some (.cells #[.int .i64 1] 3) := by rw [← hW5, upd_ne (by omega)]; exact c4
 have d5 : W5.heap[w.heap.size + 2]? = some (.cells #[.int .i64 3] 3) := by rw [← hW5, upd_ne (by omega)]; exact d4
 have b5 : Below w.heap.size w W5 := by rw [← hW5]; exact upd_below b4 (Nat.le_refl _)
 clear hW5 m4 c4 d4 b4
 go_wp2
 rw [upd_run Tryd.underlying42 Tryd.underlying3 m5 7 _ rfl]
 simp only [Result.andThen]
 rw [Oper.upon_skip]
 generalize hW6 : (upd _ _ _ : World) = W6
 have m6 : W6.heap[w.heap.size]? = some (.map #[⟨.int .i64 2, namedAt (w.heap.size + 1), 0⟩, ⟨.int .i64 3, namedAt (w.heap.size + 2), 1⟩, ⟨.int .i64 9, .func (.func 24) #[] #[], 2⟩, ⟨.int .i64 5, .func (.func 25) #[] #[], 3⟩, ⟨.int .i64 4, .func (.func 26) #[] #[], 4⟩, ⟨.int .i64 7, .func (.func 27) #[] #[], 5⟩] 6) := by rw [← hW6]; exact upd_at m5
 have c6 : W6.heap[w.heap.size + 1]? = some (.cells #[.int .i64 1] 3) := by rw [← hW6, upd_ne (by omega)]; exact c5
 have d6 : W6.heap[w.heap.size + 2]? = some (.cells #[.int .i64 3] 3) := by rw [← hW6, upd_ne (by omega)]; exact d5
 have b6 : Below w.heap.size w W6 := by rw [← hW6]; exact upd_below b5 (Nat.le_refl _)
 clear hW6 m5 c5 d5 b5
 go_wp2
 rw [upd_run Tryd.underlying42 Tryd.underlying3 m6 6 _ rfl]
 simp only [Result.andThen]
 rw [Oper.upon_skip]
 generalize hW7 : (upd _ _ _ : World) = W7
 have m7 : W7.heap[w.heap.size]? = some (.map #[⟨.int .i64 2, namedAt (w.heap.size + 1), 0⟩, ⟨.int .i64 3, namedAt (w.heap.size + 2), 1⟩, ⟨.int .i64 9, .func (.func 24) #[] #[], 2⟩, ⟨.int .i64 5, .func (.func 25) #[] #[], 3⟩, ⟨.int .i64 4, .func (.func 26) #[] #[], 4⟩, ⟨.int .i64 7, .func (.func 27) #[] #[], 5⟩, ⟨.int .i64 6, .func (.func 28) #[] #[], 6⟩] 7) := by rw [← hW7]; exact upd_at m6
 have c7 : W7.heap[w.heap.size + 1]? = some (.cells #[.int .i64 1] 3) := by rw [← hW7, upd_ne (by omega)]; exact c6
 have d7 : W7.heap[w.heap.size + 2]? = some (.cells #[.int .i64 3] 3) := by rw [← hW7, upd_ne (by omega)]; exact d6
 have b7 : Below w.heap.size w W7 := by rw [← hW7]; exact upd_below b6 (Nat.le_refl _)
 clear hW7 m6 c6 d6 b6
 go_wp2
 go_ret
 exact ⟨rfl, ⟨_, _, by omega, by omega, m7, c7, d7⟩, b7⟩
end Go.Proofs.YtflekegjmjjdmaaDoor.P
