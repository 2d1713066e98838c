/- Part of the proof: what the theorem needs of this text. -/
import Derived.Test.YtklpephnbkoinaaDoorMW1
import Derived.Test.YtklpephnbkoinaaDoorProg
import Derived.WalkKit
import Derived.ProofKit
import Derived.OpenShut
import Derived.ChangeArms
import Derived.SizedLaws
import Derived.KernelRfl
namespace Go.Proofs.YtklpephnbkoinaaDoor.P
set_option linter.unusedSimpArgs false
set_option linter.unusedVariables false
open Go.ChangeShapes Go.WideShapes Go.ChangeAt Go.RowKit Go.Proofs.YtklpephnbkoinaaDoorW.PrintWords
/-- A type's cells are of a kind. -/
structure Op_ (P : Program) {α : Type} (d : Kd α) (t : TypeId) (ok : α → Prop) : Prop where
 sz : P.cellsOf t = d.sz
 go : ∀ {H : Type} {enc : TypeId × Value → H} {w : World} {base : Nat} {spare : Nat → Bool} {held : Bool} {fuel : Nat} {cs : List Value} {x : DataW H × List MemPlace}, DataW.trod enc P w base spare held fuel t cs = some x → (∀ n ∈ x.1.weights P t, n ≤ 140737488351232) → ∃ a, d.K w a cs ∧ ok a
section
variable {P : Program}
theorem op_int {t : TypeId} {k : IntKind} (ht : P.underlying t = some (.int k)) (hs : P.cellsOf t = 1) : Op_ P (Kd.int k) t (fun a => (Lit.int k a).wf = true) :=
 ⟨hs, fun h _ => by obtain ⟨n, rfl, _, hw⟩ := DataW.trod_int ht h; exact ⟨n, rfl, hw⟩⟩
theorem weightsAll_mem {H : Type} {e : TypeId} : ∀ {ds : List (DataW H)} {d : DataW H}, d ∈ ds → ∀ n ∈ d.weights P e, n ∈ DataW.weightsAll P e ds
 | d0 :: ds, d, hd, n, hn => by
  simp only [DataW.weightsAll, List.mem_append]
  rcases List.mem_cons.1 hd with rfl | hd
  ·exact .inl hn
  ·exact .inr (weightsAll_mem hd n hn)
theorem cells_cell {w : World} {base : Nat} : ∀ {n : Nat} {a : Addr} {cs : List Value}, w.cells? base a n = some cs → cs.length = n ∧ ∀ i u, cs[i]? = some u → w.cell? (a.add i) = some u := by
 intro n a cs h
 have hh := h
 unfold World.cells? at hh
 split at hh
 rotate_left
 ·cases hh
 have hl := mapM_some_length hh
 have hg := fun i (hi : i < n) => mapM_some_get hh i i (by simp [hi])
 simp at hl
 refine ⟨hl, fun i u hu => ?_⟩
 have hi : i < n := by have := (List.getElem?_eq_some_iff.1 hu).1; omega
 rw [← hg i hi] at hu
 exact hu
theorem addr_add_add (a : Addr) (i j : Nat) : (a.add i).add j = a.add (i + j) := by
 unfold Addr.add
 by_cases hi : i = 0
 ·subst hi; simp
 ·by_cases hj : j = 0
  ·subst hj; simp [hi]
  ·simp [hi, hj, Nat.add_assoc]
theorem exists_list {α : Type} (p : Nat → α → Prop) : ∀ n, (∀ i, i < n → ∃ x, p i x) → ∃ xs : List α, xs.length = n ∧ ∀ i x, xs[i]? = some x → p i x
 | 0, _ => ⟨[], rfl, fun i x h => by simp at h⟩
 | n + 1, h => by
  obtain ⟨xs, hl, hx⟩ := exists_list p n (fun i hi => h i (by omega))
  obtain ⟨y, hy⟩ := h n (by omega)
  refine ⟨xs ++ [y], by simp [hl], fun i x hix => ?_⟩
  rcases Nat.lt_or_ge i n with hi | hi
  ·rw [List.getElem?_append_left (by omega)] at hix
   exact hx i x hix
  ·have : i = n := by have := (List.getElem?_eq_some_iff.1 hix).1; simp at this; omega
   subst this
   rw [← hl] at hix
   simp at hix
   subst hix
   exact hy
theorem op_slice {α : Type} {d : Kd α} {ok : α → Prop} {t e : TypeId} (ht : P.underlying t = some (.slice e)) (hs : P.cellsOf t = 1) {B : Nat} (hB : P.bytesOf e = B) (h : Op_ P d e ok) : Op_ P (Kd.slice e d) t (fun l => l.length ≤ 9223372036854775807 ∧ l.length * B ≤ 140737488351232 ∧ ∀ x ∈ l, ok x) := by
 refine ⟨hs, fun {_ _ w _ _ _ _ _ _} hd hw => ?_⟩
 rcases DataW.trod_slice ht hd with ⟨rfl, _⟩ | ⟨a, len, cap, elems, rest, n, _, rfl, rfl, _, hlc, hcm, hel, hall, _, _⟩
 ·exact ⟨[], ⟨none, 0, rfl, Nat.le_refl _, Kd.C_nil _ _⟩, by simp, by simp, fun x hx => by cases hx⟩
 ·have hw1 := hw ((elems.length + rest.length) * P.bytesOf e) (by simp [DataW.weights, ht])
  have hB1 : len * B ≤ 140737488351232 := by
   rw [← hB]
   exact Nat.le_trans (Nat.mul_le_mul_right _ (by omega)) hw1
  have hh : ∀ i, i < len → ∃ x, ok x ∧ ∃ c, c.length = d.sz ∧ d.K w x c ∧ ∀ j u, c[j]? = some u → w.cell? ((a.add (i * P.cellsOf e)).add j) = some u := by
   intro i hi
   have h1 := hall i hi
   rw [List.getElem?_eq_getElem (by omega)] at h1
   obtain ⟨c, hc, hc2⟩ := Option.bind_eq_some_iff.1 h1
   obtain ⟨x, hx, ho⟩ := h.go hc2 (fun n hn => hw n (by
    simp only [DataW.weights, ht, List.mem_cons, List.mem_append]
    exact .inr (.inl (weightsAll_mem (List.mem_map_of_mem (List.getElem_mem _)) n hn))))
   obtain ⟨hl, hcell⟩ := cells_cell hc
   exact ⟨x, ho, c, by rw [hl, h.sz], hx, hcell⟩
  obtain ⟨xs, hl, hx⟩ := exists_list _ len hh
  subst hl
  refine ⟨xs, ⟨some a, cap, rfl, hlc, rfl, by unfold maxLen at hcm; omega, fun _ => ⟨a, rfl, fun j p hj => ?_⟩⟩, by unfold maxLen at hcm; omega, hB1, fun x hxm => ?_⟩
  ·obtain ⟨_, c, h1, h2, h3⟩ := hx j p hj
   refine ⟨c, h1, h2, fun i u hu => ?_⟩
   have := h3 i u hu
   rw [h.sz, addr_add_add] at this
   exact this
  ·obtain ⟨i, hi, e⟩ := List.mem_iff_getElem.1 hxm
   exact (hx i x (by rw [List.getElem?_eq_getElem hi, e])).1
/-- A struct's fields from one on. -/
structure OpF (P : Program) {α : Type} (fs : List Field) (off : Nat) (d : Kd α) (ok : α → Prop) : Prop where
 go : ∀ {H : Type} {enc : TypeId × Value → H} {w : World} {base : Nat} {spare : Nat → Bool} {held : Bool} {n : Nat} {cs : List Value} {xs : List (DataW H × List MemPlace)},
  xs.length = fs.length → (∀ (i : Nat) (f : Field), fs[i]? = some f → DataW.trod enc P w base spare held n f.type ((cs.drop f.offset).take (P.cellsOf f.type)) = xs[i]?) → (∀ (i : Nat) (f : Field) (x : DataW H × List MemPlace), fs[i]? = some f → xs[i]? = some x → ∀ n ∈ x.1.weights P f.type, n ≤ 140737488351232) → cs.length = off + d.sz → ∃ a, d.K w a (cs.drop off) ∧ ok a
theorem opF_one {α : Type} {d : Kd α} {ok : α → Prop} {f : Field} {t off : Nat} (h : Op_ P d t ok) (ht : f.type = t) (ho : f.offset = off) : OpF P [f] off d ok := ⟨fun {_ _ _ _ _ _ _ cs xs} hl hx hw hc => by
 have h1 := hx 0 f rfl
 rw [List.getElem?_eq_getElem (by rw [hl]; simp), ht, ho, h.sz, List.take_of_length_le (by rw [List.length_drop]; omega)] at h1
 exact h.go h1 (ht ▸ hw 0 f _ rfl (List.getElem?_eq_getElem (by rw [hl]; simp)))⟩
theorem opF_cons {α β : Type} {d : Kd α} {d' : Kd β} {ok : α → Prop} {ok' : β → Prop} {f : Field} {fs : List Field} {t off off' : Nat} (h : Op_ P d t ok) (ht : f.type = t) (ho : f.offset = off) (he : off + d.sz = off') (h' : OpF P fs off' d' ok') : OpF P (f :: fs) off (Kd.pair d d') (fun a => ok a.1 ∧ ok' a.2) := ⟨fun {_ _ _ _ _ _ _ cs xs} hl hx hw hc => by
 have hcs : cs.length = off + (d.sz + d'.sz) := hc
 have h1 := hx 0 f rfl
 have hl0 : xs.length = fs.length + 1 := hl
 rw [List.getElem?_eq_getElem (by omega), ht, ho, h.sz] at h1
 obtain ⟨a, ha, hoa⟩ := h.go h1 (ht ▸ hw 0 f _ rfl (List.getElem?_eq_getElem (by omega)))
 obtain ⟨b, hb, hob⟩ := h'.go (xs := xs.drop 1) (cs := cs) (by rw [List.length_drop]; omega) (fun i f hf => by rw [List.getElem?_drop, Nat.add_comm]; exact hx (i + 1) f hf) (fun i f x hf hx2 => by rw [List.getElem?_drop, Nat.add_comm] at hx2; exact hw (i + 1) f x hf hx2) (by omega)
 refine ⟨(a, b), ⟨_, _, ?_, ha, hb⟩, hoa, hob⟩
 rw [← he, ← List.drop_drop, List.take_append_drop]⟩
theorem op_struct {α : Type} {d : Kd α} {ok : α → Prop} {t : TypeId} {fs : Array Field} (ht : P.underlying t = some (.struct fs)) (hs : P.cellsOf t = d.sz) (h : OpF P fs.toList 0 d ok) : Op_ P d t ok := ⟨hs, fun hd hw => by
 obtain ⟨xs, n, _, rfl, hl, hxl, hall⟩ := DataW.trod_struct ht hd
 have := h.go (cs := _) (xs := xs) (by rw [hxl]; simp) (fun i f hf => hall i f (by simpa using hf)) (fun i f x hf hx n hn => hw n (by
  simp only [DataW.weights, ht]
  exact DataW.weights_mem_each (j := i) (t := f.type) (d := x.1) (by rw [List.getElem?_map, hf]; rfl) (by rw [List.getElem?_map, hx]; rfl) n hn)) (by rw [hl, hs, Nat.zero_add])
 rw [List.drop_zero] at this
 exact this⟩
theorem op_iso {α β : Type} {d : Kd α} {ok : α → Prop} {ok' : β → Prop} {t : TypeId} (h : Op_ P d t ok) (f : β → α) (g : α → β) (hfg : ∀ a, f (g a) = a) (hok : ∀ a, ok a → ok' (g a)) : Op_ P (Kd.iso d f) t ok' :=
 ⟨h.sz, fun hd hw => by
  obtain ⟨a, ha, ho⟩ := h.go hd hw
  exact ⟨g a, (by show d.K _ (f (g a)) _; rw [hfg]; exact ha), hok a ho⟩⟩
theorem okWide_agg {w : World} {r : Reach} {b0 : Nat} {t : TypeId} {v : Value} (hs : (∃ fs, P.underlying t = some (.struct fs)) ∨ ∃ n e, P.underlying t = some (.array n e)) (h : Value.okWide P w r b0 t v) : ∃ cs, v = .agg cs := by
 unfold Value.okWide at h
 rcases hs with ⟨fs, hs⟩ | ⟨n, e, hs⟩ <;> rw [hs] at h <;> obtain ⟨cs, rfl, _⟩ := h <;> exact ⟨cs, rfl⟩
theorem agg_cells {cs : Array Value} {l : List Value} (h : (Value.agg cs).cells.toList = l) : cs = l.toArray := by
 subst h
 simp [Value.cells]
end
end Go.Proofs.YtklpephnbkoinaaDoor.P
