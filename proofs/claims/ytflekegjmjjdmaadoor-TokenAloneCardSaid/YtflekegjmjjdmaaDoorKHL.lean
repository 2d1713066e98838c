/- Part of the proof: what the theorem needs of this text. -/
import Derived.Test.YtflekegjmjjdmaaDoorKHG
import Derived.Test.YtflekegjmjjdmaaDoorRows
import Derived.LaidMore
import Derived.ChangeArms
import Derived.OpenShut
import Derived.FnData
namespace Go.Proofs.YtflekegjmjjdmaaDoor.P
set_option linter.unusedSimpArgs false
set_option linter.unusedVariables false
open Go.ChangeShapes Go.WideShapes Go.RowKit
theorem gMembers : Tryd.prog.globalNamed "tmesis/class.members" = some 0 := by kernel_rfl
theorem tMembers : (Tryd.prog.globals[0]?).map (·.type) = some 49 := by kernel_rfl
theorem fMembers : ∃ f0 f1 : Field, Tryd.prog.underlying 48 = some (.struct #[f0, f1]) ∧ f0.type = 3 ∧ f0.offset = 0 ∧ f1.type = 9 ∧ f1.offset = 1 := ⟨_, _, Tryd.underlying48, rfl, rfl, rfl, rfl⟩
theorem pairs_of (l : List (Value × Value)) : ∀ cs : List Value, cs.length = l.length * 2 → (∀ (i : Nat) p, l[i]? = some p → (cs.drop (i * 2)).take 2 = [p.1, p.2]) → cs = l.flatMap fun p => [p.1, p.2] := by
 induction l with
 | nil => intro cs h _; simpa using h
 | cons p l ih =>
  intro cs hl h
  match cs, hl with
  | [], hl => simp at hl
  | [_], hl => simp at hl; omega
  | a :: b :: r, hl =>
   have h0 := h 0 p rfl
   simp at h0
   have hr := ih r (by simp at hl; omega) (fun i q hq => by
    have := h (i + 1) q (by simpa using hq)
    rw [show (i + 1) * 2 = i * 2 + 2 by omega] at this
    simpa using this)
   rw [hr, h0.1, h0.2]
   rfl
theorem cells_of_laid {H : Type} {enc : TypeId × Value → H} {w : World} {base : Nat} {sp : Nat → Bool} {held : Bool} {fuel : Nat} {cs : List Value} {p : List MemPlace}
  (h : DataW.trod enc Tryd.prog w base sp held fuel 49 cs = some (Rows.laid_tmesis_class_members, p)) : cs = (memCells members).toList := by
 have c16 : Tryd.prog.cellsOf 49 = 16 := by kernel_rfl
 have c2 : Tryd.prog.cellsOf 48 = 2 := by kernel_rfl
 have c1 : Tryd.prog.cellsOf 3 = 1 := by kernel_rfl
 have cs1 : Tryd.prog.cellsOf 9 = 1 := by kernel_rfl
 obtain ⟨xs, m, rfl, hx, hl, hn, hel⟩ := DataW.trod_array Tryd.underlying49 h
 rw [c16] at hl
 rw [c2] at hel
 have hx1 := congrArg Prod.fst hx
 simp only [Rows.laid_tmesis_class_members, DataW.agg.injEq] at hx1
 have one : ∀ (i : Nat) (a : Int) (b : List UInt8), i < 8 → (xs.map (·.1))[i]? = some (.agg [.lit (.int .i64 a), .lit (.string b)]) → (cs.drop (i * 2)).take 2 = [.int .i64 a, .string ⟨b.toArray⟩] := by
  intro i a b hi hxi
  have h0 := hel i hi
  rw [List.getElem?_map, Option.map_eq_some_iff] at hxi
  obtain ⟨x, hxx, hx2⟩ := hxi
  rw [hxx] at h0
  obtain ⟨f0, f1, hu, ht0, ho0, ht1, ho1⟩ := fMembers
  obtain ⟨ys, m2, _, hy, hyl, hyn, hye⟩ := DataW.trod_struct hu h0
  have e0 := hye 0 f0 rfl
  have e1 := hye 1 f1 rfl
  rw [ht0, ho0, c1] at e0
  rw [ht1, ho1, cs1] at e1
  match ys, hyn with
  | [y0, y1], _ =>
   obtain ⟨z, hz, hz2, _⟩ := DataW.trod_int Tryd.underlying3 e0
   obtain ⟨s, hs, hs2, _⟩ := DataW.trod_string Tryd.underlying9 e1
   rw [hy] at hx2
   simp only [List.map_cons, List.map_nil, DataW.agg.injEq, List.cons.injEq, and_true, hz2, hs2, DataW.lit.injEq, Lit.int.injEq, Lit.string.injEq, true_and] at hx2
   generalize hq : (cs.drop (i * 2)).take 2 = q at hz hs hyl
   rw [c2] at hyl
   match q, hyl with
   | [q0, q1], _ =>
    simp at hz hs
    rw [hz, hs, hx2.1, ← hx2.2]
 have := pairs_of (members.map fun m => (Value.int .i64 m.1, Value.string m.2)) cs (by rw [hl]; rfl) (by
  intro i p hp
  have hi : i < 8 := by
   have := (List.getElem?_eq_some_iff.1 hp).1
   simpa [members] using this
  rw [← hx1] at one
  have hc : i = 0 ∨ i = 1 ∨ i = 2 ∨ i = 3 ∨ i = 4 ∨ i = 5 ∨ i = 6 ∨ i = 7 := by omega
  rcases hc with rfl | rfl | rfl | rfl | rfl | rfl | rfl | rfl <;> (obtain rfl := Option.some.inj hp; exact one _ _ _ (by omega) rfl))
 rw [this]
 rfl
theorem Gl_of_laid {l : List (String × DataW Unit)} {W : World} (h : laidMetH Tryd.prog (("tmesis/class.members", Rows.laid_tmesis_class_members) :: l) W) (hp : (l.all fun x => x.2.handleName?.isNone) = true := by kernel_rfl) : Gl W := by
 rw [MakeChecks.laidMetH_plain _ _ _ (by rw [List.all_cons, hp, Bool.and_true]; kernel_rfl)] at h
 obtain ⟨ps, ⟨g0, t0, cs0, f0, p0, q0, hg0, ht0, hv0, hd0, _, _⟩, _, _⟩ := h
 obtain rfl := Option.some.inj (gMembers.symm.trans hg0)
 obtain rfl := Option.some.inj (tMembers.symm.trans ht0)
 have hcs := cells_of_laid hd0
 simp only [World.var?, gMembers, Option.bind_some] at hv0
 split at hv0
 ·rename_i c t fr hh
  simp only [Option.some.injEq] at hv0
  refine ⟨t, fr, ?_⟩
  rw [hh]
  have : c = memCells members := by
   rw [← Array.toList_inj, ← hcs, hv0]
  rw [this]
 ·cases hv0
end Go.Proofs.YtflekegjmjjdmaaDoor.P
