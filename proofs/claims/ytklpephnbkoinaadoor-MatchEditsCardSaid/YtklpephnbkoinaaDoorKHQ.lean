/- Part of the proof: what the theorem needs of this text. -/
import Derived.Test.YtklpephnbkoinaaDoorMW1
import Derived.Test.YtklpephnbkoinaaDoorProg
import Derived.WalkKit
namespace Go.Proofs.YtklpephnbkoinaaDoor.P
set_option linter.unusedSimpArgs false
set_option linter.unusedVariables false
open Go.RowKit Go.Proofs.YtklpephnbkoinaaDoorW.PrintWords Go.Proofs.YtklpephnbkoinaaDoorW.PrintLast Go.Proofs.YtklpephnbkoinaaDoorW.PrintMore
theorem print_cap_of {P : Program} (t e : TypeId) {i : TypeInfo} (ht : P.underlying t = some (.slice e)) (hi : P.info? e = some i) (A : Option Addr) (n c : Nat) (hc : n ≤ c) :
  ∀ W : World, (Instr.slice t (.slice A n c) none (some (.int .i64 (n : Int))) (some (.int .i64 (n : Int)))).run P W = .ok (.slice A n n) W := by
 intro W
 have hel : P.elem t = e := by simp [Program.elem, ht]
 have hu : P.underlying t = some (.slice (P.elem t)) := by rw [hel]; exact ht
 have ha : (A.map fun x => x.add 0) = A := by cases A <;> simp [Addr.add]
 rw [run_slice_hm W t A n c hu .i64 .i64 (n : Int) (n : Int) (Int.natCast_nonneg _) (Int.le_refl _) (by omega), hel]
 simp [sizeOf, typeInfo, hi, sliced, Result.andThen, ha]
theorem cut_to_cap {P : Program} (t e : TypeId) (kh km : IntKind) {i : TypeInfo} (ht : P.underlying t = some (.slice e)) (hi : P.info? e = some i) (A : Option Addr) (n c : Nat) (j : Int) (h0 : 0 ≤ j) (hm : j ≤ n) (hc : n ≤ c) :
  ∀ W : World, (Instr.slice t (.slice A n c) none (some (.int kh j)) (some (.int km j))).run P W = .ok (.slice A j.toNat j.toNat) W := by
 intro W
 have hel : P.elem t = e := by simp [Program.elem, ht]
 have hu : P.underlying t = some (.slice (P.elem t)) := by rw [hel]; exact ht
 have ha : (A.map fun x => x.add 0) = A := by cases A <;> simp [Addr.add]
 rw [run_slice_hm W t A n c hu kh km j j h0 (Int.le_refl _) (by omega), hel]
 simp [sizeOf, typeInfo, hi, sliced, Result.andThen, ha]
theorem Q_cap {α : Type} {d : Kd α} {e : Nat} {w : World} {base : Nat} {ok : Nat → Prop} {A : Option Addr} {n c : Nat} {xs : List α} (h : d.R e w base ok (.slice A n c) xs) : d.Q e w base ok (.slice A n n) xs := by
 obtain ⟨h0, inner, ho, hr⟩ := h
 have hb : ∀ x y x' y' : Nat, (Value.slice A x y).ownBlock = (Value.slice A x' y').ownBlock := by
  intro x y x' y'
  cases A <;> rfl
 rw [hb n c n n] at hr
 refine ⟨fun k hk => h0 k (by rw [hb n c n n]; exact hk), inner, ⟨ho.1, ?_⟩, hr⟩
 rcases ho.2 with ⟨hv, hn⟩ | ⟨g, cap, cur, hv, hb2, hh, hnc, hcm, hcs, ht⟩
 ·injection hv with h1 h2 h3
  subst h1
  subst h2
  exact .inl ⟨hn, none, rfl, fun a ha => by cases ha⟩
 ·injection hv with h1 h2 h3
  subst h1
  subst h2
  refine .inr ⟨g, 0, _, cur, by rw [Nat.zero_mul], hb2, hh, Nat.le_refl _, by omega, ?_, by rw [Nat.zero_mul, List.drop_zero]; exact ht⟩
  rw [hcs, Nat.zero_add]
  exact Nat.mul_le_mul_right _ hnc
end Go.Proofs.YtklpephnbkoinaaDoor.P
