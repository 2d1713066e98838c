/- Part of the proof: what the theorem needs of this text. -/
import Derived.Test.YtdejidhgeefmeaaDoorMW1
import Derived.Test.YtdejidhgeefmeaaDoorProg
import Derived.WalkKit
import Derived.KernelRfl
import Derived.Lib.Walk
import Derived.Lib.SliceRun
import Derived.Lib.AppendZerosOnto
namespace Go.Proofs.YtdejidhgeefmeaaDoor.P
set_option linter.unusedSimpArgs false
set_option linter.unusedVariables false
open Go.RowKit Go.Lib Go.Proofs.YtdejidhgeefmeaaDoorW.PrintWords Go.Proofs.YtdejidhgeefmeaaDoorW.PrintLast Go.Proofs.YtdejidhgeefmeaaDoorW.PrintMore
def slices_Grow_byte_byte.f (l0 : List Int) (a1 : Int) : Option (List Int) := if l0.length = 0 ∧ 0 < a1 ∧ a1 ≤ 1000000 then some [] else none
theorem infoU8 : (Tryd.prog.info? 5).map (fun i => (i.zero, i.size, i.bytes)) = some (some (.int .u8 0), 1, 1) := by kernel_rfl
set_option maxHeartbeats 4000000 in
set_option maxRecDepth 100000 in
theorem slices_Grow_byte_byte.calls (A0 : Option Addr) (c0 : Nat) (l0 : List Int) (a1 : Int) (r : List Int) (w : World) (hr0 : Kd.C (Kd.int .u8) w none l0.length l0) (hc0 : l0.length ≤ 0) (h : slices_Grow_byte_byte.f l0 a1 = some r) :
  Calls Tryd.prog 55 #[.slice none 0 0, .int .i64 a1] w fun e w' => ∃ v0_ : Value, e = .returned (v0_) ∧ Kd.R (Kd.int .u8) 5 w' w.heap.size (fun _ => True) v0_ r ∧ Below w.heap.size w w' := by
 unfold slices_Grow_byte_byte.f at h
 by_cases hb : l0.length = 0 ∧ 0 < a1 ∧ a1 ≤ 1000000
 rotate_left
 ·rw [if_neg hb] at h; cases h
 rw [if_pos hb] at h
 obtain rfl := Option.some.inj h
 obtain ⟨_, h0, h1⟩ := hb
 obtain ⟨n, rfl⟩ := Int.eq_ofNat_of_zero_le (Int.le_of_lt h0)
 clear h hr0 hc0
 obtain ⟨i0, hi0, hz0, hs0, hb0⟩ : ∃ i0, Tryd.prog.info? 5 = some i0 ∧ i0.zero = some (.int .u8 0) ∧ i0.size = 1 ∧ i0.bytes = 1 := by
  obtain ⟨i0, hi, hzz⟩ := Option.map_eq_some_iff.1 infoU8
  simp only [Prod.mk.injEq] at hzz
  exact ⟨i0, hi, hzz.1, hzz.2.1, hzz.2.2⟩
 have h2 : wrap64 ((0 : Int) - (0 : Int)) = 0 := by unfold wrap64; omega
 have h3 : wrap64 ((n : Int) - 0) = (n : Int) := by unfold wrap64; omega
 have h4 : ((n : Int) > 0) := by omega
 have h5 : ¬ ((n : Int) < 0) := by omega
 have z25 : ∀ w, (Go.sizeOf 5).run Tryd.prog w = .ok i0.size w := fun w => by simp [Go.sizeOf, typeInfo, hi0]
 have hold : (Builtin.firstCells i0.size 0 (.slice none 0 0)).run Tryd.prog w.drew = .ok #[] w.drew := run_firstCells_none w.drew i0.size 0 0 0
 have hrz : ∀ ty, (Builtin.append_ #[22, 3] ty #[.slice none 0 0, .int .i64 (n : Int)]).run Tryd.prog w =
   .ok (.slice (some ⟨w.heap.size, 0, none⟩) n (grownCap w n 0 5)) (w.drew.alloc (.cells (#[] ++ Builtin.zeroCells (Value.int .u8 0).cells n ++ Builtin.zeroCells (Value.int .u8 0).cells (grownCap w n 0 5 - n)) 5)) := fun ty => by
  have h := Lib.run_append_grow_zeros w 22 3 ty 5 i0 (.int .u8 0) .i64 .i64 Tryd.underlying22 Tryd.underlying3 hi0 hz0 none 0 0 [] hold n (by omega) (by omega) (by omega) (by omega)
   (by rw [hb0]; omega)
   (by rw [Nat.zero_add]; exact growslice_fits (by omega) (by rw [hb0]; omega))
  simpa using h
 have hGn : n ≤ grownCap w n 0 5 := grownCap_ge w _ _ _
 obtain ⟨G, hG⟩ : ∃ G, G = grownCap w n 0 5 := ⟨_, rfl⟩
 rw [← hG] at hrz hGn
 have hG0 : G ≤ maxLen := by
  have := grownCap_le_maxLen w n 0 5 (by unfold maxLen; omega)
  rw [← hG] at this
  exact this
 have hG63 : G ≤ 9223372036854775807 := by
  unfold maxLen at hG0
  omega
 have HG0 := Aside0.mk hG0
 clear hold hG hG0 hb0 hi0 hz0 hs0
 go_enter Tryd.func55, Tryd.ntmps55
 go_wp2_with (at_builtin; refine Lib.wpList_append_run _ rfl _ _ _ _ rfl _ _ rfl rfl _ _ (hrz _) ?_)
 go_ret
 refine ⟨_, rfl, ?_, ?_⟩
 ·refine Kd.R_of_own ⟨by simp [encs], .inr ⟨w.heap.size, G, _, rfl, Nat.le_refl _, heap_alloc_new w.drew _, Nat.zero_le _, HG0.out, ?_, by simp [encs]⟩⟩ (fun _ _ => trivial)
  simp [Builtin.zeroCells, Value.cells]
  omega
 ·exact ((Below.refl _ _).drew).alloc (Nat.le_refl _) _
end Go.Proofs.YtdejidhgeefmeaaDoor.P
