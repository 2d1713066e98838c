/- Part of the proof: what the theorem needs of this text. -/
import Derived.Test.YtpkklbdclghcfaaDoorKHSL
import Derived.Test.YtpkklbdclghcfaaDoorMW1
import Derived.WalkKit
import Derived.KernelRfl
import Derived.Sort.OwnSorted
import Derived.Lib.OwnBridge
namespace Go.Proofs.YtpkklbdclghcfaaDoor.P
set_option linter.unusedSimpArgs false
set_option linter.unusedVariables false
open Go.RowKit Go.Sort Go.Proofs.YtpkklbdclghcfaaDoorW.PrintWords Go.Proofs.YtpkklbdclghcfaaDoorW.PrintLast Go.Proofs.YtpkklbdclghcfaaDoorW.PrintMore
def chrs (s : ByteArray) : List UInt8 := s.data.toList
def unch (l : List UInt8) : ByteArray := ⟨l.toArray⟩
def srtS (l : List ByteArray) : List ByteArray := ((l.map chrs).mergeSort fun x y => decide (x ≤ y)).map unch
def cmpS (l : List ByteArray) : List ByteArray := (Lib.compact (l.map chrs)).map unch
def slices_Sort_string_string.f (l0 : List ByteArray) : Option (List ByteArray) := if l0.length < 4611686018427387904 then some (srtS l0) else none
def slices_Compact_string_string.f (l0 : List ByteArray) : Option (List ByteArray) := if l0.length < 4611686018427387904 then some (cmpS l0) else none
theorem encs_str (l : List (List UInt8)) : encs Value.string (l.map unch) = l.map encStr := by
 unfold encs
 rw [List.map_map]
 rfl
theorem encs_str' (l : List ByteArray) : encs Value.string l = (l.map chrs).map encStr := by
 unfold encs
 rw [List.map_map]
 rfl
theorem kept_grown {w w' : World} {g : Nat} {P : Nat → Prop} (h : w.grownBy w' (some g)) (hP : P g) : Kept w w' P :=
 ⟨h.size, fun i hi hn => h.block i hi (fun e => hn (by injection e with e; subst e; exact hP))⟩
theorem grownBy_put {w : World} {g n : Nat} (d : Array (List UInt8)) : w.grownBy (putRow encStr (Sort.ahead w n) g 0 d) (some g) := by
 have h := Go.grownBy_sorted (w := w) (g := g) (n := n) (os := #[]) d
 rw [grow_empty] at h
 exact h
set_option maxHeartbeats 4000000 in
theorem slices_Sort_string_string.calls (P0_ : Nat → Prop) (u9000_ : Value) (l0 : List ByteArray) (r : List ByteArray) (w0 w : World) (hB : Below w0.heap.size w0 w) (ho0 : Kd.R Kd.string 9 w w0.heap.size P0_ u9000_ l0) (h : slices_Sort_string_string.f l0 = some r) :
  Calls Tryd.prog 23 #[u9000_] w fun e w' => e = .returned (.tuple #[]) ∧ Kd.R Kd.string 9 w' w0.heap.size (fun k_ => (P0_ k_ ∨ w.heap.size ≤ k_)) u9000_ r ∧ Below w0.heap.size w0 w' ∧ Kept w w' (fun k_ => P0_ k_) := by
 unfold slices_Sort_string_string.f at h
 by_cases hb : l0.length < 4611686018427387904
 rotate_left
 ·rw [if_neg hb] at h; cases h
 rw [if_pos hb] at h
 obtain rfl := Option.some.inj h
 clear h
 have hown := Kd.own_of_R ho0
 rw [encs_str'] at hown
 rcases hown.2 with ⟨rfl, hn⟩ | ⟨g, cap, cur, rfl, hbg, hg, hnc, hcm, hcs, htk⟩
 ·have hl : l0 = [] := List.length_eq_zero_iff.1 hn
  subst hl
  refine (Any.slices_Sort_string_none YtpkklbdclghcfaaDoor.laysSort none 0 w).mono ?_
  rintro e w' ⟨rfl, rfl⟩
  exact ⟨rfl, by rw [show srtS [] = [] from by simp [srtS]]; exact Kd.R_nil _ _ _ _ _, hB, ⟨Nat.le_refl _, fun _ _ _ => rfl⟩⟩
 ·have hlm : (l0.map chrs).length = l0.length := List.length_map ..
  have hH : Holds encStr w g 0 (l0.map chrs).toArray := Go.holds_of_block hg (by rw [hlm]; simpa using htk)
  have hgl : g < w.heap.size := (Array.getElem?_eq_some_iff.1 hg).1
  have hP : P0_ g := ho0.1 g rfl
  have hc := Any.slices_Sort_string YtpkklbdclghcfaaDoor.laysSort g 0 cap (l0.map chrs) w hH hgl (by rw [hlm]; exact hb)
  rw [hlm] at hc
  refine hc.mono ?_
  rintro e w' ⟨rfl, n, os, rfl⟩
  have hl2 : ((l0.map chrs).mergeSort fun x y => decide (x ≤ y)).length = (l0.map chrs).length := List.length_mergeSort _
  have hs := Go.ownsRow_sorted (w := w) (base := w0.heap.size) (g := g) (cap := cap) (n := n) (e := 9) (os := os) (cur := cur) (ss := l0.map chrs) (ts := (l0.map chrs).mergeSort fun x y => decide (x ≤ y)) hl2 hbg hg (by rw [hlm]; exact hnc) hcm hcs
  have hgr := Go.grownBy_sorted (w := w) (g := g) (n := n) (os := os) ((l0.map chrs).mergeSort fun x y => decide (x ≤ y)).toArray
  refine ⟨rfl, ?_, hB.grown hgr hB.size (fun j hj => by cases hj; exact hbg), kept_grown hgr hP⟩
  have hrl : (srtS l0).length = l0.length := by
   unfold srtS
   rw [List.length_map, hl2, hlm]
  refine Kd.R_of_own (h1 := fun _ => rfl) ?_ (fun k hk => by injection hk with hk; subst hk; exact .inl hP)
  rw [hrl, show encs Value.string (srtS l0) = _ from encs_str _]
  rw [hlm] at hs
  exact hs
set_option maxHeartbeats 4000000 in
theorem slices_Compact_string_string.calls (P0_ : Nat → Prop) (u9000_ : Value) (l0 : List ByteArray) (r : List ByteArray) (w0 w : World) (hB : Below w0.heap.size w0 w) (ho0 : Kd.R Kd.string 9 w w0.heap.size P0_ u9000_ l0) (h : slices_Compact_string_string.f l0 = some r) :
  Calls Tryd.prog 24 #[u9000_] w fun e w' => ∃ v0_ : Value, e = .returned (v0_) ∧ Kd.R Kd.string 9 w' w0.heap.size (fun k_ => (P0_ k_ ∨ w.heap.size ≤ k_)) v0_ r ∧ Below w0.heap.size w0 w' ∧ Kept w w' (fun k_ => P0_ k_) := by
 unfold slices_Compact_string_string.f at h
 by_cases hb : l0.length < 4611686018427387904
 rotate_left
 ·rw [if_neg hb] at h; cases h
 rw [if_pos hb] at h
 obtain rfl := Option.some.inj h
 clear h
 have hown := Kd.own_of_R ho0
 rw [encs_str'] at hown
 rcases hown.2 with ⟨rfl, hn⟩ | ⟨g, cap, cur, rfl, hbg, hg, hnc, hcm, hcs, htk⟩
 ·have hl : l0 = [] := List.length_eq_zero_iff.1 hn
  subst hl
  refine (Any.slices_Compact_string_empty YtpkklbdclghcfaaDoor.laysCompact none 0 w).mono ?_
  rintro e w' ⟨rfl, rfl⟩
  exact ⟨_, rfl, Kd.R_nil _ _ _ _ _, hB, ⟨Nat.le_refl _, fun _ _ _ => rfl⟩⟩
 ·have hlm : (l0.map chrs).length = l0.length := List.length_map ..
  have hH : Holds encStr w g 0 (l0.map chrs).toArray := Go.holds_of_block hg (by rw [hlm]; simpa using htk)
  have hP : P0_ g := ho0.1 g rfl
  have hc := Any.slices_Compact_string YtpkklbdclghcfaaDoor.laysCompact g 0 cap (l0.map chrs) w hH (by rw [hlm]; omega) (by rw [hlm]; exact hnc)
  rw [hlm] at hc
  refine hc.mono ?_
  rintro e w' ⟨rfl, q, rfl⟩
  have hle := Lib.compact_length_le (l0.map chrs)
  rw [hlm] at hle
  have hgr := grownBy_put (w := w) (g := g) (n := q) (Lib.compact (l0.map chrs) ++ List.replicate (l0.length - (Lib.compact (l0.map chrs)).length) []).toArray
  refine ⟨_, rfl, ?_, hB.grown hgr hB.size (fun j hj => by cases hj; exact hbg), kept_grown hgr hP⟩
  have hrl : (cmpS l0).length = (Lib.compact (l0.map chrs)).length := List.length_map ..
  have hp := Lib.ownsRow_putRow (q := q) (k := (Lib.compact (l0.map chrs)).length) (ys := Lib.compact (l0.map chrs) ++ List.replicate (l0.length - (Lib.compact (l0.map chrs)).length) []) hown (by simp; omega) hle
  rw [List.take_left] at hp
  refine Kd.R_of_own (h1 := fun _ => rfl) ?_ (fun k hk => by injection hk with hk; subst hk; exact .inl hP)
  rw [hrl, show encs Value.string (cmpS l0) = _ from encs_str _]
  exact hp
end Go.Proofs.YtpkklbdclghcfaaDoor.P
