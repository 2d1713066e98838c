/- Part of the proof: what the theorem needs of this text. -/
import Derived.Test.YtdejidhgeefmeaaDoorKHCT
import Derived.Test.YtdejidhgeefmeaaDoorKHGR
import Derived.Test.YtdejidhgeefmeaaDoorKHIB
import Derived.Laws.CopyOwn
import Derived.LoopTactic
import Derived.Lib.IndexLaws
namespace Go.Proofs.YtdejidhgeefmeaaDoor.P
set_option linter.unusedSimpArgs false
set_option linter.unusedVariables false
open Go.RowKit Go.Lib Go.Proofs.YtdejidhgeefmeaaDoorW.PrintWords Go.Proofs.YtdejidhgeefmeaaDoorW.PrintLast Go.Proofs.YtdejidhgeefmeaaDoorW.PrintMore
def repS (c : Int) (new l : List Int) : List Int := l.flatMap fun x => if x = c then new else [x]
theorem repS_append (c : Int) (new a b : List Int) : repS c new (a ++ b) = repS c new a ++ repS c new b := by unfold repS; rw [List.flatMap_append]
theorem repS_cons (c : Int) (new : List Int) (x : Int) (r : List Int) : repS c new (x :: r) = (if x = c then new else [x]) ++ repS c new r := rfl
theorem repS_none {c : Int} (new : List Int) {a : List Int} (h : c ∉ a) : repS c new a = a := by
 induction a with
 | nil => rfl
 | cons x r ih =>
  rw [List.mem_cons, not_or] at h
  rw [repS_cons, if_neg (fun e => h.1 e.symm), ih h.2]; rfl
theorem repS_len (c : Int) (new l : List Int) (hn : 1 ≤ new.length) : (repS c new l).length = l.length + l.count c * (new.length - 1) := by
 induction l with
 | nil => simp [repS]
 | cons x r ih =>
  rw [repS_cons, List.length_append, ih, List.count_cons, List.length_cons]
  by_cases h : x = c
  ·rw [if_pos h, if_pos (by simp [h]), Nat.add_mul]; omega
  ·rw [if_neg h, if_neg (by simp [h])]; simp; omega
def u8s (l : List Int) : Bool := l.all fun x => decide (0 ≤ x) && decide (x < 256)
theorem u8s_mem {l : List Int} (h : u8s l = true) {x : Int} (hx : x ∈ l) : 0 ≤ x ∧ x < 256 := by
 have := List.all_eq_true.1 h x hx
 simpa using this
theorem u8_one {x y : Int} (hx : 0 ≤ x ∧ x < 256) (hy : 0 ≤ y ∧ y < 256) (h : x.toNat.toUInt8 = y.toNat.toUInt8) : x = y := by
 have := congrArg UInt8.toNat h
 simp at this
 omega
theorem bytesOf_cons (x : Int) (r : List Int) : Lib.bytesOf (x :: r) = x.toNat.toUInt8 :: Lib.bytesOf r := rfl
theorem count_u8 {l : List Int} {c : Int} (hc : 0 ≤ c ∧ c < 256) (h : u8s l = true) : Lib.countByte (Lib.bytesOf l) c.toNat.toUInt8 = l.count c := by
 induction l with
 | nil => rfl
 | cons x r ih =>
  have hx := u8s_mem h (x := x) (by simp)
  have hr : u8s r = true := by
   unfold u8s at h ⊢
   rw [List.all_cons, Bool.and_eq_true] at h
   exact h.2
  have ih := ih hr
  unfold Lib.countByte at ih ⊢
  rw [bytesOf_cons, List.count_cons, ih, List.count_cons]
  by_cases e : x = c
  ·subst e; simp
  ·rw [if_neg (by simp; exact fun hh => e (u8_one hx hc hh)), if_neg (by simpa using e)]
theorem find_u8 {l : List Int} {c : Int} (hc : 0 ≤ c ∧ c < 256) (h : u8s l = true) (hm : 0 < l.count c) :
  ∃ k : Nat, Lib.indexByte (Lib.bytesOf l) c.toNat.toUInt8 = (k : Int) ∧ k < l.length ∧ l.drop k = c :: l.drop (k + 1) ∧ c ∉ l.take k := by
 have hin : c ∈ l := List.count_pos_iff.1 hm
 have get : ∀ k, (Lib.bytesOf l)[k]? = (l[k]?).map fun (x : Int) => x.toNat.toUInt8 := fun k => by unfold Lib.bytesOf; rw [List.getElem?_map]
 have hge := Lib.indexByte_ge (Lib.bytesOf l) c.toNat.toUInt8
 generalize hi : Lib.indexByte (Lib.bytesOf l) c.toNat.toUInt8 = o at hge
 by_cases ho : o = -1
 ·subst ho
  obtain ⟨k, hk, e⟩ := List.mem_iff_getElem.1 hin
  have := Lib.indexByte_none hi k
  rw [get, List.getElem?_eq_getElem hk, e] at this
  exact absurd rfl this
 ·obtain ⟨k, rfl⟩ := Int.eq_ofNat_of_zero_le (show 0 ≤ o by omega)
  obtain ⟨h1, h2⟩ := Lib.indexByte_some hi
  rw [get] at h1
  obtain ⟨x, hx, e⟩ := Option.map_eq_some_iff.1 h1
  obtain ⟨hk, hx2⟩ := List.getElem?_eq_some_iff.1 hx
  have hxc : x = c := u8_one (u8s_mem h (by rw [← hx2]; exact List.getElem_mem _)) hc e
  subst hxc
  refine ⟨k, rfl, hk, ?_, fun hmem => ?_⟩
  ·rw [List.drop_eq_getElem_cons hk, hx2]
  ·obtain ⟨j, hj, e⟩ := List.mem_iff_getElem.1 hmem
   rw [List.length_take] at hj
   rw [List.getElem_take] at e
   refine h2 j (by omega) ?_
   rw [get, List.getElem?_eq_getElem (by omega), e]; rfl
theorem u8s_drop {l : List Int} (h : u8s l = true) (n : Nat) : u8s (l.drop n) = true := by
 unfold u8s at h ⊢
 rw [List.all_eq_true] at h ⊢
 exact fun x hx => h x (List.mem_of_mem_drop hx)
set_option maxHeartbeats 1000000 in
set_option maxRecDepth 100000 in
theorem bytes_Index_one (A0 : Option Addr) (c0 : Nat) (l0 : List Int) (A1 : Option Addr) (c1 : Nat) (x : Int) (w : World) (hr0 : Kd.C (Kd.int .u8) w A0 l0.length l0) (hc0 : l0.length ≤ c0) (hr1 : Kd.C (Kd.int .u8) w A1 1 [x]) :
  Calls Tryd.prog 67 #[.slice A0 l0.length c0, .slice A1 1 c1] w fun e w' => e = .returned (.int .i64 (Lib.indexByte (Lib.bytesOf l0) x.toNat.toUInt8)) ∧ Drawn0 w w' := by
 obtain ⟨ad, e, hcell⟩ := Kd.at_int hr1 0 (by omega) (by omega)
 subst e
 have hcell' : w.cell? (ad.add 0) = some (.int .u8 x) := hcell
 have ea : ad.add 0 = ad := by cases ad; simp [Addr.add]
 rw [ea] at hcell'
 clear hr1 hcell ea
 have HR := Aside0.mk hr0
 clear hr0
 go_enter Tryd.func67, Tryd.ntmps67
 go_wp2_with (go_at_call 59; refine (bytes_IndexByte.calls A0 c0 l0 x _ _ HR.out hc0 rfl).mono ?_; rintro e w' ⟨rfl, hd⟩)
 go_ret
 exact ⟨rfl, hd⟩
end Go.Proofs.YtdejidhgeefmeaaDoor.P
