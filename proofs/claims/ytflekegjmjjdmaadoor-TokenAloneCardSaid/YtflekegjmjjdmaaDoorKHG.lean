/- Part of the proof: what the theorem needs of this text. -/
import Derived.Test.YtflekegjmjjdmaaDoorMW1
import Derived.Test.YtflekegjmjjdmaaDoorProg
import Derived.WalkKit
import Derived.Below
import Derived.KernelRfl
import Derived.Laws.RangeString
import Derived.Laws.RangeAny
namespace Go.Proofs.YtflekegjmjjdmaaDoor.P
set_option linter.unusedSimpArgs false
set_option linter.unusedVariables false
open Go.RowKit
theorem hid {p : Prop} (h : p) : Hid p := h
def members : List (Int × ByteArray) := [(1, ⟨#[9, 10, 13, 32]⟩), (2, ⟨#[97, 98, 99, 100, 101, 102, 103, 104, 105, 106, 107, 108, 109, 110, 111, 112, 113, 114, 115, 116, 117, 118, 119, 120, 121, 122]⟩), (3, ⟨#[65, 66, 67, 68, 69, 70, 71, 72, 73, 74, 75, 76, 77, 78, 79, 80, 81, 82, 83, 84, 85, 86, 87, 88, 89, 90, 95]⟩), (4, ⟨#[48, 49, 50, 51, 52, 53, 54, 55, 56, 57]⟩), (5, ⟨#[43, 45, 42, 47, 92, 94, 60, 62, 61, 126, 58, 46, 63, 64, 35, 38, 36, 33]⟩), (6, ⟨#[40, 41, 44, 124, 59, 91, 93, 123, 125]⟩), (7, ⟨#[39]⟩), (8, ⟨#[37]⟩)]
def memCells (l : List (Int × ByteArray)) : Array Value := (l.flatMap fun m => [.int .i64 m.1, .string m.2]).toArray
def Gl (w : World) : Prop := ∃ t fr, w.heap[0]? = some (.cells (memCells members) t fr)
theorem Gl.below {w w' : World} (h : Gl w) (hb : Below w.heap.size w w') : Gl w' := by
 obtain ⟨t, fr, hg⟩ := h
 have hlt : 0 < w.heap.size := by
  rcases Nat.lt_or_ge 0 w.heap.size with h | h
  ·exact h
  ·rw [Array.getElem?_eq_none h] at hg; cases hg
 exact ⟨t, fr, (hb.block _ hlt).trans hg⟩
def hasB (s : ByteArray) (c : Int) : Bool := s.data.toList.any fun x => (x.toNat : Int) == c
def classIn (l : List (Int × ByteArray)) (c : Int) : Int := ((l.find? fun m => hasB m.2 c).map (·.1)).getD 0
theorem index_at (k : Nat) (hk : k < 8) : ∃ cls bs, members[k]? = some (cls, bs) ∧ (∀ w, (Instr.index 49 (.agg (memCells members)) (.int .i64 k)).run Tryd.prog w = .ok (.agg #[.int .i64 cls, .string bs]) w) ∧ (∀ p (h : p < bs.size), (bs[p]'h).toNat < 128) := by
 have hk' : k = 0 ∨ k = 1 ∨ k = 2 ∨ k = 3 ∨ k = 4 ∨ k = 5 ∨ k = 6 ∨ k = 7 := by omega
 have asc : ∀ bs : ByteArray, (bs.data.toList.all fun x => x.toNat < 128) = true → ∀ p (h : p < bs.size), (bs[p]'h).toNat < 128 := by
  intro bs hb p h
  exact of_decide_eq_true (List.all_eq_true.1 hb (bs[p]'h) (Array.getElem_mem_toList _))
 rcases hk' with rfl | rfl | rfl | rfl | rfl | rfl | rfl | rfl <;> exact ⟨_, _, rfl, fun _ => by kernel_rfl, asc _ (by kernel_rfl)⟩
theorem hasB_false {bs : ByteArray} {c : Int} (h : ∀ p (hp : p < bs.size), ((bs[p]'hp).toNat : Int) ≠ c) : hasB bs c = false := by
 unfold hasB
 rw [Bool.eq_false_iff]
 intro hx
 obtain ⟨x, hx, he⟩ := List.any_eq_true.1 hx
 obtain ⟨p, hp, rfl⟩ := List.getElem_of_mem hx
 have := h p (by simpa using hp)
 exact this (beq_iff_eq.1 he)
theorem hasB_true {bs : ByteArray} {c : Int} (p : Nat) (hp : p < bs.size) (h : ((bs[p]'hp).toNat : Int) = c) : hasB bs c = true := by
 unfold hasB
 rw [List.any_eq_true]
 exact ⟨bs[p]'hp, Array.getElem_mem_toList _, by simpa using h⟩
theorem classIn_step {k : Nat} {cls : Int} {bs : ByteArray} {c : Int} (hm : members[k]? = some (cls, bs)) : classIn (members.drop k) c = if hasB bs c then cls else classIn (members.drop (k + 1)) c := by
 have hk : k < members.length := by
  rcases Nat.lt_or_ge k members.length with h | h
  ·exact h
  ·simp [List.getElem?_eq_none h] at hm
 have hm' : members[k] = (cls, bs) := by simpa [List.getElem?_eq_getElem hk] using hm
 unfold classIn
 rw [List.drop_eq_getElem_cons hk, hm']
 cases h : hasB bs c <;> simp [h]
def classOf (a0 : Int) : Int := if a0 ≥ 128 then 9 else classIn members (wrap32 a0)
def class_Of.f (a0 : Int) : Option Int := some (classOf a0)
set_option maxHeartbeats 1000000 in
set_option maxRecDepth 100000 in
theorem class_Of.calls (a0 : Int) (r : Int) (w : World) (hG : Gl w) (hr : class_Of.f a0 = some r) :
  Calls Tryd.prog 14 #[.int .u8 a0] w fun e w' => e = .returned (.int .i64 r) ∧ Below w.heap.size w w' := by
 obtain ⟨t, fr, hg⟩ := hG
 have hix := index_at
 generalize hM : memCells members = M at hg hix
 have hs : (Tryd.prog.info? 49).map (·.size) = some M.size := by rw [← hM]; kernel_rfl
 have HS := hid hs
 clear hs
 have HM := hid hM
 clear hM
 obtain rfl := Option.some.inj hr
 clear hr
 by_cases h0 : a0 ≥ 128
 ·have e : classOf a0 = 9 := by unfold classOf; rw [if_pos h0]
  rw [e]
  clear e
  have hd : decide (a0 ≥ 128) = true := by simpa using h0
  go_enter Tryd.func14, Tryd.ntmps14
  go_wp2
  go_ret
  exact ⟨rfl, Below.refl _ _⟩
 have e : classOf a0 = classIn members (wrap32 a0) := by unfold classOf; rw [if_neg h0]
 rw [e]
 clear e
 have hd : decide (a0 ≥ 128) = false := by simpa using h0
 clear h0
 go_enter Tryd.func14, Tryd.ntmps14
 go_wp2_with (with_reducible refine wpList_load_row rfl _ _ rfl 0 rfl t M fr _ hg Tryd.underlying49 rfl HS.out ?_)
 clear hg
 go_loopw [10] (fun i w' => ∃ k : Nat, k ≤ 8 ∧ i = .int .i64 k ∧ Below w.heap.size w w' ∧ classIn (members.drop k) (wrap32 a0) = classIn members (wrap32 a0)) (fun i _ => 8 - (intOf i).toNat)
 case atStart => exact ⟨0, by omega, rfl, Below.refl _ _, rfl⟩
 case round =>
  obtain ⟨k, hk, rfl, hb, hcl⟩ := hrel
  have HB := hid hb
  have HC := hid hcl
  clear hb hcl
  by_cases hlt : k < 8
  ·obtain ⟨cls, bs, hm, hidx, hasc⟩ := hix k hlt
   have Hm := hid hm
   have Ha := hid hasc
   clear hm hasc hix
   go_wp2
   obtain ⟨wo, hwo⟩ : ∃ wo : World, wo = wr.alloc (Obj.cells #[Value.int IntKind.i64 cls, Value.string bs] 48) := ⟨_, rfl⟩
   have hz : wr.heap.size + 1 = wo.heap.size := by rw [hwo]; simp
   have hc0 : ∀ p, (wo.iter bs p).cell? ⟨wr.heap.size, 0, none⟩ = some (.int .i64 cls) := by intro p; rw [hwo]; simp [go_sem, World.iter]
   have hB' : Below w.heap.size w wo := by rw [hwo]; exact HB.out.alloc HB.out.size _
   rw [← hwo, hz]
   have HB' := hid hB'
   have HZ := hid hz
   have HC0 := hid hc0
   clear hB' hwo hz hc0
   go_loopw [] (fun w' => ∃ p : Nat, p ≤ bs.size ∧ w' = wo.iter bs p ∧ ∀ q (hq : q < bs.size), q < p → ((bs[q]'hq).toNat : Int) ≠ wrap32 a0) (fun w' => bs.size - w'.iterPos wo.heap.size)
   case atStart => exact ⟨0, by omega, rfl, fun q _ h => by omega⟩
   case round =>
    obtain ⟨p, hp, rfl, hq⟩ := hrel
    have HQ := hid hq
    clear hq
    by_cases hpl : p < bs.size
    ·have hnx := fun ty => run_next_ascii (P := Tryd.prog) wo bs p ty hpl (Ha.out p hpl)
     obtain ⟨B, hB⟩ : ∃ B : Int, B = ((bs[p]'hpl).toNat : Int) := ⟨_, rfl⟩
     rw [← hB] at hnx
     have HB3 := hid hB
     clear hB
     by_cases hc : B = wrap32 a0
     ·have hcb : (B == wrap32 a0) = true := beq_iff_eq.mpr hc
      have HC3 := hid hc
      clear hc
      have hc1 := HC0.out (p + 1)
      go_wp2
      go_ret
      refine ⟨?_, HB'.out.alloc HB'.out.size _⟩
      have e : classIn members (wrap32 a0) = cls := by
       rw [← HC.out, classIn_step Hm.out, hasB_true p hpl (HB3.out.symm.trans HC3.out)]; rfl
      rw [e]; rfl
     ·have hcb : (B == wrap32 a0) = false := beq_eq_false_iff_ne.mpr hc
      have HC3 := hid hc
      clear hc
      go_wp2
      go_roundw
      case rel => exact ⟨p + 1, by omega, rfl, fun q hq hlt => if e : q = p then by subst e; rw [← HB3.out]; exact HC3.out else HQ.out q hq (by omega)⟩
      case measure => simp; omega
    ·have hnx := fun ty => run_next_end (P := Tryd.prog) wo bs p ty hpl
     go_wp2
     go_roundw
     case rel =>
      have hpe : p = bs.size := by omega
      have hno : hasB bs (wrap32 a0) = false := hasB_false fun q hq => HQ.out q hq (by omega)
      have e := HC.out
      rw [classIn_step Hm.out, hno] at e
      exact ⟨k + 1, by omega, by go_num, HB'.out.alloc HB'.out.size _, by simpa using e⟩
     case measure => simp [intOf]; omega
  ·have : k = 8 := by omega
   subst this
   clear hix
   go_wp2
   go_ret
   refine ⟨?_, HB.out⟩
   have e : classIn members (wrap32 a0) = 0 := by rw [← HC.out]; rfl
   rw [e]; rfl
end Go.Proofs.YtflekegjmjjdmaaDoor.P
