/- Rows of bytes, where no class is spoken of. -/
import Derived.Test.YtkbkmapaeidedaaEv
import Derived.Lib.BytesEntry
namespace Go.Proofs.Ytkbkmapaeidedaa.P
set_option linter.unusedSimpArgs false
set_option linter.unusedVariables false
open Go.RowKit Go.Proofs.YtkbkmapaeidedaaW.PrintWords Go.Proofs.YtkbkmapaeidedaaW.PrintLast Go.Proofs.YtkbkmapaeidedaaW.PrintMore
theorem rd_at (l : List Int) (i : Nat) (h : i < l.length) : rd l (i : Int) = l[i] := by
  show l.getD i 0 = l[i]
  rw [List.getD_eq_getElem?_getD, List.getElem?_eq_getElem h]; rfl
def Bytes (l : List Int) : Prop := ∀ x ∈ l, 0 ≤ x ∧ x < 256
theorem u8_wf {x : Int} (h : (Lit.int .u8 x).wf = true) : 0 ≤ x ∧ x < 256 := by
  simp [Lit.wf, IntKind.min, IntKind.max, IntKind.signed, IntKind.bits] at h
  omega
theorem bytes_wf {l : List Int} (h : ∀ x ∈ l, (Lit.int .u8 x).wf = true) : Bytes l := fun x hx => u8_wf (h x hx)
theorem Bytes.take {l : List Int} (h : Bytes l) (n : Nat) : Bytes (l.take n) := fun x hx => h x (List.mem_of_mem_take hx)
theorem Bytes.drop {l : List Int} (h : Bytes l) (n : Nat) : Bytes (l.drop n) := fun x hx => h x (List.mem_of_mem_drop hx)
theorem Bytes.app {a b : List Int} (h : Bytes a) (h2 : Bytes b) : Bytes (a ++ b) := fun x hx => by
  rcases List.mem_append.1 hx with h1 | h1
  · exact h x h1
  · exact h2 x h1
theorem Bytes.cons {c : Int} {r : List Int} (h : Bytes (c :: r)) : (0 ≤ c ∧ c < 256) ∧ Bytes r := ⟨h c (by simp), fun x hx => h x (by simp [hx])⟩
theorem u8_inj {x y : Int} (hx : 0 ≤ x ∧ x < 256) (hy : 0 ≤ y ∧ y < 256) (h : UInt8.ofNat x.toNat = UInt8.ofNat y.toNat) : x = y := by
  have := congrArg UInt8.toNat h
  rw [UInt8.toNat_ofNat', UInt8.toNat_ofNat'] at this
  omega
theorem strOf_list (l : List Int) : (strOfNums l).toList = l.map fun n => UInt8.ofNat n.toNat := by
  have := Lib.strOfNums_toList l
  rw [this]; rfl
/-- how long the rest of the line is -/
def lineS (l : List Int) : Nat := (l.takeWhile fun c => c != 10).length
theorem lineS_cons (c : Int) (r : List Int) : lineS (c :: r) = if c = 10 then 0 else lineS r + 1 := by
  unfold lineS
  by_cases h : c = 10 <;> simp [List.takeWhile_cons, h]
theorem lineS_le (l : List Int) : lineS l ≤ l.length := List.Sublist.length_le (List.takeWhile_sublist _)
theorem index_line (l : List Int) (hl : Bytes l) : (Lib.indexByte (Lib.bytesOf l) (10 : Int).toNat.toUInt8 = -1 ∧ lineS l = l.length) ∨ (Lib.indexByte (Lib.bytesOf l) (10 : Int).toNat.toUInt8 = (lineS l : Int) ∧ lineS l < l.length) := by
  induction l with
  | nil => left; exact ⟨rfl, rfl⟩
  | cons c r ih =>
    obtain ⟨hc, hr⟩ := hl.cons
    have e : Lib.indexByte (Lib.bytesOf (c :: r)) (10 : Int).toNat.toUInt8 = if (c.toNat.toUInt8 == (10 : Int).toNat.toUInt8) = true then 0 else if (Lib.indexByte (Lib.bytesOf r) (10 : Int).toNat.toUInt8 == -1) = true then -1 else Lib.indexByte (Lib.bytesOf r) (10 : Int).toNat.toUInt8 + 1 := rfl
    rw [e, lineS_cons]
    by_cases h : c = 10
    · subst h
      right
      rw [if_pos rfl, if_pos (by decide)]
      exact ⟨rfl, by simp⟩
    · have hne : ¬ (c.toNat.toUInt8 == (10 : Int).toNat.toUInt8) = true := by
        rw [beq_iff_eq]
        exact fun hh => h (u8_inj hc (by omega) hh)
      rw [if_neg h, if_neg hne]
      rcases ih hr with ⟨h1, h2⟩ | ⟨h1, h2⟩
      · left
        rw [h1, if_pos (by decide)]
        exact ⟨rfl, by simp [h2]⟩
      · right
        rw [h1, if_neg (by rw [beq_iff_eq]; omega)]
        exact ⟨by omega, by simp; omega⟩
end Go.Proofs.Ytkbkmapaeidedaa.P
