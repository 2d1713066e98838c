/- Part of the proof: what the theorem needs of this text. -/
import Derived.Test.YtflekegjmjjdmaaDoorMW1
import Derived.Test.YtflekegjmjjdmaaDoorProg
import Derived.WalkKit
import Derived.KernelRfl
import Derived.Lib.BytesEntry
namespace Go.Proofs.YtflekegjmjjdmaaDoor.P
set_option linter.unusedSimpArgs false
set_option linter.unusedVariables false
open Go.RowKit Go.Proofs.YtflekegjmjjdmaaDoorW.PrintWords Go.Proofs.YtflekegjmjjdmaaDoorW.PrintLast Go.Proofs.YtflekegjmjjdmaaDoorW.PrintMore
section
variable {P : Program}
theorem run_indexByteAt (w : World) (A : Option Addr) (c : Nat) (xs : List Int) (h : Kd.C (Kd.int .u8) w A xs.length xs) (cv : Int) :
  (Extern.BytealgIndexByte.indexByte #[.slice A xs.length c, .int .u8 cv]).run P w = .ok (.int .i64 (Lib.indexByte (Lib.bytesOf xs) cv.toNat.toUInt8)) w := by
 have hs := Lib.run_indexByteString (P := P) ⟨(Lib.bytesOf xs).toArray⟩ cv w
 have he : (⟨ByteArray.empty.data ++ (Lib.bytesOf xs).toArray⟩ : ByteArray) = ⟨(Lib.bytesOf xs).toArray⟩ := by
  apply ByteArray.ext
  show (#[] : Array UInt8) ++ (Lib.bytesOf xs).toArray = (Lib.bytesOf xs).toArray
  simp
 have hl : (Extern.Bytes.bytesOf (.slice A xs.length c)).run P w = .ok ⟨(Lib.bytesOf xs).toArray⟩ w := by
  cases A with
  | none =>
   cases xs with
   | nil => rfl
   | cons x r =>
    obtain ⟨_, e, _⟩ := h.2.2 (by simp)
    cases e
  | some ad =>
   have hc : ∀ j x, xs[j]? = some x → w.cell? (ad.add j) = some (.int .u8 x) := by
    intro j x hj
    have hlt := (List.getElem?_eq_some_iff.1 hj).1
    obtain ⟨ad', e, hcell⟩ := Kd.at_int h (j : Int) (by omega) (by omega)
    injection e with e
    subst e
    have e2 : rd xs (j : Int) = x := by
     show xs.getD j 0 = x
     rw [List.getD_eq_getElem?_getD, hj]; rfl
    rw [e2] at hcell
    exact hcell
   have := Lib.run_loadBytesX (P := P) w xs ad .empty hc
   rw [he] at this
   exact this
 change Sem.run P (do
  let b ← Extern.Bytes.bytesOf (.slice A xs.length c)
  let c ← Extern.Bytes.asByte (.int .u8 cv)
  match (List.range b.size).find? fun i => b[i]! == c with
  | some i => pure (goInt i)
  | none => pure (goInt (-1))) w = _
 change Sem.run P (do
  let b ← Extern.Bytes.bytesOf (.string ⟨(Lib.bytesOf xs).toArray⟩)
  let c ← Extern.Bytes.asByte (.int .u8 cv)
  match (List.range b.size).find? fun i => b[i]! == c with
  | some i => pure (goInt i)
  | none => pure (goInt (-1))) w = _ at hs
 simp only [Extern.Bytes.bytesOf, Sem.run_bind, Sem.run_pure, Result.andThen] at hs ⊢
 simp only [Extern.Bytes.bytesOf] at hl
 rw [hl]
 exact hs
end
def bytes_IndexByte.f (l0 : List Int) (a1 : Int) : Option Int := some (Lib.indexByte (Lib.bytesOf l0) a1.toNat.toUInt8)
set_option maxHeartbeats 1000000 in
set_option maxRecDepth 100000 in
theorem bytes_IndexByte.calls (A0 : Option Addr) (c0 : Nat) (l0 : List Int) (a1 : Int) (r : Int) (w : World) (hr0 : Kd.C (Kd.int .u8) w A0 l0.length l0) (hc0 : l0.length ≤ c0) (h : bytes_IndexByte.f l0 a1 = some r) :
  Calls Tryd.prog 38 #[.slice A0 l0.length c0, .int .u8 a1] w fun e w' => e = .returned (.int .i64 r) ∧ Drawn0 w w' := by
 obtain rfl := Option.some.inj h
 clear h
 have hrun := run_indexByteAt (P := Tryd.prog) w A0 c0 l0 hr0 a1
 clear hr0
 go_enter Tryd.func38, Tryd.ntmps38
 go_wp2
 rw [run_callFunc_extern Tryd.func50 (by kernel_rfl) (by kernel_rfl) (by kernel_rfl) (e := Extern.BytealgIndexByte.indexByte) (by kernel_rfl), hrun]
 simp only [Result.andThen]
 rw [Oper.upon_value]
 go_wp2
 go_ret
 exact ⟨rfl, Drawn0.refl _⟩
end Go.Proofs.YtflekegjmjjdmaaDoor.P
