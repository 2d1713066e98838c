/- Part of the proof: what the theorem needs of this text. -/
import Derived.Test.YtdejidhgeefmeaaDoorMW1
import Derived.Test.YtdejidhgeefmeaaDoorProg
import Derived.WalkKit
import Derived.KernelRfl
import Derived.Lib.BytesEntry
import Derived.Lib.Bytealg
namespace Go.Proofs.YtdejidhgeefmeaaDoor.P
set_option linter.unusedSimpArgs false
set_option linter.unusedVariables false
open Go.RowKit Go.Proofs.YtdejidhgeefmeaaDoorW.PrintWords Go.Proofs.YtdejidhgeefmeaaDoorW.PrintLast Go.Proofs.YtdejidhgeefmeaaDoorW.PrintMore
section
variable {P : Program}
theorem run_bytesAt (w : World) (A : Option Addr) (c : Nat) (xs : List Int) (h : Kd.C (Kd.int .u8) w A xs.length xs) :
  (Extern.Bytes.bytesOf (.slice A xs.length c)).run P w = .ok ⟨(Lib.bytesOf xs).toArray⟩ w := by
 have he : (⟨ByteArray.empty.data ++ (Lib.bytesOf xs).toArray⟩ : ByteArray) = ⟨(Lib.bytesOf xs).toArray⟩ := by
  apply ByteArray.ext
  show (#[] : Array UInt8) ++ (Lib.bytesOf xs).toArray = (Lib.bytesOf xs).toArray
  simp
 cases A with
 | none =>
  cases xs with
  | nil => rfl
  | cons x r =>
   obtain ⟨_, e, _⟩ := h.2.2 (by simp)
   cases e
 | some ad =>
  have hc : ∀ j x, xs[j]? = some x → w.cell? (ad.add j) = some (.int .u8 x) := by
   intro j x hj
   have hlt := (List.getElem?_eq_some_iff.1 hj).1
   obtain ⟨ad', e, hcell⟩ := Kd.at_int h (j : Int) (by omega) (by omega)
   injection e with e
   subst e
   have e2 : rd xs (j : Int) = x := by
    show xs.getD j 0 = x
    rw [List.getD_eq_getElem?_getD, hj]; rfl
   rw [e2] at hcell
   exact hcell
  have := Lib.run_loadBytesX (P := P) w xs ad .empty hc
  rw [he] at this
  exact this
theorem run_countAt (w : World) (A : Option Addr) (c : Nat) (xs : List Int) (h : Kd.C (Kd.int .u8) w A xs.length xs) (cv : Int) :
  (Extern.BytealgCount.count #[.slice A xs.length c, .int .u8 cv]).run P w = .ok (.int .i64 (Lib.countByte (Lib.bytesOf xs) cv.toNat.toUInt8)) w := by
 have hs := Lib.run_countString (P := P) ⟨(Lib.bytesOf xs).toArray⟩ cv w
 have hl := run_bytesAt (P := P) w A c xs h
 change Sem.run P (do
  let b ← Extern.Bytes.bytesOf (.slice A xs.length c)
  let c' ← Extern.Bytes.asByte (.int .u8 cv)
  pure (goInt (b.foldl (fun n x => if x == c' then n + 1 else n) (0 : Nat)))) w = _
 change Sem.run P (do
  let b ← Extern.Bytes.bytesOf (.string ⟨(Lib.bytesOf xs).toArray⟩)
  let c' ← Extern.Bytes.asByte (.int .u8 cv)
  pure (goInt (b.foldl (fun n x => if x == c' then n + 1 else n) (0 : Nat)))) w = _ at hs
 simp only [Extern.Bytes.bytesOf, Sem.run_bind, Sem.run_pure, Result.andThen] at hs ⊢
 simp only [Extern.Bytes.bytesOf] at hl
 rw [hl]
 exact hs
end
def bytes_Count.f (l0 : List Int) (l1 : List Int) : Option Int := if (l1.length : Int) = 1 then some (Lib.countByte (Lib.bytesOf l0) (rd l1 0).toNat.toUInt8 : Nat) else none
set_option maxHeartbeats 1000000 in
set_option maxRecDepth 100000 in
theorem bytes_Count.calls (A0 : Option Addr) (c0 : Nat) (l0 : List Int) (A1 : Option Addr) (c1 : Nat) (l1 : List Int) (r : Int) (w : World) (hr0 : Kd.C (Kd.int .u8) w A0 l0.length l0) (hc0 : l0.length ≤ c0) (hr1 : Kd.C (Kd.int .u8) w A1 l1.length l1) (hc1 : l1.length ≤ c1) (h : bytes_Count.f l0 l1 = some r) :
  Calls Tryd.prog 66 #[.slice A0 l0.length c0, .slice A1 l1.length c1] w fun e w' => e = .returned (.int .i64 r) ∧ Drawn0 w w' := by
 unfold bytes_Count.f at h
 by_cases h1 : (l1.length : Int) = 1
 ·rw [if_pos h1] at h
  obtain rfl := Option.some.inj h
  clear h
  have hrun := run_countAt (P := Tryd.prog) w A0 c0 l0 hr0 (rd l1 0)
  obtain ⟨ad, e, hcell⟩ := Kd.at_int hr1 0 (by omega) (by omega)
  subst e
  have hl1 : l1.length = 1 := by omega
  rw [hl1]
  have hcell' : w.cell? (ad.add 0) = some (.int .u8 (rd l1 0)) := hcell
  have ea : ad.add 0 = ad := by cases ad; simp [Addr.add]
  rw [ea] at hcell'
  clear hr0 hr1 hcell ea
  go_enter Tryd.func66, Tryd.ntmps66
  go_wp2
  rw [run_callFunc_extern Tryd.func73 (by kernel_rfl) (by kernel_rfl) (by kernel_rfl) (e := Extern.BytealgCount.count) (by kernel_rfl), hrun]
  simp only [Result.andThen]
  rw [Oper.upon_value]
  go_wp2
  go_ret
  exact ⟨rfl, Drawn0.refl _⟩
 ·rw [if_neg h1] at h
  cases h
end Go.Proofs.YtdejidhgeefmeaaDoor.P
