/- class.Of, Name and Run as plain functions. -/
import Derived.Test.YtfmhhjimnhfbaaaDoorHG
import Derived.Test.YtfmhhjimnhfbaaaDoorEv
import Derived.Test.YtfmhhjimnhfbaaaDoorPx1
namespace Go.Proofs.YtfmhhjimnhfbaaaDoor.P
set_option linter.unusedSimpArgs false
set_option linter.unusedVariables false
open Go.RowKit Go.Proofs.YtfmhhjimnhfbaaaDoorW.PrintWords Go.Proofs.YtfmhhjimnhfbaaaDoorW.PrintLast Go.Proofs.YtfmhhjimnhfbaaaDoorW.PrintMore
/-- what may stand in a name -/
def nameOf (c : Int) : Bool := classOf c == 2 || classOf c == 3 || classOf c == 4
theorem class_of (c : Int) : class_Of.f c = some (classOf c) := rfl
/-- how many first bytes are of a class -/
def runS (l : List Int) (cl : Int) : Nat := (l.takeWhile fun c => classOf c == cl).length
theorem runS_nil (cl : Int) : runS [] cl = 0 := rfl
theorem runS_cons (c : Int) (l : List Int) (cl : Int) : runS (c :: l) cl = if classOf c = cl then runS l cl + 1 else 0 := by
  unfold runS
  by_cases h : classOf c = cl <;> simp [List.takeWhile_cons, h]
theorem runS_le (l : List Int) (cl : Int) : runS l cl ≤ l.length := by
  unfold runS
  exact List.Sublist.length_le (List.takeWhile_sublist _)
theorem rd_at (l : List Int) (i : Nat) (h : i < l.length) : rd l (i : Int) = l[i] := by
  show l.getD i 0 = _
  simp [List.getD_eq_getElem?_getD, List.getElem?_eq_getElem h]
theorem run_loop (l : List Int) (cl : Int) (hl : l.length ≤ 9223372036854775806) (d : Nat) : ∀ i : Nat, d + i = l.length →
    Ev (fun k => class_Run.l0 k l cl l (l.length : Int) (i : Int)) ((i + runS (l.drop i) cl : Nat) : Int) := by
  induction d with
  | zero =>
    intro i hi
    refine Ev.step (fun k => class_Run.l0.eq_2 ..) (ev_else (by omega) (ev_now ?_))
    rw [List.drop_of_length_le (by omega), runS_nil]
    omega
  | succ d ih =>
    intro i hi
    have hlt : i < l.length := by omega
    refine Ev.step (fun k => class_Run.l0.eq_2 ..) (ev_if (by omega) (ev_if (by omega) (ev_if (by omega) ?_)))
    rw [rd_at l i hlt, class_of, List.drop_eq_getElem_cons hlt, runS_cons]
    refine ev_let ?_
    by_cases h : classOf l[i] = cl
    · rw [if_pos h]
      refine ev_if h ?_
      rw [show wrap64 ((i : Int) + 1) = ((i + 1 : Nat) : Int) by rw [w64 (by omega) (by omega)]; omega]
      refine ev_eq (ih (i + 1) (by omega)) ?_
      omega
    · rw [if_neg h]
      exact ev_else h (ev_now (by omega))
theorem run_ev (l : List Int) (cl : Int) (hl : l.length ≤ 9223372036854775806) : Ev (fun k => class_Run.f k l cl) (runS l cl : Int) := by
  refine ev_eq (run_loop l cl hl l.length 0 (by omega)) ?_
  simp
theorem u8_wf {x : Int} (h : (Lit.int .u8 x).wf = true) : 0 ≤ x ∧ x < 256 := by
  simp [Lit.wf, IntKind.min, IntKind.max, IntKind.signed, IntKind.bits] at h
  omega
def Bytes (l : List Int) : Prop := ∀ x ∈ l, 0 ≤ x ∧ x < 256
theorem bytes_wf {l : List Int} (h : ∀ x ∈ l, (Lit.int .u8 x).wf = true) : Bytes l := fun x hx => u8_wf (h x hx)
theorem Bytes.take {l : List Int} (h : Bytes l) (n : Nat) : Bytes (l.take n) := fun x hx => h x (List.mem_of_mem_take hx)
theorem Bytes.drop {l : List Int} (h : Bytes l) (n : Nat) : Bytes (l.drop n) := fun x hx => h x (List.mem_of_mem_drop hx)
/-- a fact on each byte, asked one by one -/
theorem byte_all {p : Int → Prop} (h : ∀ n : Nat, n < 256 → p (n : Int)) {c : Int} (hc : 0 ≤ c ∧ c < 256) : p c := by
  have := h c.toNat (by omega)
  rwa [Int.toNat_of_nonneg hc.1] at this
end Go.Proofs.YtfmhhjimnhfbaaaDoor.P
