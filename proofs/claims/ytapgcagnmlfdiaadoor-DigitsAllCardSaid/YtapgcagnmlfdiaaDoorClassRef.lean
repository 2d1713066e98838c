/- The reference's class.Of and Run as plain functions. -/
import Derived.Test.YtapgcagnmlfdiaaDoorClass
import Derived.Test.YtapgcagnmlfdiaaDoorPx3
namespace Go.Proofs.YtapgcagnmlfdiaaDoor.P
set_option linter.unusedSimpArgs false
set_option linter.unusedVariables false
open Go.RowKit Go.Proofs.YtapgcagnmlfdiaaDoor.P Go.Proofs.YtapgcagnmlfdiaaDoorW.PrintWords Go.Proofs.YtapgcagnmlfdiaaDoorW.PrintLast Go.Proofs.YtapgcagnmlfdiaaDoorW.PrintMore
set_option maxRecDepth 100000 in
theorem of_all : ∀ n : Nat, n < 256 → tmesisref02_Of.f 40 (n : Int) = some (classOf (n : Int)) := by decide +kernel
theorem rof_ev {c : Int} (hc : 0 ≤ c ∧ c < 256) : Ev (fun k => tmesisref02_Of.f k c) (classOf c) := Ev.of (fun k => tmesisref02_Of.mono c k) (k := 40) (byte_all (p := fun c => tmesisref02_Of.f 40 c = some (classOf c)) of_all hc)
theorem rrun_loop (l : List Int) (cl : Int) (hl : l.length ≤ 9223372036854775806) (hb : Bytes l) (d : Nat) : ∀ i : Nat, d + i = l.length →
    Ev (fun k => tmesisref02_Run.l0 k l cl (i : Int)) ((i + runS (l.drop i) cl : Nat) : Int) := by
  induction d with
  | zero =>
    intro i hi
    refine Ev.step (fun k => tmesisref02_Run.l0.eq_2 ..) (ev_else (by omega) (ev_now ?_))
    rw [List.drop_of_length_le (by omega), runS_nil]
    omega
  | succ d ih =>
    intro i hi
    have hlt : i < l.length := by omega
    refine Ev.step (fun k => tmesisref02_Run.l0.eq_2 ..) (ev_if (by omega) (ev_if (by omega) ?_))
    rw [rd_at l i hlt, List.drop_eq_getElem_cons hlt, runS_cons]
    refine Ev.bind (rof_ev (hb _ (List.getElem_mem hlt))) ?_
    by_cases h : classOf l[i] = cl
    · rw [if_pos h]
      refine ev_if h ?_
      rw [show wrap64 ((i : Int) + 1) = ((i + 1 : Nat) : Int) by rw [w64 (by omega) (by omega)]; omega]
      refine ev_eq (ih (i + 1) (by omega)) ?_
      omega
    · rw [if_neg h]
      exact ev_else h (ev_now (by omega))
theorem rrun_ev (l : List Int) (cl : Int) (hl : l.length ≤ 9223372036854775806) (hb : Bytes l) : Ev (fun k => tmesisref02_Run.f k l cl) (runS l cl : Int) := by
  refine ev_eq (rrun_loop l cl hl hb l.length 0 (by omega)) ?_
  simp
end Go.Proofs.YtapgcagnmlfdiaaDoor.P
