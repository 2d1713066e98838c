/- Where the bytes of a text of lines of one length are; and which place a line and a column have. No conditions. -/
import Derived.Test.YtkbkmapaeidedaaKPx5
import Derived.Test.YtkbkmapaeidedaaMX1
import Derived.Test.YtkbkmapaeidedaaRows
import Derived.WalkKit
import Derived.ProofKit
import Derived.OpenShut
import Derived.ShutString
import Derived.ChangeOld
import Derived.Below
import Derived.SizedLaws
namespace Go.Proofs.Ytkbkmapaeidedaa.linesRows
open Go.ChangeShapes Go.WideShapes Go.ChangeAt Go.RowKit
open Go.ChangeMaps (open_string shut_string)
set_option linter.unusedVariables false
theorem own : ownKnob Try.prog.godebug = none := by kernel_rfl
set_option maxRecDepth 100000 in
theorem lifted (os : Os) (started : os.Started) (H : Type) (enc : TypeId × Value → H) :
  ReturnsInHanded {} Try.checked os 6 .any (Rows.linesRowsSpec.pre6 enc Try.prog Try.f6 Rows.linesRowsRow.domain false) (Rows.linesRowsSpec.post enc Try.prog Try.f6 false true false false) := by
 refine returnsInHanded_of_change_sized (C := Try.checked) own started (by kernel_rfl) Try.func6
  (ChangeSpec.witness6 (enc := enc) (C := Try.checked) false ⟨#[], #[.agg #[.int .u8 0, .int .u8 0], .agg #[.int .u8 0, .int .u8 0]], []⟩ 8 (by kernel_rfl) (by kernel_rfl) (by kernel_rfl) (by kernel_rfl)) ?_
 intro W base args ds gs before hval0 hW hcnd hsz0 _
 have hsz : (DataW.weightsEach Try.prog (Try.f6.params.toList ++ Rows.linesRowsSpec.plain.varTypes Try.prog) (ds ++ gs)).all (· ≤ reachBytes) = true := hsz0
 have hval : ∀ (j : Nat) t v, Try.f6.params[j]? = some t → args[j]? = some v → Value.okWide Try.prog W .any base t v := hval0
 have hW' := hW
 obtain ⟨p, q, hA0, hV, rfl, hfz, hnd⟩ := hW
 have hA : DataW.TrodAll enc Try.prog W 0 (fun _ => true) true Try.f6.params.toList args.toList ds p := hA0
 rw [Try.params6] at hA hval hsz
 obtain ⟨v0, vs0, d0, ds0, p0, q0, hargs, rfl, rfl, h0, r0⟩ := trodAll_cons hA
 obtain ⟨v1, vs1, d1, ds1, p1, q1, rfl, rfl, rfl, h1, r1⟩ := trodAll_cons r0
 obtain ⟨rfl, rfl, rfl⟩ := trodAll_nil r1
 obtain rfl : args = #[v0, v1] := by cases args; simp_all
 obtain ⟨rfl, rfl⟩ := trodVars_none hV
 obtain ⟨a0_0, a0_1, rfl, rfl, rfl, w0_0, w0_1⟩ := P.open_arr2 Try.underlying35 Try.underlying5 (by kernel_rfl) (by kernel_rfl) (hval 0 35 v0 rfl rfl) h0
 obtain ⟨a1_0, a1_1, rfl, rfl, rfl, w1_0, w1_1⟩ := P.open_arr2 Try.underlying35 Try.underlying5 (by kernel_rfl) (by kernel_rfl) (hval 1 35 v1 rfl rfl) h1
 clear hA0 hval0 hsz0 hsz
 refine (P.tmesislaw09_LinesRows.walk Pure.LinesRows a0_0 a0_1 a1_0 a1_1 W w0_0 w0_1 w1_0 w1_1).mono fun e W' ⟨he, bel⟩ => ?_
 subst he
 exact ⟨_, rfl, _, _, _, [], _, [], hW', trodAll_mk1 (shut_bool Try.underlying4 _), (trodAll_cons_mk (P.shut_arr2 Try.underlying35 Try.underlying5 (by kernel_rfl) (by kernel_rfl) w0_0 w0_1) (trodAll_cons_mk (P.shut_arr2 Try.underlying35 Try.underlying5 (by kernel_rfl) (by kernel_rfl) w1_0 w1_1) trodAll_mk0)), rfl, bel.frame _, fun h => by cases h⟩
theorem over : Rows.linesRowsRow.holds Try.pinned (OpenSpec.ofChange Rows.linesRowsSpec) :=
 OpenClaim.holds_of_wide 6 Try.f6 rfl rfl rfl rfl rfl rfl rfl ⟨rfl, rfl, rfl, rfl, rfl⟩ rfl rfl rfl rfl rfl (by kernel_rfl) Try.func6 (by kernel_rfl)
  (of_decide_eq_true (by kernel_rfl)) (by unfold Func.isWrapper; first | (rw [if_pos (by decide +kernel)]; kernel_rfl) | (rw [if_neg (by decide +kernel)]; exact ⟨rfl, rfl⟩))
  (fun os started H enc _ => lifted os started H enc)
theorem proved : Rows.LinesRowsSaid := over
#print axioms proved
end Go.Proofs.Ytkbkmapaeidedaa.linesRows
namespace Go.Proofs.Ytkbkmapaeidedaa
/-- The row, under a short name, for the claim. -/
theorem linesRows_holds : Rows.LinesRowsSaid := linesRows.proved
end Go.Proofs.Ytkbkmapaeidedaa
