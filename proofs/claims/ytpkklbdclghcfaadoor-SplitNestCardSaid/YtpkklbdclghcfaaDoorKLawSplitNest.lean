/- So many brackets, opened one behind the other, are so deep, whatever of them is shut then; and shutting more than are open counts for nothing. No conditions. -/
import Derived.Test.YtpkklbdclghcfaaDoorKHL
import Derived.Test.YtpkklbdclghcfaaDoorKPx24
import Derived.Test.YtpkklbdclghcfaaDoorMX1
import Derived.Test.YtpkklbdclghcfaaDoorRows
import Derived.WalkKit
import Derived.ProofKit
import Derived.OpenShut
import Derived.ShutString
import Derived.ChangeOld
import Derived.Below
import Derived.SizedLaws
import Derived.Handed
import Derived.LaidMore
import Derived.Stop.Joined
import Derived.SevenTiedAt
import Derived.Test.YtpkklbdclghcfaaDoorCards
import Derived.Test.YtpkklbdclghcfaaDoorTie
namespace Go.Proofs.YtpkklbdclghcfaaDoor.splitNest
open Go.ChangeShapes Go.WideShapes Go.ChangeAt Go.RowKit
open Go.ChangeMaps (open_string shut_string)
set_option linter.unusedVariables false
theorem own : ownKnob Tryd.prog.godebug = none := by kernel_rfl
set_option maxRecDepth 100000 in
theorem lifted (os : Os) (started : os.Started) (H : Type) (enc : TypeId × Value → H) :
  ReturnsInHanded {} Tryd.checked os 6 .any (fun w args => (Rows.splitNestSpec.pre enc Tryd.prog Tryd.f6 [] false w args ∧ laidMetH Tryd.prog [("tmesis/class.members", Rows.laid_tmesis_class_members)] w) ∧ sizedMet enc Tryd.prog Tryd.f6 (OpenSpec.ofChange Rows.splitNestSpec) false w args) (Rows.splitNestSpec.post enc Tryd.prog Tryd.f6 false true false false) := by
 refine returnsInHanded_of_change_and (C := Tryd.checked) (X := fun w _ => laidMetH Tryd.prog [("tmesis/class.members", Rows.laid_tmesis_class_members)] w) (fun _ _ _ hh h => h.of_heap hh) own started (by kernel_rfl) Tryd.func6
  (ChangeSpec.witness_shaped (enc := enc) (C := Tryd.checked) (os := os) (X := fun w _ => laidMetH Tryd.prog [("tmesis/class.members", Rows.laid_tmesis_class_members)] w) false (World.doorLaid Tryd.prog 400 os) #[.agg #[.int .u8 0, .int .u8 0, .int .u8 0, .int .u8 0]] 8 rfl (World.shaped_of_RefB (by kernel_rfl) (by kernel_rfl)) (by kernel_rfl) (by kernel_rfl) (by kernel_rfl) (laidMetH_of_parts3 (fuel := 8) (laidMet_of_run' 8 (by kernel_rfl) (by kernel_rfl)) (by kernel_rfl) (by kernel_rfl))) ?_
 intro W base args ds gs before hval0 hW hcnd hsz0 hL _
 have hsz : (DataW.weightsEach Tryd.prog (Tryd.f6.params.toList ++ Rows.splitNestSpec.plain.varTypes Tryd.prog) (ds ++ gs)).all (· ≤ reachBytes) = true := hsz0
 have hval : ∀ (j : Nat) t v, Tryd.f6.params[j]? = some t → args[j]? = some v → Value.okWide Tryd.prog W .any base t v := hval0
 have hW' := hW
 obtain ⟨p, q, hA0, hV, rfl, hfz, hnd⟩ := hW
 have hA : DataW.TrodAll enc Tryd.prog W 0 (fun _ => true) true Tryd.f6.params.toList args.toList ds p := hA0
 rw [Tryd.params6] at hA hval hsz
 obtain ⟨v0, vs0, d0, ds0, p0, q0, hargs, rfl, rfl, h0, r0⟩ := trodAll_cons hA
 obtain ⟨rfl, rfl, rfl⟩ := trodAll_nil r0
 obtain rfl : args = #[v0] := by cases args; simp_all
 obtain ⟨rfl, rfl⟩ := trodVars_none hV
 obtain ⟨a0_0, a0_1, a0_2, a0_3, rfl, rfl, rfl, w0_0, w0_1, w0_2, w0_3⟩ := P.open_arr4 Tryd.underlying44 Tryd.underlying5 (by kernel_rfl) (by kernel_rfl) (hval 0 44 v0 rfl rfl) h0
 clear hA0 hval0 hsz0 hsz
 refine (P.tmesislaw10_SplitNest.walk Pure.SplitNest a0_0 a0_1 a0_2 a0_3 W (P.Gl_of_laid hL) w0_0 w0_1 w0_2 w0_3).mono fun e W' ⟨he, bel⟩ => ?_
 subst he
 exact ⟨_, rfl, _, _, _, [], _, [], hW', trodAll_mk1 (shut_bool Tryd.underlying4 _), (trodAll_cons_mk (P.shut_arr4 Tryd.underlying44 Tryd.underlying5 (by kernel_rfl) (by kernel_rfl) w0_0 w0_1 w0_2 w0_3) trodAll_mk0), rfl, bel.frame _, fun h => by cases h⟩
theorem over : Rows.splitNestRow.holds Tryd.pinned (OpenSpec.ofChange Rows.splitNestSpec) :=
 OpenClaim.holds_of_wide 6 Tryd.f6 rfl rfl rfl rfl rfl rfl rfl ⟨rfl, rfl, rfl, rfl, rfl⟩ rfl rfl rfl rfl rfl (by kernel_rfl) Tryd.func6 (by kernel_rfl)
  (of_decide_eq_true (by kernel_rfl)) (by unfold Func.isWrapper; first | (rw [if_pos (by decide +kernel)]; kernel_rfl) | (rw [if_neg (by decide +kernel)]; exact ⟨rfl, rfl⟩))
  (fun os started H enc _ => lifted os started H enc)
theorem card_holds : Rows.SplitNestCardSaid :=
 Claim7.holds_tied_plain_at .later [] [.data] true (true, "7e1cbc1876e139c6474b7c536a8d6fe1ef3f6f7140b70ead42bb9658c23d1be5") false
  over (fun _ h => by cases h) (by kernel_rfl) (fun _ h => by cases h) splitNest_row_tie rfl ⟨rfl, rfl⟩ (by kernel_rfl) rfl
  (fun f fn hf hfn => by
   obtain rfl : f = 6 := Option.some.inj ((show Tryd.prog.funcNamed "tmesis/tmesislaw10.SplitNest" = some 6 by kernel_rfl).symm.trans hf) |>.symm
   obtain rfl : fn = Tryd.f6 := (Option.some.inj (Tryd.func6.symm.trans hfn)).symm
   exact ⟨by kernel_rfl, fun j t ht => by
   rw [Tryd.params6] at ht
   have hm : t ∈ [44] := by simpa using Array.mem_of_getElem? ht
   have hall : ([44].all fun u => !Tryd.prog.wantsStandIn u) = true := by kernel_rfl
   exact (show Tryd.prog.wantsStandIn t = false by simpa using List.all_eq_true.1 hall t hm)⟩)
  (by kernel_rfl)
theorem proved : Rows.SplitNestCardSaid := card_holds
#print axioms proved
end Go.Proofs.YtpkklbdclghcfaaDoor.splitNest
namespace Go.Proofs.YtpkklbdclghcfaaDoor
/-- The row, under a short name, for the claim. -/
theorem splitNest_holds : Rows.SplitNestCardSaid := splitNest.proved
end Go.Proofs.YtpkklbdclghcfaaDoor
