/- What a clause is made of is told rising, each once, and is a text of one of its atoms, symbols and brackets; and each of these is. No conditions. -/
import Derived.Test.YtpkklbdclghcfaaDoorKHL
import Derived.Test.YtpkklbdclghcfaaDoorKOp
import Derived.Test.YtpkklbdclghcfaaDoorKPx23
import Derived.Test.YtpkklbdclghcfaaDoorMX1
import Derived.Test.YtpkklbdclghcfaaDoorRows
import Derived.WalkKit
import Derived.ProofKit
import Derived.OpenShut
import Derived.ShutString
import Derived.ChangeOld
import Derived.Below
import Derived.SizedLaws
import Derived.Handed
import Derived.LaidMore
import Derived.Stop.Joined
import Derived.SevenTiedAt
import Derived.Test.YtpkklbdclghcfaaDoorCards
import Derived.Test.YtpkklbdclghcfaaDoorTie
import Derived.ChangeSlices
namespace Go.Proofs.YtpkklbdclghcfaaDoor.splitNames
open Go.ChangeShapes Go.WideShapes Go.ChangeAt Go.RowKit
open Go.ChangeMaps (open_string shut_string)
set_option linter.unusedVariables false
open Go.Proofs.YtpkklbdclghcfaaDoor.P Go.Proofs.YtpkklbdclghcfaaDoorW.PrintWords
theorem op38 : Op_ Tryd.prog k38 38 ok38 := op_iso (op_struct Tryd.underlying38 (by kernel_rfl) (opF_cons (op_int Tryd.underlying3 (by kernel_rfl)) rfl rfl rfl (opF_cons (op_int Tryd.underlying3 (by kernel_rfl)) rfl rfl rfl (opF_cons (op_int Tryd.underlying3 (by kernel_rfl)) rfl rfl rfl (opF_cons (op_string Tryd.underlying9 (by kernel_rfl)) rfl rfl rfl (opF_one (op_int Tryd.underlying36 (by kernel_rfl)) rfl rfl)))))) (fun x : S38 => (x.f0, x.f1, x.f2, x.f3, x.f4)) (fun a => ⟨a.1, a.2.1, a.2.2.1, a.2.2.2.1, a.2.2.2.2⟩) (fun _ => rfl) (fun _ h => h)
theorem op25 : Op_ Tryd.prog k25 25 ok25 := op_iso (op_struct Tryd.underlying25 (by kernel_rfl) (opF_cons (op_int Tryd.underlying3 (by kernel_rfl)) rfl rfl rfl (opF_cons (op_int Tryd.underlying3 (by kernel_rfl)) rfl rfl rfl (opF_cons (op_int Tryd.underlying3 (by kernel_rfl)) rfl rfl rfl (opF_one (op_slice Tryd.underlying23 (by kernel_rfl) (by kernel_rfl) op38) rfl rfl))))) (fun x : S25 => (x.f0, x.f1, x.f2, x.f3)) (fun a => ⟨a.1, a.2.1, a.2.2.1, a.2.2.2⟩) (fun _ => rfl) (fun _ h => h)
theorem own : ownKnob Tryd.prog.godebug = none := by kernel_rfl
theorem laidOut : laidOutB Tryd.prog = true := by kernel_rfl
set_option maxRecDepth 100000 in
theorem lifted (os : Os) (started : os.Started) (H : Type) (enc : TypeId × Value → H) :
  ReturnsInHanded {} Tryd.checked os 5 .any (fun w args => (Rows.splitNamesSpec.pre enc Tryd.prog Tryd.f5 [] false w args ∧ laidMetH Tryd.prog [("tmesis/class.members", Rows.laid_tmesis_class_members)] w) ∧ sizedMet enc Tryd.prog Tryd.f5 (OpenSpec.ofChange Rows.splitNamesSpec) false w args) (Rows.splitNamesSpec.post enc Tryd.prog Tryd.f5 false true false false) := by
 refine returnsInHanded_of_change_and (C := Tryd.checked) (X := fun w _ => laidMetH Tryd.prog [("tmesis/class.members", Rows.laid_tmesis_class_members)] w) (fun _ _ _ hh h => h.of_heap hh) own started (by kernel_rfl) Tryd.func5
  (ChangeSpec.witness_shaped (enc := enc) (C := Tryd.checked) (os := os) (X := fun w _ => laidMetH Tryd.prog [("tmesis/class.members", Rows.laid_tmesis_class_members)] w) false (World.doorLaid Tryd.prog 400 os) #[.agg #[.int .i64 0, .int .i64 0, .int .i64 0, .slice none 0 0]] 8 rfl (World.shaped_of_RefB (by kernel_rfl) (by kernel_rfl)) (by kernel_rfl) (by kernel_rfl) (by kernel_rfl) (laidMetH_of_parts3 (fuel := 8) (laidMet_of_run' 8 (by kernel_rfl) (by kernel_rfl)) (by kernel_rfl) (by kernel_rfl))) ?_
 intro W base args ds gs before hval0 hW hcnd hsz0 hL _
 have hsz : (DataW.weightsEach Tryd.prog (Tryd.f5.params.toList ++ Rows.splitNamesSpec.plain.varTypes Tryd.prog) (ds ++ gs)).all (· ≤ reachBytes) = true := hsz0
 have hval : ∀ (j : Nat) t v, Tryd.f5.params[j]? = some t → args[j]? = some v → Value.okWide Tryd.prog W .any base t v := hval0
 have hW' := hW
 obtain ⟨p, q, hA0, hV, rfl, hfz, hnd⟩ := hW
 have hA : DataW.TrodAll enc Tryd.prog W 0 (fun _ => true) true Tryd.f5.params.toList args.toList ds p := hA0
 rw [Tryd.params5] at hA hval hsz
 obtain ⟨v0, vs0, d0, ds0, p0, q0, hargs, rfl, rfl, h0, r0⟩ := trodAll_cons hA
 obtain ⟨rfl, rfl, rfl⟩ := trodAll_nil r0
 obtain rfl : args = #[v0] := by cases args; simp_all
 obtain ⟨rfl, rfl⟩ := trodVars_none hV
 have k0 := h0
 have lt0 : ∀ x ∈ p0, x.block < W.heap.size := by obtain ⟨m, hm⟩ := k0; exact DataW.trod_lt m _ _ _ hm
 obtain ⟨fu0, hf0⟩ := h0
 obtain ⟨x0, hK0, hO0⟩ := op25.go hf0 (fun n hn => of_decide_eq_true (List.all_eq_true.1 hsz n (DataW.weights_mem_each (j := 0) (t := 25) rfl rfl n hn)))
 obtain ⟨cs0, rfl⟩ := okWide_agg (.inl ⟨_, Tryd.underlying25⟩) (hval 0 25 v0 rfl rfl)
 obtain ⟨A0_3, c0_3, hcs0, hl0_3, hC0_3⟩ := k25_open hK0
 obtain rfl := agg_cells hcs0
 clear hA0 hval0 hsz0 hsz
 refine (P.tmesislaw10_SplitNames.walk Pure.SplitNames x0.f0 x0.f1 x0.f2 _ _ x0.f3 W (P.Gl_of_laid hL) hC0_3 hl0_3 (hO0.1) (hO0.2.1) (hO0.2.2.1) (hO0.2.2.2)).mono fun e W' ⟨he, bel⟩ => ?_
 subst he
 exact ⟨_, rfl, _, _, _, [], _, [], hW', trodAll_mk1 (shut_bool Tryd.underlying4 _), (trodAll_cons_mk (Below.trod laidOut (by kernel_rfl) (of_decide_eq_true (by kernel_rfl)) k0 bel lt0) trodAll_mk0), rfl, bel.frame _, fun h => by cases h⟩
theorem over : Rows.splitNamesRow.holds Tryd.pinned (OpenSpec.ofChange Rows.splitNamesSpec) :=
 OpenClaim.holds_of_wide 5 Tryd.f5 rfl rfl rfl rfl rfl rfl rfl ⟨rfl, rfl, rfl, rfl, rfl⟩ rfl rfl rfl rfl rfl (by kernel_rfl) Tryd.func5 (by kernel_rfl)
  (of_decide_eq_true (by kernel_rfl)) (by unfold Func.isWrapper; first | (rw [if_pos (by decide +kernel)]; kernel_rfl) | (rw [if_neg (by decide +kernel)]; exact ⟨rfl, rfl⟩))
  (fun os started H enc _ => lifted os started H enc)
theorem card_holds : Rows.SplitNamesCardSaid :=
 Claim7.holds_tied_plain_at .later [] [.data] true (true, "7e1cbc1876e139c6474b7c536a8d6fe1ef3f6f7140b70ead42bb9658c23d1be5") false
  over (fun _ h => by cases h) (by kernel_rfl) (fun _ h => by cases h) splitNames_row_tie rfl ⟨rfl, rfl⟩ (by kernel_rfl) rfl
  (fun f fn hf hfn => by
   obtain rfl : f = 5 := Option.some.inj ((show Tryd.prog.funcNamed "tmesis/tmesislaw10.SplitNames" = some 5 by kernel_rfl).symm.trans hf) |>.symm
   obtain rfl : fn = Tryd.f5 := (Option.some.inj (Tryd.func5.symm.trans hfn)).symm
   exact ⟨by kernel_rfl, fun j t ht => by
   rw [Tryd.params5] at ht
   have hm : t ∈ [25] := by simpa using Array.mem_of_getElem? ht
   have hall : ([25].all fun u => !Tryd.prog.wantsStandIn u) = true := by kernel_rfl
   exact (show Tryd.prog.wantsStandIn t = false by simpa using List.all_eq_true.1 hall t hm)⟩)
  (by kernel_rfl)
theorem proved : Rows.SplitNamesCardSaid := card_holds
#print axioms proved
end Go.Proofs.YtpkklbdclghcfaaDoor.splitNames
namespace Go.Proofs.YtpkklbdclghcfaaDoor
/-- The row, under a short name, for the claim. -/
theorem splitNames_holds : Rows.SplitNamesCardSaid := splitNames.proved
end Go.Proofs.YtpkklbdclghcfaaDoor
