/- The clauses of any bytes, and what any clause is made of, and how deep it is, is as the reference says. No conditions. -/
import Derived.Test.YtpkklbdclghcfaaDoorKHL
import Derived.Test.YtpkklbdclghcfaaDoorKOp
import Derived.Test.YtpkklbdclghcfaaDoorKPx20
import Derived.Test.YtpkklbdclghcfaaDoorMX1
import Derived.Test.YtpkklbdclghcfaaDoorRows
import Derived.WalkKit
import Derived.ProofKit
import Derived.OpenShut
import Derived.ShutString
import Derived.ChangeOld
import Derived.Below
import Derived.SizedLaws
import Derived.Handed
import Derived.LaidMore
import Derived.Stop.Joined
import Derived.SevenTiedAt
import Derived.Test.YtpkklbdclghcfaaDoorCards
import Derived.Test.YtpkklbdclghcfaaDoorTie
import Derived.ChangeSlices
namespace Go.Proofs.YtpkklbdclghcfaaDoor.splitAll
open Go.ChangeShapes Go.WideShapes Go.ChangeAt Go.RowKit
open Go.ChangeMaps (open_string shut_string)
set_option linter.unusedVariables false
open Go.Proofs.YtpkklbdclghcfaaDoor.P Go.Proofs.YtpkklbdclghcfaaDoorW.PrintWords
theorem op38 : Op_ Tryd.prog k38 38 ok38 := op_iso (op_struct Tryd.underlying38 (by kernel_rfl) (opF_cons (op_int Tryd.underlying3 (by kernel_rfl)) rfl rfl rfl (opF_cons (op_int Tryd.underlying3 (by kernel_rfl)) rfl rfl rfl (opF_cons (op_int Tryd.underlying3 (by kernel_rfl)) rfl rfl rfl (opF_cons (op_string Tryd.underlying9 (by kernel_rfl)) rfl rfl rfl (opF_one (op_int Tryd.underlying36 (by kernel_rfl)) rfl rfl)))))) (fun x : S38 => (x.f0, x.f1, x.f2, x.f3, x.f4)) (fun a => ⟨a.1, a.2.1, a.2.2.1, a.2.2.2.1, a.2.2.2.2⟩) (fun _ => rfl) (fun _ h => h)
theorem op25 : Op_ Tryd.prog k25 25 ok25 := op_iso (op_struct Tryd.underlying25 (by kernel_rfl) (opF_cons (op_int Tryd.underlying3 (by kernel_rfl)) rfl rfl rfl (opF_cons (op_int Tryd.underlying3 (by kernel_rfl)) rfl rfl rfl (opF_cons (op_int Tryd.underlying3 (by kernel_rfl)) rfl rfl rfl (opF_one (op_slice Tryd.underlying23 (by kernel_rfl) (by kernel_rfl) op38) rfl rfl))))) (fun x : S25 => (x.f0, x.f1, x.f2, x.f3)) (fun a => ⟨a.1, a.2.1, a.2.2.1, a.2.2.2⟩) (fun _ => rfl) (fun _ h => h)
theorem own : ownKnob Tryd.prog.godebug = none := by kernel_rfl
theorem laidOut : laidOutB Tryd.prog = true := by kernel_rfl
set_option maxRecDepth 100000 in
theorem lifted (os : Os) (started : os.Started) (H : Type) (enc : TypeId × Value → H) :
  ReturnsInHanded {} Tryd.checked os 3 .any (fun w args => (Rows.splitAllSpec.pre enc Tryd.prog Tryd.f3 [] false w args ∧ laidMetH Tryd.prog [("tmesis/class.members", Rows.laid_tmesis_class_members)] w) ∧ sizedMet enc Tryd.prog Tryd.f3 (OpenSpec.ofChange Rows.splitAllSpec) false w args) (Rows.splitAllSpec.post enc Tryd.prog Tryd.f3 false true false false) := by
 refine returnsInHanded_of_change_and (C := Tryd.checked) (X := fun w _ => laidMetH Tryd.prog [("tmesis/class.members", Rows.laid_tmesis_class_members)] w) (fun _ _ _ hh h => h.of_heap hh) own started (by kernel_rfl) Tryd.func3
  (ChangeSpec.witness_shaped (enc := enc) (C := Tryd.checked) (os := os) (X := fun w _ => laidMetH Tryd.prog [("tmesis/class.members", Rows.laid_tmesis_class_members)] w) false (World.doorLaid Tryd.prog 400 os) #[.slice none 0 0, .agg #[.int .i64 0, .int .i64 0, .int .i64 0, .slice none 0 0]] 8 rfl (World.shaped_of_RefB (by kernel_rfl) (by kernel_rfl)) (by kernel_rfl) (by kernel_rfl) (by kernel_rfl) (laidMetH_of_parts3 (fuel := 8) (laidMet_of_run' 8 (by kernel_rfl) (by kernel_rfl)) (by kernel_rfl) (by kernel_rfl))) ?_
 intro W base args ds gs before hval0 hW hcnd hsz0 hL _
 have hsz : (DataW.weightsEach Tryd.prog (Tryd.f3.params.toList ++ Rows.splitAllSpec.plain.varTypes Tryd.prog) (ds ++ gs)).all (· ≤ reachBytes) = true := hsz0
 have hval : ∀ (j : Nat) t v, Tryd.f3.params[j]? = some t → args[j]? = some v → Value.okWide Tryd.prog W .any base t v := hval0
 have hW' := hW
 obtain ⟨p, q, hA0, hV, rfl, hfz, hnd⟩ := hW
 have hA : DataW.TrodAll enc Tryd.prog W 0 (fun _ => true) true Tryd.f3.params.toList args.toList ds p := hA0
 rw [Tryd.params3] at hA hval hsz
 obtain ⟨v0, vs0, d0, ds0, p0, q0, hargs, rfl, rfl, h0, r0⟩ := trodAll_cons hA
 obtain ⟨v1, vs1, d1, ds1, p1, q1, rfl, rfl, rfl, h1, r1⟩ := trodAll_cons r0
 obtain ⟨rfl, rfl, rfl⟩ := trodAll_nil r1
 obtain rfl : args = #[v0, v1] := by cases args; simp_all
 obtain ⟨rfl, rfl⟩ := trodVars_none hV
 have k0 := h0
 have lt0 : ∀ x ∈ p0, x.block < W.heap.size := by obtain ⟨m, hm⟩ := k0; exact DataW.trod_lt m _ _ _ hm
 obtain ⟨fu0, hf0⟩ := h0
 obtain ⟨x0, hK0, hO0⟩ := (op_slice (B := 1) Tryd.underlying22 (by kernel_rfl) (by kernel_rfl) (op_int Tryd.underlying5 (by kernel_rfl))).go hf0 (fun n hn => of_decide_eq_true (List.all_eq_true.1 hsz n (DataW.weights_mem_each (j := 0) (t := 22) rfl rfl n hn)))
 obtain ⟨a0, len0, cap0, rfl⟩ := okWide_slice Tryd.underlying22 (hval 0 22 v0 rfl rfl)
 obtain ⟨A0, c0, hcs0, hl0, hC0⟩ := hK0
 simp [Value.cells] at hcs0
 obtain ⟨rfl, rfl, rfl⟩ := hcs0
 have k1 := h1
 have lt1 : ∀ x ∈ p1, x.block < W.heap.size := by obtain ⟨m, hm⟩ := k1; exact DataW.trod_lt m _ _ _ hm
 obtain ⟨fu1, hf1⟩ := h1
 obtain ⟨x1, hK1, hO1⟩ := op25.go hf1 (fun n hn => of_decide_eq_true (List.all_eq_true.1 hsz n (DataW.weights_mem_each (j := 1) (t := 25) rfl rfl n hn)))
 obtain ⟨cs1, rfl⟩ := okWide_agg (.inl ⟨_, Tryd.underlying25⟩) (hval 1 25 v1 rfl rfl)
 obtain ⟨A1_3, c1_3, hcs1, hl1_3, hC1_3⟩ := k25_open hK1
 obtain rfl := agg_cells hcs1
 clear hA0 hval0 hsz0 hsz
 refine (P.tmesislaw10_SplitAll.walk Pure.SplitAll _ _ x0 x1.f0 x1.f1 x1.f2 _ _ x1.f3 W (P.Gl_of_laid hL) hC0 hl0 hC1_3 hl1_3 (hO0) (hO1.1) (hO1.2.1) (hO1.2.2.1) (hO1.2.2.2)).mono fun e W' ⟨he, bel⟩ => ?_
 subst he
 exact ⟨_, rfl, _, _, _, [], _, [], hW', trodAll_mk1 (shut_bool Tryd.underlying4 _), (trodAll_cons_mk (Below.trod laidOut (by kernel_rfl) (of_decide_eq_true (by kernel_rfl)) k0 bel lt0) (trodAll_cons_mk (Below.trod laidOut (by kernel_rfl) (of_decide_eq_true (by kernel_rfl)) k1 bel lt1) trodAll_mk0)), rfl, bel.frame _, fun h => by cases h⟩
theorem over : Rows.splitAllRow.holds Tryd.pinned (OpenSpec.ofChange Rows.splitAllSpec) :=
 OpenClaim.holds_of_wide 3 Tryd.f3 rfl rfl rfl rfl rfl rfl rfl ⟨rfl, rfl, rfl, rfl, rfl⟩ rfl rfl rfl rfl rfl (by kernel_rfl) Tryd.func3 (by kernel_rfl)
  (of_decide_eq_true (by kernel_rfl)) (by unfold Func.isWrapper; first | (rw [if_pos (by decide +kernel)]; kernel_rfl) | (rw [if_neg (by decide +kernel)]; exact ⟨rfl, rfl⟩))
  (fun os started H enc _ => lifted os started H enc)
theorem card_holds : Rows.SplitAllCardSaid :=
 Claim7.holds_tied_plain_at .later [] [.data] true (true, "7e1cbc1876e139c6474b7c536a8d6fe1ef3f6f7140b70ead42bb9658c23d1be5") false
  over (fun _ h => by cases h) (by kernel_rfl) (fun _ h => by cases h) splitAll_row_tie rfl ⟨rfl, rfl⟩ (by kernel_rfl) rfl
  (fun f fn hf hfn => by
   obtain rfl : f = 3 := Option.some.inj ((show Tryd.prog.funcNamed "tmesis/tmesislaw10.SplitAll" = some 3 by kernel_rfl).symm.trans hf) |>.symm
   obtain rfl : fn = Tryd.f3 := (Option.some.inj (Tryd.func3.symm.trans hfn)).symm
   exact ⟨by kernel_rfl, fun j t ht => by
   rw [Tryd.params3] at ht
   have hm : t ∈ [22, 25] := by simpa using Array.mem_of_getElem? ht
   have hall : ([22, 25].all fun u => !Tryd.prog.wantsStandIn u) = true := by kernel_rfl
   exact (show Tryd.prog.wantsStandIn t = false by simpa using List.all_eq_true.1 hall t hm)⟩)
  (by kernel_rfl)
theorem proved : Rows.SplitAllCardSaid := card_holds
#print axioms proved
end Go.Proofs.YtpkklbdclghcfaaDoor.splitAll
namespace Go.Proofs.YtpkklbdclghcfaaDoor
/-- The row, under a short name, for the claim. -/
theorem splitAll_holds : Rows.SplitAllCardSaid := splitAll.proved
end Go.Proofs.YtpkklbdclghcfaaDoor
