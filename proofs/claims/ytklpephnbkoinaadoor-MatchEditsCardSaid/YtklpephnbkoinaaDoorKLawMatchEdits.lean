/- Of an edited text the first clauses that end ahead of the edit are kept; what is kept says the same; of a text that is not changed all are. No conditions. -/
import Derived.Test.YtklpephnbkoinaaDoorKHL
import Derived.Test.YtklpephnbkoinaaDoorKOp
import Derived.Test.YtklpephnbkoinaaDoorKPx12
import Derived.Test.YtklpephnbkoinaaDoorMX1
import Derived.Test.YtklpephnbkoinaaDoorRows
import Derived.WalkKit
import Derived.ProofKit
import Derived.OpenShut
import Derived.ShutString
import Derived.ChangeOld
import Derived.Below
import Derived.SizedLaws
import Derived.Handed
import Derived.LaidMore
import Derived.Stop.Joined
import Derived.SevenTiedAt
import Derived.Test.YtklpephnbkoinaaDoorCards
import Derived.Test.YtklpephnbkoinaaDoorTie
import Derived.ChangeSlices
namespace Go.Proofs.YtklpephnbkoinaaDoor.matchEdits
open Go.ChangeShapes Go.WideShapes Go.ChangeAt Go.RowKit
open Go.ChangeMaps (open_string shut_string)
set_option linter.unusedVariables false
open Go.Proofs.YtklpephnbkoinaaDoor.P Go.Proofs.YtklpephnbkoinaaDoorW.PrintWords
theorem op33 : Op_ Tryd.prog k33 33 ok33 := op_iso (op_struct Tryd.underlying33 (by kernel_rfl) (opF_cons (op_int Tryd.underlying3 (by kernel_rfl)) rfl rfl rfl (opF_cons (op_int Tryd.underlying3 (by kernel_rfl)) rfl rfl rfl (opF_one (op_slice (B := 1) Tryd.underlying22 (by kernel_rfl) (by kernel_rfl) (op_int Tryd.underlying5 (by kernel_rfl))) rfl rfl)))) (fun x : S33 => (x.f0, x.f1, x.f2)) (fun a => ⟨a.1, a.2.1, a.2.2⟩) (fun _ => rfl) (fun _ h => h)
theorem own : ownKnob Tryd.prog.godebug = none := by kernel_rfl
theorem laidOut : laidOutB Tryd.prog = true := by kernel_rfl
set_option maxRecDepth 100000 in
theorem lifted (os : Os) (started : os.Started) (H : Type) (enc : TypeId × Value → H) :
  ReturnsInHanded {} Tryd.checked os 4 .any (fun w args => (Rows.matchEditsSpec.pre enc Tryd.prog Tryd.f4 [] false w args ∧ laidMetH Tryd.prog [("tmesis/class.members", Rows.laid_tmesis_class_members)] w) ∧ sizedMet enc Tryd.prog Tryd.f4 (OpenSpec.ofChange Rows.matchEditsSpec) false w args) (Rows.matchEditsSpec.post enc Tryd.prog Tryd.f4 false true false false) := by
 refine returnsInHanded_of_change_and (C := Tryd.checked) (X := fun w _ => laidMetH Tryd.prog [("tmesis/class.members", Rows.laid_tmesis_class_members)] w) (fun _ _ _ hh h => h.of_heap hh) own started (by kernel_rfl) Tryd.func4
  (ChangeSpec.witness_shaped (enc := enc) (C := Tryd.checked) (os := os) (X := fun w _ => laidMetH Tryd.prog [("tmesis/class.members", Rows.laid_tmesis_class_members)] w) false (World.doorLaid Tryd.prog 400 os) #[.slice none 0 0, .agg #[.int .i64 0, .int .i64 0, .slice none 0 0]] 8 rfl (World.shaped_of_RefB (by kernel_rfl) (by kernel_rfl)) (by kernel_rfl) (by kernel_rfl) (by kernel_rfl) (laidMetH_of_parts3 (fuel := 8) (laidMet_of_run' 8 (by kernel_rfl) (by kernel_rfl)) (by kernel_rfl) (by kernel_rfl))) ?_
 intro W base args ds gs before hval0 hW hcnd hsz0 hL _
 have hsz : (DataW.weightsEach Tryd.prog (Tryd.f4.params.toList ++ Rows.matchEditsSpec.plain.varTypes Tryd.prog) (ds ++ gs)).all (· ≤ reachBytes) = true := hsz0
 have hval : ∀ (j : Nat) t v, Tryd.f4.params[j]? = some t → args[j]? = some v → Value.okWide Tryd.prog W .any base t v := hval0
 have hW' := hW
 obtain ⟨p, q, hA0, hV, rfl, hfz, hnd⟩ := hW
 have hA : DataW.TrodAll enc Tryd.prog W 0 (fun _ => true) true Tryd.f4.params.toList args.toList ds p := hA0
 rw [Tryd.params4] at hA hval hsz
 obtain ⟨v0, vs0, d0, ds0, p0, q0, hargs, rfl, rfl, h0, r0⟩ := trodAll_cons hA
 obtain ⟨v1, vs1, d1, ds1, p1, q1, rfl, rfl, rfl, h1, r1⟩ := trodAll_cons r0
 obtain ⟨rfl, rfl, rfl⟩ := trodAll_nil r1
 obtain rfl : args = #[v0, v1] := by cases args; simp_all
 obtain ⟨rfl, rfl⟩ := trodVars_none hV
 have k0 := h0
 have lt0 : ∀ x ∈ p0, x.block < W.heap.size := by obtain ⟨m, hm⟩ := k0; exact DataW.trod_lt m _ _ _ hm
 obtain ⟨fu0, hf0⟩ := h0
 obtain ⟨x0, hK0, hO0⟩ := (op_slice (B := 1) Tryd.underlying22 (by kernel_rfl) (by kernel_rfl) (op_int Tryd.underlying5 (by kernel_rfl))).go hf0 (fun n hn => of_decide_eq_true (List.all_eq_true.1 hsz n (DataW.weights_mem_each (j := 0) (t := 22) rfl rfl n hn)))
 obtain ⟨a0, len0, cap0, rfl⟩ := okWide_slice Tryd.underlying22 (hval 0 22 v0 rfl rfl)
 obtain ⟨A0, c0, hcs0, hl0, hC0⟩ := hK0
 simp [Value.cells] at hcs0
 obtain ⟨rfl, rfl, rfl⟩ := hcs0
 have k1 := h1
 have lt1 : ∀ x ∈ p1, x.block < W.heap.size := by obtain ⟨m, hm⟩ := k1; exact DataW.trod_lt m _ _ _ hm
 obtain ⟨fu1, hf1⟩ := h1
 obtain ⟨x1, hK1, hO1⟩ := op33.go hf1 (fun n hn => of_decide_eq_true (List.all_eq_true.1 hsz n (DataW.weights_mem_each (j := 1) (t := 33) rfl rfl n hn)))
 obtain ⟨cs1, rfl⟩ := okWide_agg (.inl ⟨_, Tryd.underlying33⟩) (hval 1 33 v1 rfl rfl)
 obtain ⟨A1_2, c1_2, hcs1, hl1_2, hC1_2⟩ := k33_open hK1
 obtain rfl := agg_cells hcs1
 clear hA0 hval0 hsz0 hsz
 refine (P.tmesislaw24_MatchEdits.walk Pure.MatchEdits _ _ x0 x1.f0 x1.f1 _ _ x1.f2 W (P.Gl_of_laid hL) hC0 hl0 hC1_2 hl1_2 (hO0) (hO1.1) (hO1.2.1) (hO1.2.2)).mono fun e W' ⟨he, bel⟩ => ?_
 subst he
 exact ⟨_, rfl, _, _, _, [], _, [], hW', trodAll_mk1 (shut_bool Tryd.underlying4 _), (trodAll_cons_mk (Below.trod laidOut (by kernel_rfl) (of_decide_eq_true (by kernel_rfl)) k0 bel lt0) (trodAll_cons_mk (Below.trod laidOut (by kernel_rfl) (of_decide_eq_true (by kernel_rfl)) k1 bel lt1) trodAll_mk0)), rfl, bel.frame _, fun h => by cases h⟩
theorem over : Rows.matchEditsRow.holds Tryd.pinned (OpenSpec.ofChange Rows.matchEditsSpec) :=
 OpenClaim.holds_of_wide 4 Tryd.f4 rfl rfl rfl rfl rfl rfl rfl ⟨rfl, rfl, rfl, rfl, rfl⟩ rfl rfl rfl rfl rfl (by kernel_rfl) Tryd.func4 (by kernel_rfl)
  (of_decide_eq_true (by kernel_rfl)) (by unfold Func.isWrapper; first | (rw [if_pos (by decide +kernel)]; kernel_rfl) | (rw [if_neg (by decide +kernel)]; exact ⟨rfl, rfl⟩))
  (fun os started H enc _ => lifted os started H enc)
theorem card_holds : Rows.MatchEditsCardSaid :=
 Claim7.holds_tied_plain_at .later [] [.data] true (true, "32885446801f340353351e936d234f6fd633d9369a2d644061a739b225ca83d4") false
  over (fun _ h => by cases h) (by kernel_rfl) (fun _ h => by cases h) matchEdits_row_tie rfl ⟨rfl, rfl⟩ (by kernel_rfl) rfl
  (fun f fn hf hfn => by
   obtain rfl : f = 4 := Option.some.inj ((show Tryd.prog.funcNamed "tmesis/tmesislaw24.MatchEdits" = some 4 by kernel_rfl).symm.trans hf) |>.symm
   obtain rfl : fn = Tryd.f4 := (Option.some.inj (Tryd.func4.symm.trans hfn)).symm
   exact ⟨by kernel_rfl, fun j t ht => by
   rw [Tryd.params4] at ht
   have hm : t ∈ [22, 33] := by simpa using Array.mem_of_getElem? ht
   have hall : ([22, 33].all fun u => !Tryd.prog.wantsStandIn u) = true := by kernel_rfl
   exact (show Tryd.prog.wantsStandIn t = false by simpa using List.all_eq_true.1 hall t hm)⟩)
  (by kernel_rfl)
theorem proved : Rows.MatchEditsCardSaid := card_holds
#print axioms proved
end Go.Proofs.YtklpephnbkoinaaDoor.matchEdits
namespace Go.Proofs.YtklpephnbkoinaaDoor
/-- The row, under a short name, for the claim. -/
theorem matchEdits_holds : Rows.MatchEditsCardSaid := matchEdits.proved
end Go.Proofs.YtklpephnbkoinaaDoor
