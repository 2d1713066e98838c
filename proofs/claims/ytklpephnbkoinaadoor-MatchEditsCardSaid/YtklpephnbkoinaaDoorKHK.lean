/- Part of the proof: what the theorem needs of this text. -/
import Derived.Test.YtklpephnbkoinaaDoorKHW
namespace Go.Proofs.YtklpephnbkoinaaDoor.P
set_option linter.unusedSimpArgs false
set_option linter.unusedVariables false
open Go.RowKit Go.Proofs.YtklpephnbkoinaaDoorW.PrintWords Go.Proofs.YtklpephnbkoinaaDoorW.PrintLast Go.Proofs.YtklpephnbkoinaaDoorW.PrintMore
section
variable {P : Program} {ops : Array Oper} {Q : Exit → Act → World → Prop}
theorem kexec_ {oi : Oper} {a : Act} {w : World} {f : FuncId} {fn : Func} {x : Operand} {as_ : Array Operand} {ts : Array TypeId} (caps : Array Value) (hf : P.funcs[f]? = some fn) (hname : (fn.name == "runtime.NumGoroutine") = false) (hb : fn.body.isSome = true) (args : Array Value)
  (hop : oi.op = .call { callee := .value x, args := as_, argTypes := ts }) (hx : a.eval x = .func (.func f) #[] caps) {args1 : Array Value} (hargs : as_.map a.eval = args1) (hap : args1.toList ++ caps.toList = args.toList) : (execOp a.eval oi).run P w = .ok (.enter f args) w := by
 have he := enters_ hf hname hb args w
 unfold execOp
 have hap2 : args1 ++ caps = args := by cases args1; cases caps; cases args; simpa using hap
 simp [hop, resolve, Deferred.ofValue, invoke, hx, hargs, hap2, he]
/-- in a region that draws -/
theorem goesK_ {oi : Oper} {N : Option Tmp} {a : Act} {w : World} {K : Act → World → Prop} {f : FuncId} {fn : Func} {x : Operand} {as_ : Array Operand} {ts : Array TypeId} (caps : Array Value) (hf : P.funcs[f]? = some fn) (hname : (fn.name == "runtime.NumGoroutine") = false) (hb : fn.body.isSome = true) (args : Array Value)
  (hx : a.eval x = .func (.func f) #[] caps) (hw : Region.wanted oi (yielded ops a.tmps) = true) (hN : oi.dst = N) (hop : oi.op = .call { callee := .value x, args := as_, argTypes := ts }) {args1 : Array Value} (hargs : as_.map a.eval = args1) (hap : args1.toList ++ caps.toList = args.toList)
  (h : Calls P f args w fun e w' => ∃ v, e = .returned v ∧ K (a.put N v) w') : if Region.wanted oi (yielded ops a.tmps) = true then Oper.wp P oi a w K Q else K (a.put N undef) w :=
 call_ f args hw hN (kexec_ caps hf hname hb args hop hx hargs hap) h
/-- in a plain region -/
theorem gLK {rest : List Oper} {oi : Oper} {a : Act} {w : World} (N : Option Tmp) {f : FuncId} {fn : Func} (caps : Array Value) (hf : P.funcs[f]? = some fn) (args : Array Value) {x : Operand} {as_ : Array Operand} {ts : Array TypeId}
  (hop : oi.op = .call { callee := .value x, args := as_, argTypes := ts }) (hx : a.eval x = .func (.func f) #[] caps) {args1 : Array Value} (hargs : as_.map a.eval = args1) (hap : args1.toList ++ caps.toList = args.toList)
  (h : Calls P f args w fun e w' => ∃ v, e = .returned v ∧ wpList P ops Q rest (a.put N v) w') (hd : oi.dst = N := by rfl) (hg : oi.guard = none := by rfl) (hname : (fn.name == "runtime.NumGoroutine") = false := by kernel_rfl) (hb : fn.body.isSome = true := by rfl) : wpList P ops Q (oi :: rest) a w := by
 refine wpList_plain hg fun K hK => ?_
 have hrun := kexec_ (w := w) caps hf hname hb args hop hx hargs hap
 unfold Oper.wp
 rw [hrun, Oper.upon_enter]
 refine h.mono fun e w'' hh => ?_
 obtain ⟨v, rfl, hk⟩ := hh
 subst hd
 exact hK _ _ hk
end
end Go.Proofs.YtklpephnbkoinaaDoor.P
