/- Part of the proof: what the theorem needs of this text. -/
import Derived.Test.YtihgfoekjelkbaaDoorMW1
import Derived.Test.YtihgfoekjelkbaaDoorProg
import Derived.WalkKit
import Derived.ChangeKeysEq
import Derived.KernelRfl
namespace Go.Proofs.YtihgfoekjelkbaaDoor.P
set_option linter.unusedSimpArgs false
set_option linter.unusedVariables false
section
variable {P : Program} {d : Nat} {e : TypeId} {c i : Nat} {xs ys : Array Value} {is : List Nat} {a b : Value} {r s : Bool} {w : World}
theorem eqi_last (ha : (part e xs (i * c)).run P w = .ok a w) (hb : (part e ys (i * c)).run P w = .ok b w) (he : (Op.equalIn d e a b).run P w = .ok r w) : (Op.eqItems d e c xs ys [i]).run P w = .ok r w := by
 simp only [Op.eqItems, Sem.run_bind, ha, hb, he, Result.andThen_ok]
 cases r <;> simp
theorem eqi_cons (ha : (part e xs (i * c)).run P w = .ok a w) (hb : (part e ys (i * c)).run P w = .ok b w) (he : (Op.equalIn d e a b).run P w = .ok r w) (hr : (Op.eqItems d e c xs ys is).run P w = .ok s w) : (Op.eqItems d e c xs ys (i :: is)).run P w = .ok (r && s) w := by
 rw [Op.eqItems]
 simp only [Sem.run_bind, ha, hb, he, Result.andThen_ok]
 cases r
 ·simp
 ·simpa using hr
theorem eqI_of {t : TypeId} {n : Nat} (hu : P.underlying t = some (.array n e)) (hi : (P.info? e).isSome = true) (hc : P.cellsOf e = 1) (h : (Op.eqItems d e 1 xs ys (List.range n)).run P w = .ok r w) : (Op.equalIn (d + 1) t (.agg xs) (.agg ys)).run P w = .ok r w := by
 rw [Go.run_equalIn_array (i := (P.info? e).get hi) w d xs ys hu (Option.some_get hi).symm, hc]
 exact h
end
end Go.Proofs.YtihgfoekjelkbaaDoor.P
