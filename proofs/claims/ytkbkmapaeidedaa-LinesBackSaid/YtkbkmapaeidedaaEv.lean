/- Steps for 'with rounds enough it answers r' (the kit's Ev), and small sums. -/
import Derived.Test.YtkbkmapaeidedaaWMore
namespace Go.Proofs.Ytkbkmapaeidedaa.P
set_option linter.unusedSimpArgs false
set_option linter.unusedVariables false
open Go.RowKit Go.Proofs.YtkbkmapaeidedaaW.PrintWords Go.Proofs.YtkbkmapaeidedaaW.PrintLast Go.Proofs.YtkbkmapaeidedaaW.PrintMore
section
variable {α β : Type}
theorem ev_if {c : Prop} [Decidable c] {a b : Nat → Option α} {r : α} (hc : c) (h : Ev a r) : Ev (fun k => if c then a k else b k) r := by simpa only [if_pos hc] using h
theorem ev_else {c : Prop} [Decidable c] {a b : Nat → Option α} {r : α} (hc : ¬ c) (h : Ev b r) : Ev (fun k => if c then a k else b k) r := by simpa only [if_neg hc] using h
theorem ev_let {y : β} {f : Nat → β → Option α} {r : α} (h : Ev (fun k => f k y) r) : Ev (fun k => (some y).bind (f k)) r := h
theorem ev_same {o : Option β} {y : β} {f : Nat → β → Option α} {r : α} (ho : o = some y) (h : Ev (fun k => f k y) r) : Ev (fun k => o.bind (f k)) r := by subst ho; exact h
theorem ev_eq {g : Nat → Option α} {r r' : α} (h : Ev g r) (e : r = r') : Ev g r' := e ▸ h
theorem ev_now {r r' : α} (e : r = r') : Ev (fun _ => some r) r' := e ▸ Ev.now r
/-- Both ways to one answer. -/
theorem ev_ite {c : Prop} [Decidable c] {a b : Nat → Option α} {r s : α} (ha : c → Ev a r) (hb : ¬ c → Ev b s) : Ev (fun k => if c then a k else b k) (if c then r else s) := by
  by_cases hc : c
  · rw [if_pos hc]; exact ev_if hc (ha hc)
  · rw [if_neg hc]; exact ev_else hc (hb hc)
end
theorem w64 {i : Int} (h0 : -9223372036854775808 ≤ i) (h1 : i ≤ 9223372036854775807) : wrap64 i = i := by unfold wrap64; omega
theorem mn_le (n : Nat) (m : Int) (hm : 0 ≤ m) : (mn (n : Int) m).toNat = min n m.toNat := by unfold mn; split <;> omega
end Go.Proofs.Ytkbkmapaeidedaa.P
