/- Part of the proof: what the theorem needs of this text. -/
import Derived.Test.YtflekegjmjjdmaaDoorKHG
import Derived.Test.YtflekegjmjjdmaaDoorKHTX
import Derived.Test.YtflekegjmjjdmaaDoorKPx3
import Derived.Test.YtflekegjmjjdmaaDoorKPx8
import Derived.Test.YtflekegjmjjdmaaDoorKPx9
import Derived.Test.YtflekegjmjjdmaaDoorMW1
namespace Go.Proofs.YtflekegjmjjdmaaDoor.P
set_option linter.unusedSimpArgs false
set_option linter.unusedVariables false
open Go.RowKit Go.Proofs.YtflekegjmjjdmaaDoorW.PrintWords Go.Proofs.YtflekegjmjjdmaaDoorW.PrintLast Go.Proofs.YtflekegjmjjdmaaDoorW.PrintMore
section
variable {α β : Type}
theorem ev_if {c : Prop} [Decidable c] {a b : Nat → Option α} {r : α} (hc : c) (h : Ev a r) : Ev (fun k => if c then a k else b k) r := by simpa only [if_pos hc] using h
theorem ev_else {c : Prop} [Decidable c] {a b : Nat → Option α} {r : α} (hc : ¬ c) (h : Ev b r) : Ev (fun k => if c then a k else b k) r := by simpa only [if_neg hc] using h
theorem ev_now {r r' : α} (e : r = r') : Ev (fun _ => some r) r' := e ▸ Ev.now r
end
end Go.Proofs.YtflekegjmjjdmaaDoor.P
namespace Go.Proofs.YtflekegjmjjdmaaDoor.P
set_option linter.unusedSimpArgs false
set_option linter.unusedVariables false
open Go.RowKit Go.Proofs.YtflekegjmjjdmaaDoorW.PrintWords Go.Proofs.YtflekegjmjjdmaaDoorW.PrintLast Go.Proofs.YtflekegjmjjdmaaDoorW.PrintMore
theorem u8_wf {x : Int} (h : (Lit.int .u8 x).wf = true) : 0 ≤ x ∧ x < 256 := by
 simp [Lit.wf, IntKind.min, IntKind.max, IntKind.signed, IntKind.bits] at h
 omega
def Bytes (l : List Int) : Prop := ∀ x ∈ l, 0 ≤ x ∧ x < 256
theorem Bytes.take {l : List Int} (h : Bytes l) (n : Nat) : Bytes (l.take n) := fun x hx => h x (List.mem_of_mem_take hx)
theorem Bytes.drop {l : List Int} (h : Bytes l) (n : Nat) : Bytes (l.drop n) := fun x hx => h x (List.mem_of_mem_drop hx)
/-- a fact on each byte, asked one by one -/
theorem byte_all {p : Int → Prop} (h : ∀ n : Nat, n < 256 → p (n : Int)) {c : Int} (hc : 0 ≤ c ∧ c < 256) : p c := by
 have := h c.toNat (by omega)
 rwa [Int.toNat_of_nonneg hc.1] at this
end Go.Proofs.YtflekegjmjjdmaaDoor.P
namespace Go.Proofs.YtflekegjmjjdmaaDoor.Pure
set_option linter.unusedSimpArgs false
set_option linter.unusedVariables false
open Go.RowKit Go.Proofs.YtflekegjmjjdmaaDoor.P Go.Proofs.YtflekegjmjjdmaaDoorW.PrintWords Go.Proofs.YtflekegjmjjdmaaDoorW.PrintLast
set_option maxRecDepth 100000 in
theorem shown_ev : Ev (fun k => tmesislaw06_shown.f k) true := Ev.of (fun k => tmesislaw06_shown.mono k) (k := 20) (by decide +kernel)
/-- a token's kind, and whether there is one -/
def look (l : List Int) (a : Int) : Option (Int × Bool) := (token_Next.f 20 l a).map fun t => (t.1, t.2.2.2.2.2)
def ends (n : Int) : Bool := n == 32 || n == 9 || n == 10 || n == 13 || n == 37
set_option maxRecDepth 100000 in
theorem dot_all : ∀ n : Nat, n < 256 → look [46, (n : Int)] 0 = some (if ends (n : Int) then 7 else 2, true) := by decide +kernel
set_option maxRecDepth 100000 in
theorem two_all : ∀ n : Nat, n < 256 → look [46, 46, (n : Int)] 0 = some (2, true) := by decide +kernel
set_option maxRecDepth 100000 in
theorem ahead_all : ∀ n : Nat, n < 256 → look [(n : Int), 46] 1 = some (7, true) := by decide +kernel
set_option maxRecDepth 100000 in
theorem alone : look [46] 0 = some (7, true) := by decide +kernel
theorem of_look {l : List Int} {a kd : Int} (h : look l a = some (kd, true)) : ∃ t2 t3 t4 t5, Ev (fun k => token_Next.f k l a) (kd, t2, t3, t4, t5, true) := by
 obtain ⟨⟨t1, t2, t3, t4, t5, t6⟩, ht, e⟩ := Option.map_eq_some_iff.1 h
 simp only [Prod.mk.injEq] at e
 obtain ⟨rfl, rfl⟩ := e
 exact ⟨t2, t3, t4, t5, Ev.of (fun k => token_Next.mono l a k) ht⟩
theorem TokenDots : tmesislaw06_TokenDots.Pure := by
 intro a b ha hb
 have ha := u8_wf ha
 have hb := u8_wf hb
 have h1 := byte_all (p := fun n => look [46, n] 0 = some (if ends n then 7 else 2, true)) dot_all ha
 have h3 := byte_all (p := fun n => look [46, 46, n] 0 = some (2, true)) two_all ha
 have h4 := byte_all (p := fun n => look [n, 46] 1 = some (7, true)) ahead_all hb
 obtain ⟨x2, x3, x4, x5, e1⟩ := of_look h1
 obtain ⟨y2, y3, y4, y5, e2⟩ := of_look alone
 obtain ⟨z2, z3, z4, z5, e3⟩ := of_look h3
 obtain ⟨w2, w3, w4, w5, e4⟩ := of_look h4
 clear h1 h3 h4
 apply Ev.rounds
 unfold tmesislaw06_TokenDots.f
 refine Ev.bind shown_ev (Ev.bind e1 (Ev.bind e2 (Ev.bind e3 (Ev.bind e4 ?_))))
 clear e1 e2 e3 e4
 simp only
 have fin : ∀ en : Bool, ends a = en → Ev (fun k => tmesislaw06_TokenDots.j0 k true true true true true en (if ends a then 7 else 2) x2 x3 x4 x5 7 y2 y3 y4 y5 2 z2 z3 z4 z5 7 w2 w3 w4 w5) true := by
  intro en he
  rw [he]
  have st : Ev (fun k => tmesislaw06_TokenDots.j1 k ((7 : Int) == 7)) true := Ev.step (fun k => tmesislaw06_TokenDots.j1.eq_2 ..) (ev_now rfl)
  refine Ev.step (fun k => tmesislaw06_TokenDots.j0.eq_2 ..) (ev_if rfl (ev_if rfl ?_))
  cases en
  ·exact ev_if rfl (ev_else (by simp) (ev_if rfl (ev_if rfl (ev_if rfl (ev_if rfl (ev_if rfl (ev_if rfl st)))))))
  ·exact ev_if rfl (ev_if rfl (ev_if rfl (ev_if rfl (ev_if rfl (ev_if rfl (ev_if rfl st))))))
 by_cases c1 : a = 32
 ·exact ev_if c1 (fin true (by simp [ends, c1]))
 refine ev_else c1 ?_
 by_cases c2 : a = 9
 ·exact ev_if c2 (fin true (by simp [ends, c2]))
 refine ev_else c2 ?_
 by_cases c3 : a = 10
 ·exact ev_if c3 (fin true (by simp [ends, c3]))
 refine ev_else c3 ?_
 by_cases c4 : a = 13
 ·exact ev_if c4 (fin true (by simp [ends, c4]))
 exact ev_else c4 (fin _ (by simp [ends, c1, c2, c3, c4]))
end Go.Proofs.YtflekegjmjjdmaaDoor.Pure
