/- Part of the proof: what the theorem needs of this text. -/
import Derived.Test.YtihgfoekjelkbaaDoorKHG
import Derived.Test.YtihgfoekjelkbaaDoorKPx2
import Derived.Test.YtihgfoekjelkbaaDoorKPx3
import Derived.Test.YtihgfoekjelkbaaDoorMW1
namespace Go.Proofs.YtihgfoekjelkbaaDoor.P
set_option linter.unusedSimpArgs false
set_option linter.unusedVariables false
open Go.RowKit Go.Proofs.YtihgfoekjelkbaaDoorW.PrintWords Go.Proofs.YtihgfoekjelkbaaDoorW.PrintLast Go.Proofs.YtihgfoekjelkbaaDoorW.PrintMore
section
variable {α β : Type}
theorem ev_if {c : Prop} [Decidable c] {a b : Nat → Option α} {r : α} (hc : c) (h : Ev a r) : Ev (fun k => if c then a k else b k) r := by simpa only [if_pos hc] using h
theorem ev_else {c : Prop} [Decidable c] {a b : Nat → Option α} {r : α} (hc : ¬ c) (h : Ev b r) : Ev (fun k => if c then a k else b k) r := by simpa only [if_neg hc] using h
theorem ev_let {y : β} {f : Nat → β → Option α} {r : α} (h : Ev (fun k => f k y) r) : Ev (fun k => (some y).bind (f k)) r := h
theorem ev_eq {g : Nat → Option α} {r r' : α} (h : Ev g r) (e : r = r') : Ev g r' := e ▸ h
theorem ev_now {r r' : α} (e : r = r') : Ev (fun _ => some r) r' := e ▸ Ev.now r
end
theorem w64 {i : Int} (h0 : -9223372036854775808 ≤ i) (h1 : i ≤ 9223372036854775807) : wrap64 i = i := by unfold wrap64; omega
end Go.Proofs.YtihgfoekjelkbaaDoor.P
namespace Go.Proofs.YtihgfoekjelkbaaDoor.P
set_option linter.unusedSimpArgs false
set_option linter.unusedVariables false
open Go.RowKit Go.Proofs.YtihgfoekjelkbaaDoorW.PrintWords Go.Proofs.YtihgfoekjelkbaaDoorW.PrintLast Go.Proofs.YtihgfoekjelkbaaDoorW.PrintMore
theorem class_of (c : Int) : class_Of.f c = some (classOf c) := rfl
/-- how many first bytes are of a class -/
def runS (l : List Int) (cl : Int) : Nat := (l.takeWhile fun c => classOf c == cl).length
theorem runS_nil (cl : Int) : runS [] cl = 0 := rfl
theorem runS_cons (c : Int) (l : List Int) (cl : Int) : runS (c :: l) cl = if classOf c = cl then runS l cl + 1 else 0 := by
 unfold runS
 by_cases h : classOf c = cl <;> simp [List.takeWhile_cons, h]
theorem rd_at (l : List Int) (i : Nat) (h : i < l.length) : rd l (i : Int) = l[i] := by
 show l.getD i 0 = _
 simp [List.getD_eq_getElem?_getD, List.getElem?_eq_getElem h]
theorem run_loop (l : List Int) (cl : Int) (hl : l.length ≤ 9223372036854775806) (d : Nat) : ∀ i : Nat, d + i = l.length →
  Ev (fun k => class_Run.l0 k l cl l (l.length : Int) (i : Int)) ((i + runS (l.drop i) cl : Nat) : Int) := by
 induction d with
 | zero =>
  intro i hi
  refine Ev.step (fun k => class_Run.l0.eq_2 ..) (ev_else (by omega) (ev_now ?_))
  rw [List.drop_of_length_le (by omega), runS_nil]
  omega
 | succ d ih =>
  intro i hi
  have hlt : i < l.length := by omega
  refine Ev.step (fun k => class_Run.l0.eq_2 ..) (ev_if (by omega) (ev_if (by omega) (ev_if (by omega) ?_)))
  rw [rd_at l i hlt, class_of, List.drop_eq_getElem_cons hlt, runS_cons]
  refine ev_let ?_
  by_cases h : classOf l[i] = cl
  ·rw [if_pos h]
   refine ev_if h ?_
   rw [show wrap64 ((i : Int) + 1) = ((i + 1 : Nat) : Int) by rw [w64 (by omega) (by omega)]; omega]
   refine ev_eq (ih (i + 1) (by omega)) ?_
   omega
  ·rw [if_neg h]
   exact ev_else h (ev_now (by omega))
theorem run_ev (l : List Int) (cl : Int) (hl : l.length ≤ 9223372036854775806) : Ev (fun k => class_Run.f k l cl) (runS l cl : Int) := by
 refine ev_eq (run_loop l cl hl l.length 0 (by omega)) ?_
 simp
theorem u8_wf {x : Int} (h : (Lit.int .u8 x).wf = true) : 0 ≤ x ∧ x < 256 := by
 simp [Lit.wf, IntKind.min, IntKind.max, IntKind.signed, IntKind.bits] at h
 omega
def Bytes (l : List Int) : Prop := ∀ x ∈ l, 0 ≤ x ∧ x < 256
theorem Bytes.take {l : List Int} (h : Bytes l) (n : Nat) : Bytes (l.take n) := fun x hx => h x (List.mem_of_mem_take hx)
theorem Bytes.drop {l : List Int} (h : Bytes l) (n : Nat) : Bytes (l.drop n) := fun x hx => h x (List.mem_of_mem_drop hx)
end Go.Proofs.YtihgfoekjelkbaaDoor.P
namespace Go.Proofs.YtihgfoekjelkbaaDoor.Pure
set_option linter.unusedSimpArgs false
set_option linter.unusedVariables false
open Go.RowKit Go.Proofs.YtihgfoekjelkbaaDoor.P Go.Proofs.YtihgfoekjelkbaaDoorW.PrintWords Go.Proofs.YtihgfoekjelkbaaDoorW.PrintLast
theorem shown_ev : Ev (fun k => tmesislaw02_shown.f k) true := Ev.of (fun k => tmesislaw02_shown.mono k) (k := 6) (by decide +kernel)
/-- how many bytes below i are of a class -/
def many (cl : Int) : Nat → Nat
 | 0 => 0
 | i + 1 => many cl i + (if classOf (i : Int) = cl then 1 else 0)
theorem many_succ (cl : Int) (i : Nat) : many cl (i + 1) = many cl i + (if classOf (i : Int) = cl then 1 else 0) := rfl
theorem many_le (cl : Int) (i : Nat) : many cl i ≤ i := by
 induction i with
 | zero => exact Nat.le_refl _
 | succ i ih => rw [many_succ]; split <;> omega
theorem class_all : ∀ n : Nat, n < 256 → 0 ≤ classOf (n : Int) ∧ classOf (n : Int) ≤ 9 := by decide +kernel
theorem count_loop (a b c : Int) (R : Bool) (d : Nat) : ∀ i : Nat, i + d = 256 →
  Ev (fun k => tmesislaw02_ClassCount.l0 k a b c true (256 : Int) (many 0 256) (many 1 256) (many 2 256) (many 3 256) (many 4 256) (many 5 256) (many 6 256) (many 7 256) (many 8 256) (many 9 256)) R →
  Ev (fun k => tmesislaw02_ClassCount.l0 k a b c true (i : Int) (many 0 i) (many 1 i) (many 2 i) (many 3 i) (many 4 i) (many 5 i) (many 6 i) (many 7 i) (many 8 i) (many 9 i)) R := by
 induction d with
 | zero =>
  intro i hi h
  obtain rfl : i = 256 := by omega
  exact h
 | succ d ih =>
  intro i hi h
  have e := ih (i + 1) (by omega) h
  have hr := class_all i (by omega)
  have w1 : wrap64 ((i : Int) + 1) = ((i + 1 : Nat) : Int) := by rw [w64 (by omega) (by omega)]; omega
  have wm : ∀ cl : Int, wrap64 ((many cl i : Int) + 1) = ((many cl i + 1 : Nat) : Int) := fun cl => by
   have := many_le cl i
   rw [w64 (by omega) (by omega)]; omega
  refine Ev.step (fun k => tmesislaw02_ClassCount.l0.eq_2 ..) (ev_if (by omega) ?_)
  rw [show (i : Int) % 256 = (i : Int) by omega, class_of, w1]
  simp only [wm]
  refine ev_let (ev_else (by omega) (ev_else (by omega) ?_))
  generalize hc : classOf (i : Int) = cl at hr
  have up : ∀ q : Int, many q (i + 1) = many q i + (if cl = q then 1 else 0) := fun q => by rw [many_succ, hc]
  simp only [up] at e
  by_cases c0 : cl = 0
  ·subst c0; exact ev_if rfl e
  refine ev_else c0 ?_
  by_cases c1 : cl = 1
  ·subst c1; exact ev_if rfl e
  refine ev_else c1 ?_
  by_cases c2 : cl = 2
  ·subst c2; exact ev_if rfl e
  refine ev_else c2 ?_
  by_cases c3 : cl = 3
  ·subst c3; exact ev_if rfl e
  refine ev_else c3 ?_
  by_cases c4 : cl = 4
  ·subst c4; exact ev_if rfl e
  refine ev_else c4 ?_
  by_cases c5 : cl = 5
  ·subst c5; exact ev_if rfl e
  refine ev_else c5 ?_
  by_cases c6 : cl = 6
  ·subst c6; exact ev_if rfl e
  refine ev_else c6 ?_
  by_cases c7 : cl = 7
  ·subst c7; exact ev_if rfl e
  refine ev_else c7 ?_
  by_cases c8 : cl = 8
  ·subst c8; exact ev_if rfl e
  refine ev_else c8 ?_
  obtain rfl : cl = 9 := by omega
  exact ev_if rfl e
theorem runS_same (c cl : Int) (n : Nat) : runS (List.replicate n c) cl = if classOf c = cl then n else 0 := by
 induction n with
 | zero => split <;> rfl
 | succ n ih =>
  rw [List.replicate_succ, runS_cons, ih]
  split <;> rfl
theorem set_next (c : Int) (i d : Nat) : (List.replicate i c ++ List.replicate (d + 1) (0 : Int)).set i c = List.replicate (i + 1) c ++ List.replicate d 0 := by
 have h : ∀ (a b : List Int) (x : Int), (a ++ x :: b).set a.length c = a ++ c :: b := by
  intro a b x
  induction a with
  | nil => rfl
  | cons y a ih => simp only [List.cons_append, List.length_cons, List.set_cons_succ, ih]
 have e := h (List.replicate i c) (List.replicate d 0) 0
 rw [List.length_replicate] at e
 rw [List.replicate_succ, e, List.replicate_succ' (n := i), List.append_assoc]
 rfl
theorem fill_loop (a c : Int) (n : Nat) (hn : n < 64) (k10 : Int) (hk : wrap64 (Int.tmod c 10) = k10) (d : Nat) : ∀ i : Nat, i + d = n →
  Ev (fun k => tmesislaw02_ClassCount.l1 k a c true (List.replicate i a ++ List.replicate d 0) (i : Int) 32 4 26 27 10 18 9 1 1 128) true := by
 induction d with
 | zero =>
  intro i hi
  obtain rfl : i = n := by omega
  rw [List.replicate_zero, List.append_nil]
  have hr := run_ev (List.replicate i a) k10 (by rw [List.length_replicate]; omega)
  rw [runS_same] at hr
  refine Ev.step (fun k => tmesislaw02_ClassCount.l1.eq_2 ..) (ev_else (by rw [List.length_replicate]; omega) ?_)
  rw [class_of, hk]
  refine ev_let ?_
  by_cases h : classOf a = k10
  ·rw [if_pos h] at hr
   exact ev_if h (ev_if rfl (ev_if (by decide) (Ev.bind hr (ev_if (by rw [List.length_replicate]) (ev_now rfl)))))
  ·rw [if_neg h] at hr
   exact ev_else h (ev_if rfl (ev_if (by decide) (Ev.bind hr (ev_if rfl (ev_now rfl)))))
 | succ d ih =>
  intro i hi
  have w1 : wrap64 ((i : Int) + 1) = ((i + 1 : Nat) : Int) := by rw [w64 (by omega) (by omega)]; omega
  refine Ev.step (fun k => tmesislaw02_ClassCount.l1.eq_2 ..) (ev_if (by rw [List.length_append, List.length_replicate, List.length_replicate]; omega) (ev_if (by omega) ?_))
  rw [w1, show ((i : Int)).toNat = i from rfl, set_next]
  exact ih (i + 1) (by omega)
theorem ClassCount : tmesislaw02_ClassCount.Pure := by
 intro a b c ha hb hc
 have hb := u8_wf hb
 apply Ev.rounds
 unfold tmesislaw02_ClassCount.f
 refine Ev.bind shown_ev (count_loop a b c true 256 0 (by omega) ?_)
 refine Ev.step (fun k => tmesislaw02_ClassCount.l0.eq_2 ..) (ev_else (by decide) ?_)
 obtain ⟨n, hn, e⟩ : ∃ n : Nat, n < 64 ∧ Int.tmod (wrap64 b) 64 = (n : Int) := by
  refine ⟨(b % 64).toNat, by omega, ?_⟩
  rw [w64 (i := b) (by omega) (by omega), Int.tmod_eq_emod_of_nonneg hb.1]
  omega
 rw [e]
 have m : (many 0 256 = 32 ∧ many 1 256 = 4 ∧ many 2 256 = 26 ∧ many 3 256 = 27 ∧ many 4 256 = 10) ∧ (many 5 256 = 18 ∧ many 6 256 = 9 ∧ many 7 256 = 1 ∧ many 8 256 = 1 ∧ many 9 256 = 128) := by decide +kernel
 rw [m.1.1, m.1.2.1, m.1.2.2.1, m.1.2.2.2.1, m.1.2.2.2.2, m.2.1, m.2.2.1, m.2.2.2.1, m.2.2.2.2.1, m.2.2.2.2.2]
 refine ev_if (by omega) (ev_if (by omega) ?_)
 exact fill_loop a c n hn _ rfl n 0 (by omega)
end Go.Proofs.YtihgfoekjelkbaaDoor.Pure
