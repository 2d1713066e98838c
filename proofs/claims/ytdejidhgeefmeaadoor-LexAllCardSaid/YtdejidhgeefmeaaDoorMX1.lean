/- Part of the proof: what the theorem needs of this text. -/
import Derived.Test.YtdejidhgeefmeaaDoorKHCM
import Derived.Test.YtdejidhgeefmeaaDoorKHG
import Derived.Test.YtdejidhgeefmeaaDoorKHIB
import Derived.Test.YtdejidhgeefmeaaDoorKHLB
import Derived.Test.YtdejidhgeefmeaaDoorKHRA
import Derived.Test.YtdejidhgeefmeaaDoorKHTX
import Derived.Test.YtdejidhgeefmeaaDoorKPx10
import Derived.Test.YtdejidhgeefmeaaDoorKPx11
import Derived.Test.YtdejidhgeefmeaaDoorKPx12
import Derived.Test.YtdejidhgeefmeaaDoorKPx13
import Derived.Test.YtdejidhgeefmeaaDoorKPx14
import Derived.Test.YtdejidhgeefmeaaDoorKPx15
import Derived.Test.YtdejidhgeefmeaaDoorKPx16
import Derived.Test.YtdejidhgeefmeaaDoorKPx17
import Derived.Test.YtdejidhgeefmeaaDoorKPx18
import Derived.Test.YtdejidhgeefmeaaDoorKPx2
import Derived.Test.YtdejidhgeefmeaaDoorKPx3
import Derived.Test.YtdejidhgeefmeaaDoorKPx4
import Derived.Test.YtdejidhgeefmeaaDoorKPx5
import Derived.Test.YtdejidhgeefmeaaDoorKPx6
import Derived.Test.YtdejidhgeefmeaaDoorKPx7
import Derived.Test.YtdejidhgeefmeaaDoorKPx8
import Derived.Test.YtdejidhgeefmeaaDoorMW1
namespace Go.Proofs.YtdejidhgeefmeaaDoor.P
set_option linter.unusedSimpArgs false
set_option linter.unusedVariables false
open Go.RowKit Go.Proofs.YtdejidhgeefmeaaDoorW.PrintWords Go.Proofs.YtdejidhgeefmeaaDoorW.PrintLast Go.Proofs.YtdejidhgeefmeaaDoorW.PrintMore
section
variable {α β : Type}
theorem ev_if {c : Prop} [Decidable c] {a b : Nat → Option α} {r : α} (hc : c) (h : Ev a r) : Ev (fun k => if c then a k else b k) r := by simpa only [if_pos hc] using h
theorem ev_else {c : Prop} [Decidable c] {a b : Nat → Option α} {r : α} (hc : ¬ c) (h : Ev b r) : Ev (fun k => if c then a k else b k) r := by simpa only [if_neg hc] using h
theorem ev_let {y : β} {f : Nat → β → Option α} {r : α} (h : Ev (fun k => f k y) r) : Ev (fun k => (some y).bind (f k)) r := h
theorem ev_same {o : Option β} {y : β} {f : Nat → β → Option α} {r : α} (ho : o = some y) (h : Ev (fun k => f k y) r) : Ev (fun k => o.bind (f k)) r := by subst ho; exact h
theorem ev_eq {g : Nat → Option α} {r r' : α} (h : Ev g r) (e : r = r') : Ev g r' := e ▸ h
theorem ev_now {r r' : α} (e : r = r') : Ev (fun _ => some r) r' := e ▸ Ev.now r
/-- Both ways to one answer. -/
theorem ev_ite {c : Prop} [Decidable c] {a b : Nat → Option α} {r s : α} (ha : c → Ev a r) (hb : ¬ c → Ev b s) : Ev (fun k => if c then a k else b k) (if c then r else s) := by
 by_cases hc : c
 ·rw [if_pos hc]; exact ev_if hc (ha hc)
 ·rw [if_neg hc]; exact ev_else hc (hb hc)
end
theorem w64 {i : Int} (h0 : -9223372036854775808 ≤ i) (h1 : i ≤ 9223372036854775807) : wrap64 i = i := by unfold wrap64; omega
theorem mn_le (n : Nat) (m : Int) (hm : 0 ≤ m) : (mn (n : Int) m).toNat = min n m.toNat := by unfold mn; split <;> omega
end Go.Proofs.YtdejidhgeefmeaaDoor.P
namespace Go.Proofs.YtdejidhgeefmeaaDoor.P
set_option linter.unusedSimpArgs false
set_option linter.unusedVariables false
open Go.RowKit Go.Proofs.YtdejidhgeefmeaaDoorW.PrintWords Go.Proofs.YtdejidhgeefmeaaDoorW.PrintLast Go.Proofs.YtdejidhgeefmeaaDoorW.PrintMore
/-- what may stand in a name -/
def nameOf (c : Int) : Bool := classOf c == 2 || classOf c == 3 || classOf c == 4
theorem class_of (c : Int) : class_Of.f c = some (classOf c) := rfl
/-- how many first bytes are of a class -/
def runS (l : List Int) (cl : Int) : Nat := (l.takeWhile fun c => classOf c == cl).length
theorem runS_nil (cl : Int) : runS [] cl = 0 := rfl
theorem runS_cons (c : Int) (l : List Int) (cl : Int) : runS (c :: l) cl = if classOf c = cl then runS l cl + 1 else 0 := by
 unfold runS
 by_cases h : classOf c = cl <;> simp [List.takeWhile_cons, h]
theorem runS_le (l : List Int) (cl : Int) : runS l cl ≤ l.length := by
 unfold runS
 exact List.Sublist.length_le (List.takeWhile_sublist _)
theorem rd_at (l : List Int) (i : Nat) (h : i < l.length) : rd l (i : Int) = l[i] := by
 show l.getD i 0 = _
 simp [List.getD_eq_getElem?_getD, List.getElem?_eq_getElem h]
theorem run_loop (l : List Int) (cl : Int) (hl : l.length ≤ 9223372036854775806) (d : Nat) : ∀ i : Nat, d + i = l.length →
  Ev (fun k => class_Run.l0 k l cl l (l.length : Int) (i : Int)) ((i + runS (l.drop i) cl : Nat) : Int) := by
 induction d with
 | zero =>
  intro i hi
  refine Ev.step (fun k => class_Run.l0.eq_2 ..) (ev_else (by omega) (ev_now ?_))
  rw [List.drop_of_length_le (by omega), runS_nil]
  omega
 | succ d ih =>
  intro i hi
  have hlt : i < l.length := by omega
  refine Ev.step (fun k => class_Run.l0.eq_2 ..) (ev_if (by omega) (ev_if (by omega) (ev_if (by omega) ?_)))
  rw [rd_at l i hlt, class_of, List.drop_eq_getElem_cons hlt, runS_cons]
  refine ev_let ?_
  by_cases h : classOf l[i] = cl
  ·rw [if_pos h]
   refine ev_if h ?_
   rw [show wrap64 ((i : Int) + 1) = ((i + 1 : Nat) : Int) by rw [w64 (by omega) (by omega)]; omega]
   refine ev_eq (ih (i + 1) (by omega)) ?_
   omega
  ·rw [if_neg h]
   exact ev_else h (ev_now (by omega))
theorem run_ev (l : List Int) (cl : Int) (hl : l.length ≤ 9223372036854775806) : Ev (fun k => class_Run.f k l cl) (runS l cl : Int) := by
 refine ev_eq (run_loop l cl hl l.length 0 (by omega)) ?_
 simp
theorem u8_wf {x : Int} (h : (Lit.int .u8 x).wf = true) : 0 ≤ x ∧ x < 256 := by
 simp [Lit.wf, IntKind.min, IntKind.max, IntKind.signed, IntKind.bits] at h
 omega
def Bytes (l : List Int) : Prop := ∀ x ∈ l, 0 ≤ x ∧ x < 256
theorem bytes_wf {l : List Int} (h : ∀ x ∈ l, (Lit.int .u8 x).wf = true) : Bytes l := fun x hx => u8_wf (h x hx)
theorem Bytes.take {l : List Int} (h : Bytes l) (n : Nat) : Bytes (l.take n) := fun x hx => h x (List.mem_of_mem_take hx)
theorem Bytes.drop {l : List Int} (h : Bytes l) (n : Nat) : Bytes (l.drop n) := fun x hx => h x (List.mem_of_mem_drop hx)
/-- a fact on each byte, asked one by one -/
theorem byte_all {p : Int → Prop} (h : ∀ n : Nat, n < 256 → p (n : Int)) {c : Int} (hc : 0 ≤ c ∧ c < 256) : p c := by
 have := h c.toNat (by omega)
 rwa [Int.toNat_of_nonneg hc.1] at this
end Go.Proofs.YtdejidhgeefmeaaDoor.P
namespace Go.Proofs.YtdejidhgeefmeaaDoor.P
set_option linter.unusedSimpArgs false
set_option linter.unusedVariables false
open Go.RowKit Go.Proofs.YtdejidhgeefmeaaDoorW.PrintWords Go.Proofs.YtdejidhgeefmeaaDoorW.PrintLast Go.Proofs.YtdejidhgeefmeaaDoorW.PrintMore
theorem name_eq (c : Int) : class_Name.f c = some (nameOf c) := by
 unfold class_Name.f nameOf
 rw [class_of, Option.bind_some]
 by_cases h2 : classOf c = 2
 ·simp [h2]
 by_cases h3 : classOf c = 3
 ·simp [h3]
 by_cases h4 : classOf c = 4
 ·simp [h4]
 simp [h2, h3, h4]
end Go.Proofs.YtdejidhgeefmeaaDoor.P
namespace Go.Proofs.YtdejidhgeefmeaaDoor.P
set_option linter.unusedSimpArgs false
set_option linter.unusedVariables false
open Go.RowKit Go.Proofs.YtdejidhgeefmeaaDoorW.PrintWords Go.Proofs.YtdejidhgeefmeaaDoorW.PrintLast Go.Proofs.YtdejidhgeefmeaaDoorW.PrintMore
theorem digit_all : ∀ n : Nat, n < 256 → (classOf (n : Int) = 4 ↔ 48 ≤ (n : Int) ∧ (n : Int) ≤ 57) := by decide +kernel
theorem digit_iff {c : Int} (h : 0 ≤ c ∧ c < 256) : classOf c = 4 ↔ 48 ≤ c ∧ c ≤ 57 := byte_all (p := fun c => classOf c = 4 ↔ 48 ≤ c ∧ c ≤ 57) digit_all h
/-- a number with digits more behind it; none, as_ soon as_ it is too great -/
def numS : Int → List Int → Option Int
 | n, [] => some n
 | n, c :: r => if n * 10 + (c - 48) > 2147483647 then none else numS (n * 10 + (c - 48)) r
theorem numS_cons (n c : Int) (r : List Int) : numS n (c :: r) = if n * 10 + (c - 48) > 2147483647 then none else numS (n * 10 + (c - 48)) r := rfl
def resD (q : Int) : Option Int → Int × Int × Int
 | some m => (m, q, 0)
 | none => (0, q, 4)
/-- the digits at the beginning -/
def headD (l : List Int) : List Int := l.take (runS l 4)
def takeD (l : List Int) : Int × Int × Int :=
 if runS l 4 = 0 then (0, 0, 2) else resD (runS l 4 : Int) (numS 0 (headD l))
def Digs (l : List Int) : Prop := ∀ c ∈ l, 48 ≤ c ∧ c ≤ 57
theorem digit_loop (l : List Int) (hd : Digs l) (hl : l.length ≤ 9223372036854775806) (q : Int) (d : Nat) : ∀ (i : Nat) (n : Int), d + i = l.length → 0 ≤ n → n ≤ 2147483647 →
  Ev (fun k => digits_Take.l0 k n q 0 l (l.length : Int) (i : Int)) (resD q (numS n (l.drop i))) := by
 induction d with
 | zero =>
  intro i n hi h0 h1
  refine Ev.step (fun k => digits_Take.l0.eq_2 ..) (ev_else (by omega) (ev_now ?_))
  rw [List.drop_of_length_le (by omega)]
  rfl
 | succ d ih =>
  intro i n hi h0 h1
  have hlt : i < l.length := by omega
  have hc := hd _ (List.getElem_mem hlt)
  refine Ev.step (fun k => digits_Take.l0.eq_2 ..) (ev_if (by omega) (ev_if (by omega) (ev_if (by omega) ?_)))
  rw [rd_at l i hlt, List.drop_eq_getElem_cons hlt]
  have e : wrap64 (wrap64 (n * 10) + (l[i] - 48) % 256) = n * 10 + (l[i] - 48) := by
   rw [w64 (i := n * 10) (by omega) (by omega), show (l[i] - 48) % 256 = l[i] - 48 by omega, w64 (by omega) (by omega)]
  rw [e]
  rw [numS_cons]
  by_cases h : n * 10 + (l[i] - 48) > 2147483647
  ·rw [if_pos h]
   exact ev_if h (ev_now rfl)
  ·rw [if_neg h]
   refine ev_else h ?_
   rw [show wrap64 ((i : Int) + 1) = ((i + 1 : Nat) : Int) by rw [w64 (by omega) (by omega)]; omega]
   exact ih (i + 1) _ (by omega) (by omega) (by omega)
theorem headD_len (l : List Int) : (headD l).length = runS l 4 := by
 unfold headD
 rw [List.length_take]
 have := runS_le l 4
 omega
theorem headD_digs {l : List Int} (hb : Bytes l) : Digs (headD l) := by
 unfold headD
 induction l with
 | nil => intro c hc; simp [runS_nil] at hc
 | cons a l ih =>
  rw [runS_cons]
  by_cases h : classOf a = 4
  ·rw [if_pos h, List.take_succ_cons]
   intro c hc
   rcases List.mem_cons.1 hc with rfl | hc
   ·exact (digit_iff (hb _ (by simp))).1 h
   ·exact ih (fun x hx => hb x (by simp [hx])) c hc
  ·rw [if_neg h]
   intro c hc
   simp at hc
theorem dtake_ev (l : List Int) (hb : Bytes l) (hl : l.length ≤ 1000000) : Ev (fun k => digits_Take.f k l) (takeD l) := by
 unfold digits_Take.f takeD
 have hle := runS_le l 4
 refine Ev.bind (run_ev l 4 (by omega)) ?_
 by_cases h : runS l 4 = 0
 ·rw [h]
  exact ev_if rfl (ev_now rfl)
 ·rw [if_neg h]
  refine ev_else (by omega) (ev_if (by omega) (ev_if (by omega) ?_))
  have e : ((runS l 4 : Int)).toNat = runS l 4 := rfl
  rw [e]
  have hh := headD_len l
  exact digit_loop (headD l) (headD_digs hb) (by omega) _ (headD l).length 0 0 (by omega) (by omega) (by omega)
end Go.Proofs.YtdejidhgeefmeaaDoor.P
namespace Go.Proofs.YtdejidhgeefmeaaDoor.P
set_option linter.unusedSimpArgs false
set_option linter.unusedVariables false
open Go.RowKit Go.Proofs.YtdejidhgeefmeaaDoor.P Go.Proofs.YtdejidhgeefmeaaDoorW.PrintWords Go.Proofs.YtdejidhgeefmeaaDoorW.PrintLast Go.Proofs.YtdejidhgeefmeaaDoorW.PrintMore
theorem u8_inj {x y : Int} (hx : 0 ≤ x ∧ x < 256) (hy : 0 ≤ y ∧ y < 256) (h : UInt8.ofNat x.toNat = UInt8.ofNat y.toNat) : x = y := by
 have := congrArg UInt8.toNat h
 rw [UInt8.toNat_ofNat', UInt8.toNat_ofNat'] at this
 omega
theorem Bytes.cons {c : Int} {r : List Int} (h : Bytes (c :: r)) : (0 ≤ c ∧ c < 256) ∧ Bytes r := ⟨h c (by simp), fun x hx => h x (by simp [hx])⟩
theorem strOf_list (l : List Int) : (strOfNums l).toList = l.map fun n => UInt8.ofNat n.toNat := by
 have := Lib.strOfNums_toList l
 rw [this]; rfl
/-- whether two bytes begin some -/
def two (a b : Int) : List Int → Bool
 | x :: y :: _ => x == a && y == b
 | _ => false
theorem hasP_two {l : List Int} (hl : Bytes l) {a b : Int} (ha : 0 ≤ a ∧ a < 256) (hb : 0 ≤ b ∧ b < 256) : hasP l [a, b] = two a b l := by
 unfold hasP
 match l with
 | [] => rfl
 | [x] => rfl
 | x :: y :: r =>
  have hx := hl x (by simp)
  have hy := hl y (by simp)
  rw [decide_eq_true (by simp), Bool.true_and, strOf_list, strOf_list]
  show (([UInt8.ofNat x.toNat, UInt8.ofNat y.toNat] : List UInt8) == [UInt8.ofNat a.toNat, UInt8.ofNat b.toNat]) = (x == a && y == b)
  rw [Bool.eq_iff_iff, beq_iff_eq, Bool.and_eq_true, beq_iff_eq, beq_iff_eq, List.cons.injEq, List.cons.injEq]
  constructor
  ·rintro ⟨h1, h2, _⟩
   exact ⟨u8_inj hx ha h1, u8_inj hy hb h2⟩
  ·rintro ⟨rfl, rfl⟩
   exact ⟨rfl, rfl, rfl⟩
/-- how much, inside a comment so deep, stands up to its end, with it -/
def comL : Nat → List Int → Option Nat
 | _, [] => none
 | _, [_] => none
 | d, x :: y :: r =>
  if x = 47 ∧ y = 42 then (comL (d + 1) r).map (· + 2)
  else if x = 42 ∧ y = 47 then (if d = 1 then some 2 else (comL (d - 1) r).map (· + 2))
  else (comL d (y :: r)).map (· + 1)
theorem comL_le (l : List Int) : ∀ (d n : Nat), comL d l = some n → 2 ≤ n ∧ n ≤ l.length := by
 induction h : l.length using Nat.strongRecOn generalizing l with
 | _ N ih =>
  intro d n hn
  match l with
  | [] => cases hn
  | [_] => cases hn
  | x :: y :: r =>
   simp only [List.length_cons] at h
   rw [comL] at hn
   by_cases h1 : x = 47 ∧ y = 42
   ·rw [if_pos h1] at hn
    obtain ⟨m, hm, rfl⟩ := Option.map_eq_some_iff.1 hn
    have := ih r.length (by omega) r rfl _ _ hm
    omega
   ·rw [if_neg h1] at hn
    by_cases h2 : x = 42 ∧ y = 47
    ·rw [if_pos h2] at hn
     by_cases h3 : d = 1
     ·rw [if_pos h3] at hn
      obtain rfl := Option.some.inj hn
      omega
     ·rw [if_neg h3] at hn
      obtain ⟨m, hm, rfl⟩ := Option.map_eq_some_iff.1 hn
      have := ih r.length (by omega) r rfl _ _ hm
      omega
    ·rw [if_neg h2] at hn
     obtain ⟨m, hm, rfl⟩ := Option.map_eq_some_iff.1 hn
     have := ih (r.length + 1) (by omega) (y :: r) rfl _ _ hm
     (try simp only [List.length_cons] at this)
     (try simp only [List.length_cons])
     omega
def optP (p : Nat) : Option Nat → Int
 | some n => ((p + n : Nat) : Int)
 | none => 0
theorem optP_map (p k : Nat) (o : Option Nat) : optP p (o.map (· + k)) = optP (p + k) o := by
 cases o with
 | none => rfl
 | some n => show ((p + (n + k) : Nat) : Int) = ((p + k + n : Nat) : Int); congr 1; omega
theorem drop_two {l : List Int} {p : Nat} {x y : Int} {r : List Int} (h : l.drop p = x :: y :: r) : l.drop (p + 2) = r ∧ l.drop (p + 1) = y :: r := by
 have h1 : l.drop (p + 1) = (l.drop p).drop 1 := by rw [List.drop_drop]
 have h2 : l.drop (p + 2) = (l.drop p).drop 2 := by rw [List.drop_drop]
 rw [h] at h1 h2
 exact ⟨h2, h1⟩
theorem comGo_eq (l : List Int) (hl : Bytes l) (f : Nat) : ∀ (d p : Nat), 1 ≤ d → p ≤ l.length → l.length + 1 ≤ p + f → comGo f l (d : Int) p = optP p (comL d (l.drop p)) := by
 induction f with
 | zero => intro d p _ hp hf; omega
 | succ f ih =>
  intro d p hd hp hf
  by_cases hend : l.length ≤ p
  ·rw [List.drop_of_length_le hend, comGo, if_pos hend]; rfl
  rw [comGo_step f l d p hend, hasP_two (hl.drop p) (by omega) (by omega), hasP_two (hl.drop p) (by omega) (by omega)]
  match hm : l.drop p with
  | [] => have := congrArg List.length hm; simp at this; omega
  | [x] =>
   have h1 : p + 1 = l.length := by have := congrArg List.length hm; simp at this; omega
   have e := ih d (p + 1) hd (by omega) (by omega)
   rw [List.drop_of_length_le (by omega)] at e
   show (if (d : Int) > 0 then comGo f l d (p + 1) else ((p + 1 : Nat) : Int)) = _
   rw [if_pos (by omega), e]; rfl
  | x :: y :: r =>
   have hlen : p + 2 ≤ l.length := by have := congrArg List.length hm; simp at this; omega
   obtain ⟨e2, e1⟩ := drop_two hm
   rw [comL]
   by_cases h1 : x = 47 ∧ y = 42
   ·have t : two 47 42 (x :: y :: r) = true := by simp [two, h1.1, h1.2]
    rw [if_pos t, if_pos h1, if_pos (by omega), show (d : Int) + 1 = ((d + 1 : Nat) : Int) by omega, ih (d + 1) (p + 2) (by omega) hlen (by omega), e2, optP_map]
   ·have t : ¬ two 47 42 (x :: y :: r) = true := by simpa [two] using h1
    rw [if_neg t, if_neg h1]
    by_cases h2 : x = 42 ∧ y = 47
    ·have t : two 42 47 (x :: y :: r) = true := by simp [two, h2.1, h2.2]
     rw [if_pos t, if_pos h2]
     by_cases h3 : d = 1
     ·subst h3
      rw [if_neg (by omega), if_pos rfl]; rfl
     ·rw [if_pos (by omega), if_neg h3, show (d : Int) - 1 = ((d - 1 : Nat) : Int) by omega, ih (d - 1) (p + 2) (by omega) hlen (by omega), e2, optP_map]
    ·have t : ¬ two 42 47 (x :: y :: r) = true := by simpa [two] using h2
     rw [if_neg t, if_neg h2, if_pos (by omega), ih d (p + 1) hd (by omega) (by omega), e1, optP_map]
/-- how long the comment at the beginning is -/
def comS (l : List Int) : Option Nat := (comL 1 (l.drop 2)).map (· + 2)
theorem comment_eq {l : List Int} (hl : Bytes l) (h : two 47 42 l = true) : layout_comment.f l = some (optP 0 (comS l)) := by
 match l, h with
 | x :: y :: r, h =>
  unfold layout_comment.f
  rw [comGo_step _ _ _ _ (by simp), hasP_two (hl.drop 0) (by omega) (by omega)]
  rw [if_pos (show two 47 42 ((x :: y :: r).drop 0) = true from h), if_pos (by omega)]
  rw [show (0 : Int) + 1 = ((1 : Nat) : Int) from rfl, comGo_eq _ hl _ 1 (0 + 2) (by omega) (by simp) (by simp; omega)]
  unfold comS
  rw [optP_map]
/-- how long the rest of the line is -/
def lineS (l : List Int) : Nat := (l.takeWhile fun c => c != 10).length
theorem lineS_cons (c : Int) (r : List Int) : lineS (c :: r) = if c = 10 then 0 else lineS r + 1 := by
 unfold lineS
 by_cases h : c = 10 <;> simp [List.takeWhile_cons, h]
theorem lineS_le (l : List Int) : lineS l ≤ l.length := List.Sublist.length_le (List.takeWhile_sublist _)
theorem index_line (l : List Int) (hl : Bytes l) : (Lib.indexByte (Lib.bytesOf l) (10 : Int).toNat.toUInt8 = -1 ∧ lineS l = l.length) ∨ (Lib.indexByte (Lib.bytesOf l) (10 : Int).toNat.toUInt8 = (lineS l : Int) ∧ lineS l < l.length) := by
 induction l with
 | nil => left; exact ⟨rfl, rfl⟩
 | cons c r ih =>
  obtain ⟨hc, hr⟩ := hl.cons
  have e : Lib.indexByte (Lib.bytesOf (c :: r)) (10 : Int).toNat.toUInt8 = if (c.toNat.toUInt8 == (10 : Int).toNat.toUInt8) = true then 0 else if (Lib.indexByte (Lib.bytesOf r) (10 : Int).toNat.toUInt8 == -1) = true then -1 else Lib.indexByte (Lib.bytesOf r) (10 : Int).toNat.toUInt8 + 1 := rfl
  rw [e, lineS_cons]
  by_cases h : c = 10
  ·subst h
   right
   rw [if_pos rfl, if_pos (by decide)]
   exact ⟨rfl, by simp⟩
  ·have hne : ¬ (c.toNat.toUInt8 == (10 : Int).toNat.toUInt8) = true := by
    rw [beq_iff_eq]
    exact fun hh => h (u8_inj hc (by omega) hh)
   rw [if_neg h, if_neg hne]
   rcases ih hr with ⟨h1, h2⟩ | ⟨h1, h2⟩
   ·left
    rw [h1, if_pos (by decide)]
    exact ⟨rfl, by simp [h2]⟩
   ·right
    rw [h1, if_neg (by rw [beq_iff_eq]; omega)]
    exact ⟨by omega, by simp; omega⟩
theorem line_eq {l : List Int} (hl : Bytes l) : layout_line.f l = some (lineS l : Int) := by
 unfold layout_line.f bytes_IndexByte.f
 rw [Option.bind_some]
 rcases index_line l hl with ⟨h1, h2⟩ | ⟨h1, h2⟩
 ·rw [h1, if_neg (by omega), h2]
 ·rw [h1, if_pos (by omega)]
/-- what is skipped next: so much; or it ends there, with an error or none -/
def stepS : List Int → Nat × Int
 | [] => (0, 0)
 | c :: r => if classOf c = 1 then (1, 0) else if c = 37 then (lineS (c :: r), 0) else if two 47 42 (c :: r) = true then (match comS (c :: r) with | some n => (n, 0) | none => (0, 14)) else (0, 0)
theorem stepS_le (l : List Int) : (stepS l).1 ≤ l.length := by
 match l with
 | [] => exact Nat.le_refl _
 | c :: r =>
  rw [stepS]
  by_cases h1 : classOf c = 1
  ·rw [if_pos h1]; simp
  rw [if_neg h1]
  by_cases h2 : c = 37
  ·rw [if_pos h2]; exact lineS_le _
  rw [if_neg h2]
  by_cases h3 : two 47 42 (c :: r) = true
  ·rw [if_pos h3]
   cases h4 : comS (c :: r) with
   | none => simp
   | some n =>
    match r, h3 with
    | y :: r, h3 =>
     obtain ⟨m, hm, rfl⟩ := Option.map_eq_some_iff.1 h4
     have := comL_le _ _ _ hm
     simp at this ⊢; omega
  ·rw [if_neg h3]; simp
/-- how much is skipped, and the error -/
def skipS (l : List Int) : Nat × Int := if h : (stepS l).1 = 0 then stepS l else ((stepS l).1 + (skipS (l.drop (stepS l).1)).1, (skipS (l.drop (stepS l).1)).2)
termination_by l.length
decreasing_by all_goals (have := stepS_le l; rw [List.length_drop]; omega)
theorem skipS_stop {l : List Int} (h : (stepS l).1 = 0) : skipS l = stepS l := by rw [skipS, dif_pos h]
theorem skipS_go {l : List Int} (h : (stepS l).1 ≠ 0) : skipS l = ((stepS l).1 + (skipS (l.drop (stepS l).1)).1, (skipS (l.drop (stepS l).1)).2) := by rw [skipS, dif_neg h]
theorem skipS_run (l : List Int) : skipS l = (runS l 1 + (skipS (l.drop (runS l 1))).1, (skipS (l.drop (runS l 1))).2) := by
 induction l with
 | nil => rw [runS_nil]; simp
 | cons c r ih =>
  rw [runS_cons]
  by_cases h : classOf c = 1
  ·have e : stepS (c :: r) = (1, 0) := by rw [stepS, if_pos h]
   rw [if_pos h, skipS_go (by rw [e]; simp), e]
   simp only [List.drop_succ_cons, List.drop_zero]
   rw [ih]
   simp; omega
  ·rw [if_neg h]; simp
theorem runS_first {c : Int} {r : List Int} (h : runS (c :: r) 1 = 0) : classOf c ≠ 1 := by
 intro hc
 rw [runS_cons, if_pos hc] at h
 omega
theorem percent_all : ∀ n : Nat, n < 256 → (classOf (n : Int) = 8 ↔ (n : Int) = 37) := by decide +kernel
theorem percent_iff {c : Int} (h : 0 ≤ c ∧ c < 256) : classOf c = 8 ↔ c = 37 := byte_all (p := fun c => classOf c = 8 ↔ c = 37) percent_all h
theorem skip_loop (l : List Int) (hl : Bytes l) (hn : l.length ≤ 1000000) (N : Nat) : ∀ p : Nat, l.length - p < N → p ≤ l.length →
  Ev (fun k => layout_Skip.l0 k l (p : Int)) (((p + (skipS (l.drop p)).1 : Nat) : Int), (skipS (l.drop p)).2) := by
 induction N with
 | zero => intro p h; omega
 | succ N ih =>
  intro p hN hp
  have hb := hl.drop p
  have hml : (l.drop p).length = l.length - p := List.length_drop
  have hrun := skipS_run (l.drop p)
  have hle := runS_le (l.drop p) 1
  have next : ∀ n : Nat, 1 ≤ n → p + n ≤ l.length → Ev (fun k => layout_Skip.l0 k l (wrap64 ((p : Int) + (n : Int)))) (((p + n + (skipS (l.drop (p + n))).1 : Nat) : Int), (skipS (l.drop (p + n))).2) := by
   intro n h1 h2
   rw [show wrap64 ((p : Int) + (n : Int)) = ((p + n : Nat) : Int) by rw [w64 (by omega) (by omega)]; omega]
   exact ih (p + n) (by omega) h2
  refine Ev.step (fun k => layout_Skip.l0.eq_2 ..) (ev_if (by omega) (ev_if (by omega) ?_))
  rw [show l.drop ((p : Int)).toNat = l.drop p from rfl]
  refine Ev.bind (run_ev _ 1 (by omega)) ?_
  by_cases h : runS (l.drop p) 1 = 0
  ·refine ev_else (by omega) ?_
   match hm : l.drop p with
   | [] =>
    refine ev_else (by simp) (Ev.step (fun k => layout_Skip.j1.eq_2 ..) (ev_else (by simp) ?_))
    refine ev_same (hasP_eq _ _) (ev_else (by simp [hasP]) (ev_now ?_))
    rw [skipS_stop rfl]; rfl
   | c :: r =>
    rw [hm] at h hb hml
    have hc := runS_first h
    have hcb := hb.cons.1
    refine ev_if (by simp) (ev_if (by simp) ?_)
    rw [show rd (c :: r) 0 = c from rfl, class_of]
    refine ev_let (Ev.step (fun k => layout_Skip.j1.eq_2 ..) ?_)
    have cut : ∀ n : Nat, l.drop (p + n) = (c :: r).drop n := fun n => by rw [← hm, List.drop_drop]
    by_cases h8 : c = 37
    ·have hls := lineS_le (c :: r)
     have h1 : 1 ≤ lineS (c :: r) := by rw [lineS_cons, if_neg (by omega)]; omega
     have es : stepS (c :: r) = (lineS (c :: r), 0) := by rw [stepS, if_neg hc, if_pos h8]
     refine ev_if (by rw [(percent_iff hcb).2 h8]; rfl) (ev_same (line_eq hb) ?_)
     refine ev_eq (next _ h1 (by omega)) ?_
     have eg := skipS_go (l := c :: r) (by rw [es]; simp only; omega)
     rw [es] at eg
     rw [cut, eg]
     simp only [Prod.mk.injEq, and_true]
     omega
    ·refine ev_else (by rw [beq_iff_eq, percent_iff hcb]; exact h8) (ev_same (hasP_eq _ _) ?_)
     rw [hasP_two hb (by omega) (by omega)]
     by_cases ht : two 47 42 (c :: r) = true
     ·refine ev_if ht (ev_same (comment_eq hb ht) ?_)
      cases h4 : comS (c :: r) with
      | none =>
       have es : stepS (c :: r) = (0, 14) := by rw [stepS, if_neg hc, if_neg h8, if_pos ht, h4]
       refine ev_if rfl (ev_now ?_)
       rw [skipS_stop (by rw [es]), es]; rfl
      | some n =>
       have es : stepS (c :: r) = (n, 0) := by rw [stepS, if_neg hc, if_neg h8, if_pos ht, h4]
       have hsl := stepS_le (c :: r)
       rw [es] at hsl
       have h1 : 1 ≤ n := by
        obtain ⟨m, hm2, rfl⟩ := Option.map_eq_some_iff.1 h4
        omega
       have e0 : optP 0 (some n) = (n : Int) := by show ((0 + n : Nat) : Int) = n; omega
       rw [e0]
       refine ev_else (by omega) ?_
       simp only at hsl
       refine ev_eq (next n h1 (by omega)) ?_
       have eg := skipS_go (l := c :: r) (by rw [es]; simp only; omega)
       rw [es] at eg
       rw [cut, eg]
       simp only [Prod.mk.injEq, and_true]
       omega
     ·have es : stepS (c :: r) = (0, 0) := by rw [stepS, if_neg hc, if_neg h8, if_neg ht]
      refine ev_else ht (ev_now ?_)
      rw [skipS_stop (by rw [es]), es]; rfl
  ·refine ev_if (by omega) ?_
   refine ev_eq (next _ (by omega) (by omega)) ?_
   rw [hrun, List.drop_drop]
   simp only [Prod.mk.injEq, and_true]
   omega
theorem skip_ev (l : List Int) (hl : Bytes l) (hn : l.length ≤ 1000000) : Ev (fun k => layout_Skip.f k l) (((skipS l).1 : Int), (skipS l).2) := by
 refine ev_eq (skip_loop l hl hn (l.length + 1) 0 (by omega) (by omega)) ?_
 simp
end Go.Proofs.YtdejidhgeefmeaaDoor.P
namespace Go.Proofs.YtdejidhgeefmeaaDoor.P
set_option linter.unusedSimpArgs false
set_option linter.unusedVariables false
open Go.RowKit Go.Proofs.YtdejidhgeefmeaaDoor.P Go.Proofs.YtdejidhgeefmeaaDoorW.PrintWords Go.Proofs.YtdejidhgeefmeaaDoorW.PrintLast Go.Proofs.YtdejidhgeefmeaaDoorW.PrintMore
theorem skipS_le (N : Nat) : ∀ l : List Int, l.length < N → (skipS l).1 ≤ l.length := by
 induction N with
 | zero => intro l h; omega
 | succ N ih =>
  intro l h
  have hs := stepS_le l
  by_cases h0 : (stepS l).1 = 0
  ·rw [skipS_stop h0]; exact hs
  ·have e := skipS_go h0
   have := ih (l.drop (stepS l).1) (by rw [List.length_drop]; omega)
   rw [List.length_drop] at this
   have e1 := congrArg Prod.fst e
   simp only at e1
   omega
/-- behind what is skipped nothing more is -/
theorem skipS_end (N : Nat) : ∀ l : List Int, l.length < N → stepS (l.drop (skipS l).1) = (0, (skipS l).2) := by
 induction N with
 | zero => intro l h; omega
 | succ N ih =>
  intro l h
  have hs := stepS_le l
  by_cases h0 : (stepS l).1 = 0
  ·rw [skipS_stop h0, h0, List.drop_zero, ← h0]
  ·have e := skipS_go h0
   have := ih (l.drop (stepS l).1) (by rw [List.length_drop]; omega)
   have e1 := congrArg Prod.fst e
   have e2 := congrArg Prod.snd e
   simp only at e1 e2
   rw [e1, e2, ← List.drop_drop]
   exact this
end Go.Proofs.YtdejidhgeefmeaaDoor.P
namespace Go.Proofs.YtdejidhgeefmeaaDoor.P
set_option linter.unusedSimpArgs false
set_option linter.unusedVariables false
open Go.RowKit Go.Proofs.YtdejidhgeefmeaaDoorW.PrintWords Go.Proofs.YtdejidhgeefmeaaDoorW.PrintLast Go.Proofs.YtdejidhgeefmeaaDoorW.PrintMore
def uLo (c : Int) : Int := if c = 224 then 160 else if c = 240 then 144 else 128
def uHi (c : Int) : Int := if c = 237 then 159 else if c = 244 then 143 else 191
/-- how many bytes a sequence with a first byte has; 0: none -/
def uLong (c : Int) : Nat := if c < 128 then 1 else if c < 194 ∨ c > 244 then 0 else if c < 224 then 2 else if c < 240 then 3 else 4
/-- so many bytes more, the first one of them from lo to hi, the others 128 to 191 -/
def restOk : Nat → Int → Int → List Int → Bool
 | 0, _, _, _ => true
 | _ + 1, _, _, [] => false
 | n + 1, lo, hi, a :: t => decide (lo ≤ a ∧ a ≤ hi) && restOk n 128 191 t
/-- how many bytes the first sequence has, and whether it is one -/
def takeS : List Int → Int × Bool
 | [] => (0, false)
 | c :: r => if uLong c = 0 then (1, false) else if restOk (uLong c - 1) (uLo c) (uHi c) r then ((uLong c : Int), true) else (1, false)
theorem takeS_cons (c : Int) (r : List Int) : takeS (c :: r) = if uLong c = 0 then (1, false) else if restOk (uLong c - 1) (uLo c) (uHi c) r then ((uLong c : Int), true) else (1, false) := rfl
theorem restOk_cons (n : Nat) (lo hi a : Int) (t : List Int) : restOk (n + 1) lo hi (a :: t) = (decide (lo ≤ a ∧ a ≤ hi) && restOk n 128 191 t) := rfl
theorem restOk_short (n : Nat) : ∀ (lo hi : Int) (r : List Int), r.length < n → restOk n lo hi r = false := by
 induction n with
 | zero => intro _ _ r h; omega
 | succ n ih =>
  intro lo hi r h
  cases r with
  | nil => rfl
  | cons a t => rw [restOk_cons, ih _ _ t (by simp at h; omega)]; simp
def beh (c : Int) : Int × Int × Int := if c < 128 then (0, 0, 0) else if c < 194 ∨ c > 244 then (0, 0, -1) else (uLo c, uHi c, (uLong c : Int) - 1)
theorem behind_eq (k : Nat) (c : Int) : utf_behind.f (k + 1) c = some (beh c) := by
 unfold utf_behind.f beh uLo uHi uLong
 simp only [utf_behind.j0]
 by_cases h1 : c < 128
 ·simp [h1]
 by_cases h2 : c < 194
 ·simp [h1, h2]
 by_cases h3 : c > 244
 ·simp [h1, h2, h3]
 by_cases h4 : c < 224
 ·have : c ≠ 224 := by omega
  have : c ≠ 240 := by omega
  have : c ≠ 237 := by omega
  have : c ≠ 244 := by omega
  simp [*]
 by_cases h5 : c = 224
 ·subst h5; simp
 by_cases h6 : c = 237
 ·subst h6; simp
 by_cases h7 : c < 240
 ·have : c ≠ 240 := by omega
  have : c ≠ 244 := by omega
  simp [*]
 by_cases h8 : c = 240
 ·subst h8; simp
 by_cases h9 : c = 244
 ·subst h9; simp
 simp [*]
theorem w1 {i : Int} (h0 : -1 ≤ i) (h1 : i ≤ 9223372036854775806) : wrap64 (i + 1) = i + 1 := by unfold wrap64; omega
theorem wl0 (k : Nat) (l : List Int) (m i lo hi q : Int) (h : ¬ i < m) (h0 : -1 ≤ q) (h1 : q ≤ 100) : utf_Take.l0 (k + 1) l m i lo hi q = some (q + 1, true) := by
 simp only [utf_Take.l0]; rw [if_neg h, w1 h0 (by omega)]
theorem wl1 (k : Nat) (l : List Int) (m : Int) (i : Nat) (lo hi q : Int) (h : (i : Int) < m) (h2 : i + 1 < l.length) (h3 : i < 10) :
  utf_Take.l0 (k + 1) l m (i : Int) lo hi q = if lo ≤ l.getD (i + 1) 0 ∧ l.getD (i + 1) 0 ≤ hi then utf_Take.l0 k l m ((i + 1 : Nat) : Int) 128 191 q else some (1, false) := by
 have e : wrap64 ((i : Int) + 1) = ((i + 1 : Nat) : Int) := by rw [w1 (by omega) (by omega)]; omega
 simp only [utf_Take.l0]
 rw [if_pos h, e, if_pos (by omega), if_pos (by omega)]
 have er : rd l ((i + 1 : Nat) : Int) = l.getD (i + 1) 0 := rfl
 rw [er]
 by_cases a : l.getD (i + 1) 0 < lo
 ·rw [if_pos a, if_neg (by omega)]
 ·rw [if_neg a]
  by_cases b : l.getD (i + 1) 0 > hi
  ·rw [if_pos b, if_neg (by omega)]
  ·rw [if_neg b, if_pos (by omega)]
theorem wl (d : Nat) : ∀ (k : Nat) (l : List Int) (m : Int) (i : Nat) (lo hi q : Int), m = ((i + d : Nat) : Int) → d < k → i + d < l.length → i + d < 10 → -1 ≤ q → q ≤ 100 →
  utf_Take.l0 k l m (i : Int) lo hi q = some (if restOk d lo hi (l.drop (i + 1)) then (q + 1, true) else (1, false)) := by
 induction d with
 | zero =>
  intro k l m i lo hi q hm hk h1 h2 h3 h4
  obtain ⟨k, rfl⟩ : ∃ j, k = j + 1 := ⟨k - 1, by omega⟩
  rw [wl0 _ _ _ _ _ _ _ (by omega) h3 h4]
  rfl
 | succ d ih =>
  intro k l m i lo hi q hm hk h1 h2 h3 h4
  obtain ⟨k, rfl⟩ : ∃ j, k = j + 1 := ⟨k - 1, by omega⟩
  rw [wl1 _ _ _ _ _ _ _ (by omega) (by omega) (by omega), ih k l m (i + 1) 128 191 q (by omega) (by omega) (by omega) (by omega) h3 h4]
  rw [List.drop_eq_getElem_cons (i := i + 1) (by omega)]
  have e : l.getD (i + 1) 0 = l[i + 1] := by simp [List.getD_eq_getElem?_getD, List.getElem?_eq_getElem (show i + 1 < l.length by omega)]
  rw [e]
  rw [restOk_cons]
  by_cases A : lo ≤ l[i + 1] ∧ l[i + 1] ≤ hi
  ·rw [if_pos A, decide_eq_true A, Bool.true_and]
  ·rw [if_neg A, decide_eq_false A, Bool.false_and]; rfl
theorem uLong_le (c : Int) : uLong c ≤ 4 := by
 unfold uLong
 repeat' split
 all_goals omega
theorem take_ten (l : List Int) : utf_Take.f 10 l = some (takeS l) := by
 unfold utf_Take.f
 cases l with
 | nil => simp [takeS]
 | cons c r =>
  rw [if_neg (by simp; omega), if_pos (by simp)]
  have e0 : rd (c :: r) 0 = c := rfl
  rw [e0, behind_eq]
  simp only [Option.bind_some]
  have go : ∀ (lo hi : Int) (n : Nat), n < 4 → utf_Take.j0 10 (c :: r) (decide (((c :: r).length : Int) ≤ (n : Int))) lo hi (n : Int) = some (if restOk n lo hi r then ((n : Int) + 1, true) else (1, false)) := by
   intro lo hi n hn
   simp only [utf_Take.j0]
   by_cases hs : ((c :: r).length : Int) ≤ (n : Int)
   ·rw [if_pos (decide_eq_true hs), restOk_short n lo hi r (by simp at hs; omega)]
    rfl
   ·rw [if_neg (by rw [decide_eq_false hs]; simp)]
    exact wl n 9 (c :: r) (n : Int) 0 lo hi (n : Int) (by omega) (by omega) (by simp at hs ⊢; omega) (by omega) (by omega) (by omega)
  rw [takeS_cons]
  unfold beh
  by_cases h1 : c < 128
  ·have e : uLong c = 1 := by unfold uLong; rw [if_pos h1]
   rw [e, if_pos h1, if_neg (show ¬ (0 : Int) < 0 by omega)]
   exact go 0 0 0 (by omega)
  by_cases h2 : c < 194 ∨ c > 244
  ·have e : uLong c = 0 := by unfold uLong; rw [if_neg h1, if_pos h2]
   rw [e, if_neg h1, if_pos h2, if_pos (show (-1 : Int) < 0 by omega)]
   simp [utf_Take.j0]
  rw [if_neg h1, if_neg h2]
  have hL : uLong c ≠ 0 := by
   unfold uLong; rw [if_neg h1, if_neg h2]
   repeat' split
   all_goals omega
  obtain ⟨n, hn⟩ : ∃ n, uLong c = n + 1 := ⟨uLong c - 1, by omega⟩
  have hle := uLong_le c
  have e2 : ((n + 1 : Nat) : Int) - 1 = (n : Int) := by omega
  rw [hn, e2, if_neg (show ¬ (n : Int) < 0 by omega), if_neg (show ¬ n + 1 = 0 by omega), Nat.add_sub_cancel]
  exact go _ _ n (by omega)
theorem take_ev (l : List Int) : Ev (fun k => utf_Take.f k l) (takeS l) := Ev.of (fun k => utf_Take.mono l k) (take_ten l)
theorem restOk_len (n : Nat) : ∀ (lo hi : Int) (r : List Int), restOk n lo hi r = true → n ≤ r.length := by
 intro lo hi r h
 rcases Nat.lt_or_ge r.length n with h2 | h2
 ·rw [restOk_short n lo hi r h2] at h; cases h
 ·exact h2
theorem take_pos (c : Int) (r : List Int) : 1 ≤ (takeS (c :: r)).1 ∧ (takeS (c :: r)).1 ≤ ((c :: r).length : Int) ∧ (takeS (c :: r)).1 ≤ 4 ∧ ((takeS (c :: r)).2 = false → (takeS (c :: r)).1 = 1) := by
 have hle := uLong_le c
 simp only [takeS]
 by_cases h0 : uLong c = 0
 ·rw [if_pos h0]; simp; omega
 ·rw [if_neg h0]
  by_cases h1 : restOk (uLong c - 1) (uLo c) (uHi c) r = true
  ·have := restOk_len _ _ _ _ h1
   rw [if_pos h1]; simp; omega
  ·rw [if_neg h1]; simp; omega
end Go.Proofs.YtdejidhgeefmeaaDoor.P
namespace Go.Proofs.YtdejidhgeefmeaaDoor.P
set_option linter.unusedSimpArgs false
set_option linter.unusedVariables false
open Go.RowKit Go.Proofs.YtdejidhgeefmeaaDoor.P Go.Proofs.YtdejidhgeefmeaaDoorW.PrintWords Go.Proofs.YtdejidhgeefmeaaDoorW.PrintLast Go.Proofs.YtdejidhgeefmeaaDoorW.PrintMore
/-- what stands next between the quotes: what it says, how long it is; and 0: go on, -1: its end, else the error -/
def itemQ : List Int → List Int × Nat × Int
 | [] => ([], 0, 12)
 | c :: r =>
  if c = 39 then (if r.headD 0 = 39 then ([39], 2, 0) else ([], 1, -1))
  else if c = 92 then (if r.headD 0 = 92 ∨ r.headD 0 = 39 then ([r.headD 0], 2, 0) else if r.headD 0 = 110 then ([10], 2, 0) else ([], 0, 13))
  else if c = 10 then ([], 0, 12)
  else if c < 32 ∨ c = 127 then ([], 0, 11)
  else if (takeS (c :: r)).2 = true then ((c :: r).take (takeS (c :: r)).1.toNat, (takeS (c :: r)).1.toNat, 0) else ([], 0, 10)
theorem itemQ_le (s : List Int) : (itemQ s).2.1 ≤ s.length ∧ ((itemQ s).2.2 = 0 → 1 ≤ (itemQ s).2.1) ∧ (itemQ s).1.length ≤ (itemQ s).2.1 := by
 match s with
 | [] => simp [itemQ]
 | c :: r =>
  have hd : ∀ x : Int, x ≠ 0 → r.headD 0 = x → 1 ≤ r.length := by
   intro x hx h
   cases r with
   | nil => exact absurd h.symm hx
   | cons a t => simp
  rw [itemQ]
  by_cases h1 : c = 39
  ·rw [if_pos h1]
   by_cases h2 : r.headD 0 = 39
   ·have := hd 39 (by omega) h2
    rw [if_pos h2]; simp; omega
   ·rw [if_neg h2]; simp
  rw [if_neg h1]
  by_cases h2 : c = 92
  ·rw [if_pos h2]
   by_cases h3 : r.headD 0 = 92 ∨ r.headD 0 = 39
   ·have : 1 ≤ r.length := by rcases h3 with h3 | h3 <;> exact hd _ (by omega) h3
    rw [if_pos h3]; simp; omega
   rw [if_neg h3]
   by_cases h4 : r.headD 0 = 110
   ·have := hd 110 (by omega) h4
    rw [if_pos h4]; simp; omega
   ·rw [if_neg h4]; simp
  rw [if_neg h2]
  by_cases h3 : c = 10
  ·rw [if_pos h3]; simp
  rw [if_neg h3]
  by_cases h4 : c < 32 ∨ c = 127
  ·rw [if_pos h4]; simp
  rw [if_neg h4]
  by_cases h5 : (takeS (c :: r)).2 = true
  ·have := take_pos c r
   rw [if_pos h5]
   refine ⟨?_, fun _ => ?_, ?_⟩
   ·simp only; omega
   ·simp only; omega
   ·simp only [List.length_take]; omega
  ·rw [if_neg h5]; simp
/-- what is said up to the end, how much that is, and -1; or how much there is ahead of the error, and that -/
def textQ (s : List Int) : List Int × Nat × Int := if h : (itemQ s).2.2 = 0 then ((itemQ s).1 ++ (textQ (s.drop (itemQ s).2.1)).1, (itemQ s).2.1 + (textQ (s.drop (itemQ s).2.1)).2.1, (textQ (s.drop (itemQ s).2.1)).2.2) else itemQ s
termination_by s.length
decreasing_by all_goals (have := itemQ_le s; have := this.2.1 h; rw [List.length_drop]; omega)
theorem textQ_stop {s : List Int} (h : (itemQ s).2.2 ≠ 0) : textQ s = itemQ s := by rw [textQ, dif_neg h]
theorem textQ_go {s : List Int} (h : (itemQ s).2.2 = 0) : textQ s = ((itemQ s).1 ++ (textQ (s.drop (itemQ s).2.1)).1, (itemQ s).2.1 + (textQ (s.drop (itemQ s).2.1)).2.1, (textQ (s.drop (itemQ s).2.1)).2.2) := by rw [textQ, dif_pos h]
def resQ (acc : List Int) (p : Nat) (t : List Int × Nat × Int) : List Int × Int × Int := if t.2.2 = -1 then (acc ++ t.1, ((p + t.2.1 : Nat) : Int), 0) else ([], ((p + t.2.1 : Nat) : Int), t.2.2)
theorem resQ_go {acc s v : List Int} {p n : Nat} (h : itemQ s = (v, n, 0)) : resQ acc p (textQ s) = resQ (acc ++ v) (p + n) (textQ (s.drop n)) := by
 rw [textQ_go (by rw [h]), h]
 simp only [resQ, List.append_assoc, Nat.add_assoc]
theorem resQ_end {acc s : List Int} {p n : Nat} (h : itemQ s = ([], n, -1)) : resQ acc p (textQ s) = (acc, ((p + n : Nat) : Int), 0) := by
 rw [textQ_stop (by rw [h]; show (-1 : Int) ≠ 0; decide), h]
 simp [resQ]
theorem resQ_bad {acc s : List Int} {p : Nat} {e : Int} (h : itemQ s = ([], 0, e)) (h0 : e ≠ 0) (h1 : e ≠ -1) : resQ acc p (textQ s) = ([], (p : Int), e) := by
 rw [textQ_stop (by rw [h]; exact h0), h]
 simp only [resQ]
 rw [if_neg h1]; rfl
/-- a quoted atom at the beginning: what it says, how long it is, the error -/
def quoteS (l : List Int) : List Int × Int × Int := if l.headD 0 = 39 then resQ [] 1 (textQ (l.drop 1)) else ([], 0, 2)
theorem rd_next {l : List Int} {p : Nat} {c : Int} {r : List Int} (hm : l.drop p = c :: r) (hr : r ≠ []) : rd l ((p + 1 : Nat) : Int) = r.headD 0 := by
 show l.getD (p + 1) 0 = _
 have h1 : l.drop (p + 1) = r := by rw [← List.drop_drop, hm]; rfl
 cases r with
 | nil => exact absurd rfl hr
 | cons a t =>
  have : l[p + 1]? = some a := by rw [← List.head?_drop, h1]; rfl
  simp [List.getD_eq_getElem?_getD, this]
theorem rd_here {l : List Int} {p : Nat} {c : Int} {r : List Int} (hm : l.drop p = c :: r) : rd l (p : Int) = c := by
 show l.getD p 0 = _
 have : l[p]? = some c := by rw [← List.head?_drop, hm]; rfl
 simp [List.getD_eq_getElem?_getD, this]
theorem quote_loop (l : List Int) (hl : Bytes l) (hn : l.length ≤ 1000000) (N : Nat) : ∀ (p : Nat) (acc : List Int), l.length - p < N → p ≤ l.length → acc.length ≤ p →
  Ev (fun k => quote_Take.l0 k l acc (p : Int)) (resQ acc p (textQ (l.drop p))) := by
 induction N with
 | zero => intro p _ h; omega
 | succ N ih =>
  intro p acc hN hp ha
  have hml : (l.drop p).length = l.length - p := List.length_drop
  have w1 : wrap64 ((p : Int) + 1) = ((p + 1 : Nat) : Int) := by rw [w64 (by omega) (by omega)]; omega
  have w2 : wrap64 ((p : Int) + 2) = ((p + 2 : Nat) : Int) := by rw [w64 (by omega) (by omega)]; omega
  refine Ev.step (fun k => quote_Take.l0.eq_2 ..) ?_
  match hm : l.drop p with
  | [] =>
   rw [hm] at hml
   simp only [List.length_nil] at hml
   refine ev_else (by omega) (ev_now ?_)
   rw [resQ_bad (s := []) (e := 12) rfl (by decide) (by decide)]
  | c :: r =>
   rw [hm] at hml
   simp only [List.length_cons] at hml
   have hle := itemQ_le (c :: r)
   have cut : ∀ n : Nat, l.drop (p + n) = (c :: r).drop n := fun n => by rw [← hm, List.drop_drop]
   have key : ∀ {R : List Int × Int × Int}, Ev (fun k => quote_Take.j2 k l acc (p : Int) (r.headD 0)) R → Ev (fun k => if (p : Int) < (l.length : Int) then (if (wrap64 ((p : Int) + 1)) < (l.length : Int) then (if 0 ≤ (wrap64 ((p : Int) + 1)) then (quote_Take.j2 k l acc (p : Int) (rd l (wrap64 ((p : Int) + 1)))) else (none)) else (quote_Take.j2 k l acc (p : Int) 0)) else (some (([] : List Int), (p : Int), 12))) R := by
    intro R h
    refine ev_if (by omega) ?_
    rw [w1]
    cases hr : r with
    | nil =>
     rw [hr] at h hml
     simp only [List.length_nil] at hml
     exact ev_else (by omega) h
    | cons a t =>
     have e := rd_next hm (by rw [hr]; simp)
     rw [e]
     rw [hr] at hml
     simp only [List.length_cons] at hml
     exact ev_if (by omega) (ev_if (by omega) h)
   refine key ?_
   generalize hd : r.headD 0 = d
   have hgo : ∀ (v : List Int) (n : Nat), itemQ (c :: r) = (v, n, 0) → Ev (fun k => quote_Take.l0 k l (acc ++ v) ((p + n : Nat) : Int)) (resQ acc p (textQ (c :: r))) := by
    intro v n h
    rw [h] at hle
    simp only [List.length_cons] at hle
    have h1 := hle.2.1 trivial
    rw [resQ_go h, ← cut]
    refine ih (p + n) (acc ++ v) (by omega) (by omega) ?_
    rw [List.length_append]
    omega
   refine Ev.step (fun k => quote_Take.j2.eq_2 ..) (ev_if (by omega) (ev_if (by omega) ?_))
   rw [rd_here hm]
   by_cases h39 : c = 39
   ·refine ev_if h39 (Ev.step (fun k => quote_Take.j3.eq_2 ..) ?_)
    by_cases hd9 : d = 39
    ·have hi : itemQ (c :: r) = ([39], 2, 0) := by rw [itemQ, if_pos h39, if_pos (by rw [hd]; exact hd9)]
     refine ev_else (by simp [hd9]) (ev_if h39 (Ev.step (fun k => quote_Take.j4.eq_2 ..) (ev_if (by simp [h39]) (ev_if (by omega) ?_))))
     rw [w2, hd9]
     exact hgo _ _ hi
    ·have hi : itemQ (c :: r) = ([], 1, -1) := by rw [itemQ, if_pos h39, if_neg (by rw [hd]; exact hd9)]
     refine ev_if (by simp [hd9]) (ev_now ?_)
     rw [resQ_end hi, w1]
   ·refine ev_else h39 (Ev.step (fun k => quote_Take.j3.eq_2 ..) (ev_else (by simp) (ev_else h39 ?_)))
    by_cases h92 : c = 92
    ·refine ev_if h92 ?_
     by_cases hq : d = 92 ∨ d = 39
     ·have hi : itemQ (c :: r) = ([d], 2, 0) := by rw [itemQ, if_neg h39, if_pos h92, hd, if_pos hq]
      have fin : Ev (fun k => quote_Take.j4 k l acc (p : Int) d c true) (resQ acc p (textQ (c :: r))) := by
       refine Ev.step (fun k => quote_Take.j4.eq_2 ..) (ev_if rfl (ev_if (by omega) ?_))
       rw [w2]
       exact hgo _ _ hi
      by_cases h2 : d = 92
      ·exact ev_if h2 fin
      ·refine ev_else h2 ?_
       rw [show (d == 39) = true by simp; omega]
       exact fin
     ·have n1 : d ≠ 92 := fun h => hq (.inl h)
      have n2 : d ≠ 39 := fun h => hq (.inr h)
      refine ev_else n1 (Ev.step (fun k => quote_Take.j4.eq_2 ..) (ev_else (by simp [n2]) (ev_if h92 (Ev.step (fun k => quote_Take.j5.eq_2 ..) ?_))))
      by_cases hn10 : d = 110
      ·have hi : itemQ (c :: r) = ([10], 2, 0) := by rw [itemQ, if_neg h39, if_pos h92, hd, if_neg hq, if_pos hn10]
       refine ev_if (by simp [hn10]) (ev_if (by omega) ?_)
       rw [w2]
       exact hgo _ _ hi
      ·have hi : itemQ (c :: r) = ([], 0, 13) := by rw [itemQ, if_neg h39, if_pos h92, hd, if_neg hq, if_neg hn10]
       refine ev_else (by simp [hn10]) (ev_if h92 (ev_now ?_))
       rw [resQ_bad hi (by decide) (by decide)]
    ·refine ev_else h92 (Ev.step (fun k => quote_Take.j4.eq_2 ..) (ev_else (by simp) (ev_else h92 (Ev.step (fun k => quote_Take.j5.eq_2 ..) (ev_else (by simp) (ev_else h92 ?_))))))
     by_cases h10 : c = 10
     ·have hi : itemQ (c :: r) = ([], 0, 12) := by rw [itemQ, if_neg h39, if_neg h92, if_pos h10]
      refine ev_if h10 (ev_now ?_)
      rw [resQ_bad hi (by decide) (by decide)]
     ·refine ev_else h10 ?_
      by_cases hc : c < 32 ∨ c = 127
      ·have hi : itemQ (c :: r) = ([], 0, 11) := by rw [itemQ, if_neg h39, if_neg h92, if_neg h10, if_pos hc]
       have fin : Ev (fun k => quote_Take.j6 k l acc (p : Int) true) (resQ acc p (textQ (c :: r))) := by
        refine Ev.step (fun k => quote_Take.j6.eq_2 ..) (ev_if rfl (ev_now ?_))
        rw [resQ_bad hi (by decide) (by decide)]
       by_cases h32 : c < 32
       ·exact ev_if h32 fin
       ·refine ev_else h32 ?_
        rw [show (c == 127) = true by simp; omega]
        exact fin
      ·have n1 : ¬ c < 32 := fun h => hc (.inl h)
       have n2 : c ≠ 127 := fun h => hc (.inr h)
       refine ev_else n1 (Ev.step (fun k => quote_Take.j6.eq_2 ..) (ev_else (by simp [n2]) (ev_if (by omega) (ev_if (by omega) ?_))))
       rw [show l.drop ((p : Int)).toNat = c :: r from hm]
       refine Ev.bind (take_ev _) ?_
       have tp := take_pos c r
       simp only [List.length_cons] at tp
       by_cases ht : (takeS (c :: r)).2 = true
       ·have hi : itemQ (c :: r) = ((c :: r).take (takeS (c :: r)).1.toNat, (takeS (c :: r)).1.toNat, 0) := by rw [itemQ, if_neg h39, if_neg h92, if_neg h10, if_neg hc, if_pos ht]
        generalize (takeS (c :: r)).1 = n at tp hi ⊢
        have wn : wrap64 ((p : Int) + n) = ((p + n.toNat : Nat) : Int) := by rw [w64 (by omega) (by omega)]; omega
        rw [wn]
        have et : (l.take (((p + n.toNat : Nat) : Int)).toNat).drop ((p : Int)).toNat = (c :: r).take n.toNat := by
         show (l.take (p + n.toNat)).drop p = _
         rw [List.drop_take, hm, Nat.add_sub_cancel_left]
        rw [et]
        refine ev_if ht (ev_if (by omega) (ev_if (by omega) (ev_if ?_ ?_)))
        ·rw [List.length_take]; simp only [List.length_cons]; omega
        ·exact hgo _ _ hi
       ·have hi : itemQ (c :: r) = ([], 0, 10) := by rw [itemQ, if_neg h39, if_neg h92, if_neg h10, if_neg hc, if_neg ht]
        refine ev_else ht (ev_now ?_)
        rw [resQ_bad hi (by decide) (by decide)]
theorem quote_ev (l : List Int) (hl : Bytes l) (hn : l.length ≤ 1000000) : Ev (fun k => quote_Take.f k l) (quoteS l) := by
 unfold quote_Take.f quoteS
 cases l with
 | nil => exact ev_if rfl (Ev.step (fun k => quote_Take.j0.eq_2 ..) (ev_if rfl (ev_now rfl)))
 | cons c r =>
  refine ev_else (by simp; omega) (ev_if (by simp) ?_)
  rw [show rd (c :: r) 0 = c from rfl, show (c :: r).headD 0 = c from rfl]
  refine Ev.step (fun k => quote_Take.j0.eq_2 ..) ?_
  by_cases h : c = 39
  ·rw [if_pos h]
   exact ev_else (by simp [h]) (quote_loop _ hl hn ((c :: r).length + 1) 1 [] (by omega) (by simp) (by simp))
  ·rw [if_neg h]
   exact ev_if (by simp [h]) (ev_now rfl)
end Go.Proofs.YtdejidhgeefmeaaDoor.P
namespace Go.Proofs.YtdejidhgeefmeaaDoor.P
set_option linter.unusedSimpArgs false
set_option linter.unusedVariables false
open Go.RowKit Go.Proofs.YtdejidhgeefmeaaDoor.P Go.Proofs.YtdejidhgeefmeaaDoorW.PrintWords Go.Proofs.YtdejidhgeefmeaaDoorW.PrintLast Go.Proofs.YtdejidhgeefmeaaDoorW.PrintMore
/-- how much of a name stands next -/
def stepN : List Int → Nat
 | [] => 0
 | c :: r => if (takeS (c :: r)).2 = true ∧ ((takeS (c :: r)).1 = 1 → nameOf c = true) then (takeS (c :: r)).1.toNat else 0
theorem stepN_le (s : List Int) : stepN s ≤ s.length := by
 match s with
 | [] => exact Nat.le_refl _
 | c :: r =>
  have := take_pos c r
  rw [stepN]
  split
  ·omega
  ·omega
/-- how much of a name stands at the beginning -/
def nameS (s : List Int) : Nat := if h : stepN s = 0 then 0 else stepN s + nameS (s.drop (stepN s))
termination_by s.length
decreasing_by all_goals (have := stepN_le s; rw [List.length_drop]; omega)
theorem nameS_stop {s : List Int} (h : stepN s = 0) : nameS s = 0 := by rw [nameS, dif_pos h]
theorem nameS_go {s : List Int} (h : stepN s ≠ 0) : nameS s = stepN s + nameS (s.drop (stepN s)) := by rw [nameS, dif_neg h]
theorem nameS_le (N : Nat) : ∀ s : List Int, s.length < N → nameS s ≤ s.length := by
 induction N with
 | zero => intro s h; omega
 | succ N ih =>
  intro s h
  have hs := stepN_le s
  by_cases h0 : stepN s = 0
  ·rw [nameS_stop h0]; omega
  ·have e := nameS_go h0
   have := ih (s.drop (stepN s)) (by rw [List.length_drop]; omega)
   rw [List.length_drop] at this
   omega
theorem name_loop (l : List Int) (hl : Bytes l) (hn : l.length ≤ 1000000) (N : Nat) : ∀ p : Nat, l.length - p < N → p ≤ l.length → Ev (fun k => token_name.l0 k l (p : Int)) ((p + nameS (l.drop p) : Nat) : Int) := by
 induction N with
 | zero => intro p h; omega
 | succ N ih =>
  intro p hN hp
  have hml : (l.drop p).length = l.length - p := List.length_drop
  refine Ev.step (fun k => token_name.l0.eq_2 ..) ?_
  match hm : l.drop p with
  | [] =>
   rw [hm] at hml
   simp only [List.length_nil] at hml
   refine ev_else (by omega) (ev_now ?_)
   rw [nameS_stop rfl]
   omega
  | c :: r =>
   rw [hm] at hml
   simp only [List.length_cons] at hml
   have cut : ∀ n : Nat, l.drop (p + n) = (c :: r).drop n := fun n => by rw [← hm, List.drop_drop]
   have tp := take_pos c r
   simp only [List.length_cons] at tp
   have hsl := stepN_le (c :: r)
   simp only [List.length_cons] at hsl
   refine ev_if (by omega) (ev_if (by omega) (ev_if (by omega) ?_))
   (try rw [show l.drop ((p : Int)).toNat = c :: r from hm])
   rw [rd_here hm]
   refine Ev.bind (take_ev _) ?_
   have stop : stepN (c :: r) = 0 → ((p : Nat) : Int) = ((p + nameS (c :: r) : Nat) : Int) := fun h => by rw [nameS_stop h]; rfl
   have go : (takeS (c :: r)).2 = true → ((takeS (c :: r)).1 = 1 → nameOf c = true) → Ev (fun k => token_name.l0 k l (wrap64 ((p : Int) + (takeS (c :: r)).1))) ((p + nameS (c :: r) : Nat) : Int) := by
    intro h1 h2
    have es : stepN (c :: r) = (takeS (c :: r)).1.toNat := by rw [stepN, if_pos ⟨h1, h2⟩]
    have e := nameS_go (s := c :: r) (by omega)
    have wn : wrap64 ((p : Int) + (takeS (c :: r)).1) = ((p + (takeS (c :: r)).1.toNat : Nat) : Int) := by rw [w64 (by omega) (by omega)]; omega
    rw [wn]
    refine ev_eq (ih (p + (takeS (c :: r)).1.toNat) (by omega) (by omega)) ?_
    rw [cut, e, es]
    omega
   by_cases h1 : (takeS (c :: r)).2 = true
   ·refine ev_if h1 ?_
    by_cases h2 : (takeS (c :: r)).1 = 1
    ·refine ev_if h2 (ev_same (name_eq c) ?_)
     by_cases h3 : nameOf c = true
     ·exact ev_if h3 (go h1 (fun _ => h3))
     ·exact ev_else h3 (ev_now (stop (by rw [stepN, if_neg (fun h => h3 (h.2 h2))])))
    ·exact ev_else h2 (go h1 (fun h => absurd h h2))
   ·exact ev_else h1 (ev_now (stop (by rw [stepN, if_neg (fun h => h1 h.1)])))
theorem name_ev (l : List Int) (hl : Bytes l) (hn : l.length ≤ 1000000) : Ev (fun k => token_name.f k l) (nameS l : Int) := by
 refine ev_eq (name_loop l hl hn (l.length + 1) 0 (by omega) (by omega)) ?_
 simp
abbrev Scan := Int × Int × ByteArray × Int
theorem named1_ev (l : List Int) (hl : Bytes l) (hn : l.length ≤ 1000000) (kd : Int) : Ev (fun k => token_named1.f k kd l) (kd, (nameS l : Int), strOfNums (l.take (nameS l)), (0 : Int)) := by
 unfold token_named1.f
 have := nameS_le (l.length + 1) l (by omega)
 exact Ev.bind (name_ev l hl hn) (ev_if (by omega) (ev_if (by omega) (ev_now rfl)))
/-- does a dot, with this behind it, end a clause -/
def endsS (l : List Int) : Bool := match l with
 | [] => true
 | c :: _ => classOf c == 1 || classOf c == 8
/-- symbols -/
def symbolS (l : List Int) : Scan := (if l.take (runS l 5) = [46] ∧ endsS (l.drop (runS l 5)) = true then 7 else 2, (runS l 5 : Int), strOfNums (l.take (runS l 5)), 0)
theorem str_dot {m : List Int} (hm : Bytes m) : ((strOfNums m).toList = ([46] : List UInt8)) ↔ m = [46] := by
 rw [strOf_list]
 match m with
 | [] => simp
 | [c] =>
  have hc := hm c (by simp)
  constructor
  ·intro h
   simp only [List.map_cons, List.map_nil, List.cons.injEq, and_true] at h
   rw [u8_inj hc (y := 46) (by omega) h]
  ·intro h
   rw [List.cons.injEq] at h
   rw [h.1]; rfl
 | c :: d :: r => simp
theorem symbol_ev (l : List Int) (hl : Bytes l) (hn : l.length ≤ 1000000) : Ev (fun k => token_symbol.f k l) (symbolS l) := by
 unfold token_symbol.f symbolS
 have hle := runS_le l 5
 refine Ev.bind (run_ev l 5 (by omega)) (ev_if (by omega) (ev_if (by omega) ?_))
 rw [show ((runS l 5 : Int)).toNat = runS l 5 from rfl]
 by_cases h : l.take (runS l 5) = [46]
 ·refine ev_if ((str_dot (hl.take _)).2 h) ?_
  match hm : l.drop (runS l 5) with
  | [] =>
   have hml : (l.drop (runS l 5)).length = l.length - runS l 5 := List.length_drop
   rw [hm] at hml
   simp only [List.length_nil] at hml
   refine ev_if (by omega) (ev_now ?_)
   rw [if_pos ⟨h, rfl⟩]
  | c :: r =>
   have hml : (l.drop (runS l 5)).length = l.length - runS l 5 := List.length_drop
   rw [hm] at hml
   simp only [List.length_cons] at hml
   refine ev_else (by omega) (ev_if (by omega) ?_)
   rw [rd_here hm]
   refine ev_same (class_of c) ?_
   by_cases h1 : classOf c = 1
   ·refine ev_if h1 (ev_now ?_)
    rw [if_pos ⟨h, by simp [endsS, h1]⟩]
   ·refine ev_else h1 (ev_same (class_of c) ?_)
    by_cases h8 : classOf c = 8
    ·refine ev_if h8 (ev_now ?_)
     rw [if_pos ⟨h, by simp [endsS, h8]⟩]
    ·refine ev_else h8 (ev_now ?_)
     rw [if_neg (by simp [endsS, h1, h8])]
 ·refine ev_else (fun h2 => h ((str_dot (hl.take _)).1 h2)) (ev_now ?_)
  rw [if_neg (fun h2 => h h2.1)]
def numberS (l : List Int) : Scan := (4, (takeD l).2.1, strOfNums (l.take (takeD l).2.1.toNat), (takeD l).2.2)
theorem takeD_le (l : List Int) : (takeD l).2.1 = (runS l 4 : Int) := by
 unfold takeD
 by_cases h : runS l 4 = 0
 ·rw [if_pos h, h]; rfl
 ·rw [if_neg h]
  cases numS 0 (headD l) <;> rfl
theorem number_ev (l : List Int) (hl : Bytes l) (hn : l.length ≤ 1000000) : Ev (fun k => token_number.f k l) (numberS l) := by
 unfold token_number.f numberS
 have hle := runS_le l 4
 have e := takeD_le l
 exact Ev.bind (dtake_ev l hl hn) (ev_if (by omega) (ev_if (by omega) (ev_now rfl)))
def quotedS (l : List Int) : Scan := (5, (quoteS l).2.1, strOfNums (quoteS l).1, (quoteS l).2.2)
theorem quoted_ev (l : List Int) (hl : Bytes l) (hn : l.length ≤ 1000000) : Ev (fun k => token_quoted.f k l) (quotedS l) := by
 unfold token_quoted.f quotedS
 exact Ev.bind (quote_ev l hl hn) (ev_now rfl)
def highS (l : List Int) : Scan := if (takeS l).2 = true then (1, (nameS l : Int), strOfNums (l.take (nameS l)), 0) else (0, 1, ⟨#[]⟩, 10)
theorem high_ev (l : List Int) (hl : Bytes l) (hn : l.length ≤ 1000000) : Ev (fun k => token_high.f k l) (highS l) := by
 unfold token_high.f highS
 refine Ev.bind (take_ev l) ?_
 by_cases h : (takeS l).2 = true
 ·rw [if_pos h]; exact ev_if h (named1_ev l hl hn 1)
 ·rw [if_neg h]; exact ev_else h (ev_now rfl)
/-- a token at the beginning, by its first byte's class: as_ it is scanned -/
def scanS (c : Int) (l : List Int) : Scan :=
 if c = 2 then (1, (nameS l : Int), strOfNums (l.take (nameS l)), 0) else if c = 3 then (3, (nameS l : Int), strOfNums (l.take (nameS l)), 0) else if c = 9 then highS l else if c = 5 then symbolS l else if c = 4 then numberS l
 else if c = 7 then quotedS l else if c = 6 then (6, 1, strOfNums (l.take 1), 0) else (0, 1, ⟨#[]⟩, 11)
theorem class_all : ∀ n : Nat, n < 256 → 0 ≤ classOf (n : Int) ∧ classOf (n : Int) ≤ 9 := by decide +kernel
theorem class_range {c : Int} (h : 0 ≤ c ∧ c < 256) : 0 ≤ classOf c ∧ classOf c ≤ 9 := byte_all (p := fun c => 0 ≤ classOf c ∧ classOf c ≤ 9) class_all h
theorem scan_ev (l : List Int) (h0 : l ≠ []) (hl : Bytes l) (hn : l.length ≤ 1000000) (c : Int) (hc : 0 ≤ c ∧ c ≤ 9) : Ev (fun k => token_scan.f k c l) (scanS c l) := by
 unfold token_scan.f scanS
 by_cases h2 : c = 2
 ·rw [if_pos h2]; exact ev_if h2 (named1_ev l hl hn 1)
 rw [if_neg h2]; refine ev_else h2 ?_
 by_cases h3 : c = 3
 ·rw [if_pos h3]; exact ev_if h3 (named1_ev l hl hn 3)
 rw [if_neg h3]; refine ev_else h3 ?_
 by_cases h9 : c = 9
 ·rw [if_pos h9]; exact ev_if h9 (high_ev l hl hn)
 rw [if_neg h9]; refine ev_else h9 ?_
 by_cases h5 : c = 5
 ·rw [if_pos h5]; exact ev_if h5 (symbol_ev l hl hn)
 rw [if_neg h5]; refine ev_else h5 ?_
 by_cases h4 : c = 4
 ·rw [if_pos h4]; exact ev_if h4 (number_ev l hl hn)
 rw [if_neg h4]; refine ev_else h4 ?_
 by_cases h7 : c = 7
 ·rw [if_pos h7]; exact ev_if h7 (quoted_ev l hl hn)
 rw [if_neg h7]; refine ev_else h7 ?_
 have h1 : 1 ≤ (l.length : Int) := by
  cases l with
  | nil => exact absurd rfl h0
  | cons a t => simp only [List.length_cons]; omega
 by_cases h6 : c = 6
 ·simp only [if_pos h6]
  unfold token_solo.f
  exact ev_if h1 (ev_now rfl)
 simp only [if_neg h6]
 have ho : Ev (fun _ => token_other.f l) ((0, 1, ⟨#[]⟩, 11) : Scan) := Ev.now _
 by_cases e0 : c = 0
 ·simp only [if_pos e0]; exact ho
 simp only [if_neg e0]
 by_cases e1 : c = 1
 ·simp only [if_pos e1]; exact ho
 simp only [if_neg e1]
 have e8 : c = 8 := by omega
 simp only [if_pos e8]; exact ho
/-- a token at the beginning, as_ it is told -/
def tokS (l : List Int) : Scan := if (scanS (classOf (l.headD 0)) l).2.2.2 = 0 then scanS (classOf (l.headD 0)) l else (8, (scanS (classOf (l.headD 0)) l).2.1, ⟨#[]⟩, (scanS (classOf (l.headD 0)) l).2.2.2)
abbrev Tok := Int × Int × Int × ByteArray × Int × Bool
def noTok : Tok := (0, 0, 0, ⟨#[]⟩, 0, false)
/-- the first token behind p -/
def behindS (l : List Int) (p : Nat) : Tok :=
 if (skipS (l.drop p)).2 ≠ 0 then (8, ((p + (skipS (l.drop p)).1 : Nat) : Int), (l.length : Int), ⟨#[]⟩, (skipS (l.drop p)).2, true)
 else if l.drop (p + (skipS (l.drop p)).1) = [] then noTok
 else ((tokS (l.drop (p + (skipS (l.drop p)).1))).1, ((p + (skipS (l.drop p)).1 : Nat) : Int), ((p + (skipS (l.drop p)).1 : Nat) : Int) + (tokS (l.drop (p + (skipS (l.drop p)).1))).2.1, (tokS (l.drop (p + (skipS (l.drop p)).1))).2.2.1, (tokS (l.drop (p + (skipS (l.drop p)).1))).2.2.2, true)
def nextS (l : List Int) (a : Int) : Tok := if a < 0 ∨ a > (l.length : Int) then noTok else behindS l a.toNat
theorem resQ_le {acc s : List Int} {p : Nat} : (resQ acc p (textQ s)).2.1 = ((p + (textQ s).2.1 : Nat) : Int) := by
 unfold resQ
 split <;> rfl
theorem textQ_le (N : Nat) : ∀ s : List Int, s.length < N → (textQ s).2.1 ≤ s.length := by
 induction N with
 | zero => intro s h; omega
 | succ N ih =>
  intro s h
  have hs := itemQ_le s
  by_cases h0 : (itemQ s).2.2 = 0
  ·have e := textQ_go h0
   have h1 := hs.2.1 h0
   have := ih (s.drop (itemQ s).2.1) (by rw [List.length_drop]; omega)
   rw [List.length_drop] at this
   have e1 := congrArg (fun t => t.2.1) e
   simp only at e1
   omega
  ·rw [textQ_stop h0]; exact hs.1
theorem quoteS_le (l : List Int) : 0 ≤ (quoteS l).2.1 ∧ (quoteS l).2.1 ≤ (l.length : Int) := by
 unfold quoteS
 by_cases h : l.headD 0 = 39
 ·rw [if_pos h, resQ_le]
  cases l with
  | nil => exact absurd h (by decide)
  | cons c r =>
   have := textQ_le (r.length + 1) r (by omega)
   simp only [List.drop_succ_cons, List.drop_zero, List.length_cons]
   omega
 ·rw [if_neg h]; simp
theorem scanS_le (c : Int) {l : List Int} (h : l ≠ []) : 0 ≤ (scanS c l).2.1 ∧ (scanS c l).2.1 ≤ (l.length : Int) := by
 have hn := nameS_le (l.length + 1) l (by omega)
 have h1 : 1 ≤ l.length := by
  cases l with
  | nil => exact absurd rfl h
  | cons a t => simp
 unfold scanS
 split
 ·simp only; omega
 split
 ·simp only; omega
 split
 ·unfold highS
  split
  ·simp only; omega
  ·simp only; omega
 split
 ·have := runS_le l 5
  unfold symbolS; simp only; omega
 split
 ·have := runS_le l 4
  have e := takeD_le l
  unfold numberS; simp only; omega
 split
 ·have := quoteS_le l
  unfold quotedS; simp only; omega
 split
 ·simp only; omega
 ·simp only; omega
theorem next_ev (l : List Int) (hl : Bytes l) (hn : l.length ≤ 1000000) (a : Int) : Ev (fun k => token_Next.f k l a) (nextS l a) := by
 unfold token_Next.f nextS
 by_cases h1 : a < 0
 ·rw [if_pos (.inl h1)]; exact ev_if h1 (ev_now rfl)
 refine ev_else h1 ?_
 by_cases h2 : a > (l.length : Int)
 ·rw [if_pos (.inr h2)]; exact ev_if h2 (ev_now rfl)
 refine ev_else h2 ?_
 rw [if_neg (fun h => h.elim h1 h2)]
 obtain ⟨p, rfl⟩ : ∃ p : Nat, a = (p : Int) := ⟨a.toNat, by omega⟩
 rw [show ((p : Int)).toNat = p from rfl]
 have hd := hl.drop p
 have hml : (l.drop p).length = l.length - p := List.length_drop
 refine Ev.bind (skip_ev _ hd (by omega)) ?_
 have hsl := skipS_le ((l.drop p).length + 1) (l.drop p) (by omega)
 unfold behindS
 generalize hS : skipS (l.drop p) = S at hsl
 obtain ⟨n, e⟩ := S
 simp only at hsl ⊢
 have wn : wrap64 ((p : Int) + (n : Int)) = ((p + n : Nat) : Int) := by rw [w64 (by omega) (by omega)]; omega
 rw [wn]
 unfold token_Next.g
 by_cases he : e = 0
 ·refine ev_if he ?_
  rw [if_neg (by simp [he])]
  have hml2 : (l.drop (p + n)).length = l.length - (p + n) := List.length_drop
  match hm : l.drop (p + n) with
  | [] =>
   rw [hm] at hml2
   simp only [List.length_nil] at hml2
   rw [if_pos rfl]
   exact ev_if (by omega) (ev_now rfl)
  | c :: r =>
   rw [hm] at hml2
   simp only [List.length_cons] at hml2
   rw [if_neg (by simp)]
   refine ev_else (by omega) (ev_if (by omega) (ev_if (by omega) ?_))
   rw [rd_here hm]
   have hb : Bytes (c :: r) := by rw [← hm]; exact hl.drop _
   refine ev_same (class_of c) (Ev.bind (scan_ev (c :: r) (by simp) hb (by simp only [List.length_cons]; omega) (classOf c) (class_range hb.cons.1)) ?_)
   have hsz := scanS_le (classOf c) (l := c :: r) (by simp)
   simp only [List.length_cons] at hsz
   have ws : wrap64 (((p + n : Nat) : Int) + (scanS (classOf c) (c :: r)).2.1) = ((p + n : Nat) : Int) + (scanS (classOf c) (c :: r)).2.1 := by rw [w64 (by omega) (by omega)]
   rw [ws]
   unfold tokS
   rw [show (c :: r).headD 0 = c from rfl]
   by_cases h0 : (scanS (classOf c) (c :: r)).2.2.2 = 0
   ·simp only [if_pos h0]
    exact ev_now (by rw [h0])
   ·simp only [if_neg h0]
    exact ev_now rfl
 ·rw [if_pos he]
  exact ev_else he (ev_now rfl)
end Go.Proofs.YtdejidhgeefmeaaDoor.P
namespace Go.Proofs.YtdejidhgeefmeaaDoor.P
set_option linter.unusedSimpArgs false
set_option linter.unusedVariables false
open Go.RowKit Go.Proofs.YtdejidhgeefmeaaDoor.P Go.Proofs.YtdejidhgeefmeaaDoorW.PrintWords Go.Proofs.YtdejidhgeefmeaaDoorW.PrintLast Go.Proofs.YtdejidhgeefmeaaDoorW.PrintMore
theorem flow_all : ∀ n : Nat, n < 256 → nameOf (n : Int) = true → (n : Int) < 128 := by decide +kernel
theorem fname_low {c : Int} (h : 0 ≤ c ∧ c < 256) : nameOf c = true → c < 128 := byte_all (p := fun c => nameOf c = true → c < 128) flow_all h
theorem fhigh_all : ∀ n : Nat, n < 256 → classOf (n : Int) = 9 → 128 ≤ (n : Int) := by decide +kernel
theorem fclass_high {c : Int} (h : 0 ≤ c ∧ c < 256) : classOf c = 9 → 128 ≤ c := byte_all (p := fun c => classOf c = 9 → 128 ≤ c) fhigh_all h
theorem fquote_all : ∀ n : Nat, n < 256 → classOf (n : Int) = 7 → (n : Int) = 39 := by decide +kernel
theorem fclass_quote {c : Int} (h : 0 ≤ c ∧ c < 256) : classOf c = 7 → c = 39 := byte_all (p := fun c => classOf c = 7 → c = 39) fquote_all h
theorem ftake_low {c : Int} (h : c < 128) (r : List Int) : takeS (c :: r) = (1, true) := by
 have e : uLong c = 1 := by unfold uLong; rw [if_pos h]
 rw [takeS_cons, e]; rfl
theorem ftake_high {c : Int} (h : 128 ≤ c) {r : List Int} (ho : (takeS (c :: r)).2 = true) : (takeS (c :: r)).1 > 1 := by
 rw [takeS_cons] at ho ⊢
 by_cases h0 : uLong c = 0
 ·rw [if_pos h0] at ho; cases ho
 rw [if_neg h0] at ho ⊢
 by_cases h1 : restOk (uLong c - 1) (uLo c) (uHi c) r = true
 ·rw [if_pos h1]
  have : uLong c ≠ 1 := by
   unfold uLong
   rw [if_neg (by omega)]
   split
   ·omega
   split
   ·omega
   split <;> omega
  simp only
  omega
 ·rw [if_neg h1] at ho; cases ho
theorem stepN_name {c : Int} (hc : 0 ≤ c ∧ c < 256) (r : List Int) (h : nameOf c = true) : stepN (c :: r) = 1 := by
 rw [stepN, ftake_low (fname_low hc h), if_pos ⟨rfl, fun _ => h⟩]; rfl
/-- what the errors are -/
theorem textQ_code (N : Nat) : ∀ s : List Int, s.length < N → (textQ s).2.2 = -1 ∨ (10 ≤ (textQ s).2.2 ∧ (textQ s).2.2 ≤ 13) := by
 induction N with
 | zero => intro s h; omega
 | succ N ih =>
  intro s h
  have hs := itemQ_le s
  by_cases h0 : (itemQ s).2.2 = 0
  ·have e := textQ_go h0
   have h1 := hs.2.1 h0
   have e2 := congrArg (fun t => t.2.2) e
   simp only at e2
   rw [e2]
   exact ih (s.drop (itemQ s).2.1) (by rw [List.length_drop]; omega)
  ·rw [textQ_stop h0]
   match s with
   | [] => right; simp [itemQ]
   | c :: r =>
    rw [itemQ] at h0 ⊢
    repeat' split
    all_goals simp_all
/-- The seven. -/
theorem tok_cases (c : Int) (r : List Int) (hb : Bytes (c :: r)) :
  (tokS (c :: r) = (1, (nameS (c :: r) : Int), strOfNums ((c :: r).take (nameS (c :: r))), 0) ∧ (classOf c = 2 ∨ classOf c = 9) ∧ 1 ≤ nameS (c :: r)) ∨
  (tokS (c :: r) = (3, (nameS (c :: r) : Int), strOfNums ((c :: r).take (nameS (c :: r))), 0) ∧ classOf c = 3 ∧ 1 ≤ nameS (c :: r)) ∨
  (tokS (c :: r) = symbolS (c :: r) ∧ classOf c = 5 ∧ 1 ≤ runS (c :: r) 5) ∨
  (tokS (c :: r) = (4, (runS (c :: r) 4 : Int), strOfNums ((c :: r).take (runS (c :: r) 4)), 0) ∧ classOf c = 4 ∧ 1 ≤ runS (c :: r) 4) ∨
  (∃ tx, tokS (c :: r) = (5, ((1 + (textQ r).2.1 : Nat) : Int), tx, 0) ∧ c = 39 ∧ classOf c = 7 ∧ (textQ r).2.2 = -1) ∨
  (tokS (c :: r) = (6, 1, strOfNums ((c :: r).take 1), 0) ∧ classOf c = 6) ∨
  (∃ (n : Nat) (e : Int), tokS (c :: r) = (8, (n : Int), ⟨#[]⟩, e) ∧ e ≠ 0 ∧ 1 ≤ n ∧ n ≤ (c :: r).length) := by
 have hcb := hb.cons.1
 have hh : (c :: r).headD 0 = c := rfl
 have good : ∀ {kd sz : Int} {tx : ByteArray}, scanS (classOf c) (c :: r) = (kd, sz, tx, 0) → tokS (c :: r) = (kd, sz, tx, 0) := by
  intro kd sz tx h
  unfold tokS; rw [hh, h]; rfl
 have bad : ∀ {kd sz e : Int} {tx : ByteArray}, scanS (classOf c) (c :: r) = (kd, sz, tx, e) → e ≠ 0 → tokS (c :: r) = (8, sz, ⟨#[]⟩, e) := by
  intro kd sz e tx h he
  unfold tokS; rw [hh, h]; simp only; rw [if_neg he]
 have one : ∀ {s : List Int}, s = c :: r → stepN s ≠ 0 → 1 ≤ nameS s := by
  intro s _ h
  have e := nameS_go h
  omega
 by_cases h2 : classOf c = 2
 ·left
  refine ⟨good (by rw [scanS, if_pos h2]), .inl h2, one rfl ?_⟩
  rw [stepN_name hcb r (by simp [nameOf, h2])]; omega
 by_cases h9o : classOf c = 9 ∧ (takeS (c :: r)).2 = true
 ·left
  have hgt := ftake_high (fclass_high hcb h9o.1) h9o.2
  refine ⟨good (by rw [scanS, if_neg h2, if_neg (by omega), if_pos h9o.1, highS, if_pos h9o.2]), .inr h9o.1, one rfl ?_⟩
  rw [stepN, if_pos ⟨h9o.2, fun h => by omega⟩]
  omega
 right
 by_cases h3 : classOf c = 3
 ·left
  refine ⟨good (by rw [scanS, if_neg h2, if_pos h3]), h3, one rfl ?_⟩
  rw [stepN_name hcb r (by simp [nameOf, h3])]; omega
 by_cases h9 : classOf c = 9
 ·by_cases ho : (takeS (c :: r)).2 = true
  ·exact absurd ⟨h9, ho⟩ h9o
  ·right; right; right; right; right
   exact ⟨1, 10, bad (by rw [scanS, if_neg h2, if_neg h3, if_pos h9, highS, if_neg ho]; rfl) (by decide), by decide, by omega, by simp⟩
 right
 by_cases h5 : classOf c = 5
 ·left
  refine ⟨?_, h5, ?_⟩
  ·have e : scanS (classOf c) (c :: r) = symbolS (c :: r) := by rw [scanS, if_neg h2, if_neg h3, if_neg h9, if_pos h5]
   unfold tokS
   rw [hh, e]; rfl
  ·rw [runS_cons, if_pos h5]; omega
 right
 have hr4 : classOf c = 4 → 1 ≤ runS (c :: r) 4 := fun h => by rw [runS_cons, if_pos h]; omega
 by_cases h4 : classOf c = 4
 ·have e : scanS (classOf c) (c :: r) = numberS (c :: r) := by rw [scanS, if_neg h2, if_neg h3, if_neg h9, if_neg h5, if_pos h4]
  have e1 := takeD_le (c :: r)
  have hle := runS_le (c :: r) 4
  by_cases he : (takeD (c :: r)).2.2 = 0
  ·left
   refine ⟨good (e.trans ?_), h4, hr4 h4⟩
   unfold numberS; rw [e1, he]; rfl
  ·right; right; right
   refine ⟨runS (c :: r) 4, (takeD (c :: r)).2.2, bad (kd := 4) (tx := strOfNums ((c :: r).take ((runS (c :: r) 4 : Int)).toNat)) (e.trans ?_) he, he, hr4 h4, hle⟩
   unfold numberS; rw [e1]
 right
 by_cases h7 : classOf c = 7
 ·have c39 := fclass_quote hcb h7
  have e : scanS (classOf c) (c :: r) = quotedS (c :: r) := by rw [scanS, if_neg h2, if_neg h3, if_neg h9, if_neg h5, if_neg h4, if_pos h7]
  have eq : quoteS (c :: r) = resQ [] 1 (textQ r) := by unfold quoteS; rw [hh, if_pos c39]; rfl
  have hq := textQ_code (r.length + 1) r (by omega)
  have hl := textQ_le (r.length + 1) r (by omega)
  by_cases he : (textQ r).2.2 = -1
  ·left
   refine ⟨strOfNums ([] ++ (textQ r).1), good (e.trans ?_), c39, h7, he⟩
   unfold quotedS; rw [eq]; unfold resQ; rw [if_pos he]
  ·right; right
   refine ⟨1 + (textQ r).2.1, (textQ r).2.2, bad (kd := 5) (tx := strOfNums []) (e.trans ?_) (by omega), by omega, by omega, by simp only [List.length_cons]; omega⟩
   unfold quotedS; rw [eq]; unfold resQ; rw [if_neg he]
 right
 by_cases h6 : classOf c = 6
 ·left
  exact ⟨good (by rw [scanS, if_neg h2, if_neg h3, if_neg h9, if_neg h5, if_neg h4, if_neg h7, if_pos h6]), h6⟩
 ·right
  exact ⟨1, 11, bad (by rw [scanS, if_neg h2, if_neg h3, if_neg h9, if_neg h5, if_neg h4, if_neg h7, if_neg h6]; rfl) (by decide), by decide, by omega, by simp⟩
end Go.Proofs.YtdejidhgeefmeaaDoor.P
namespace Go.Proofs.YtdejidhgeefmeaaDoor.P
set_option linter.unusedSimpArgs false
set_option linter.unusedVariables false
open Go.RowKit Go.Proofs.YtdejidhgeefmeaaDoor.P Go.Proofs.YtdejidhgeefmeaaDoorW.PrintWords Go.Proofs.YtdejidhgeefmeaaDoorW.PrintLast Go.Proofs.YtdejidhgeefmeaaDoorW.PrintMore
abbrev TokR := S34
theorem TokR.same {x y : TokR} (h0 : x.f0 = y.f0) (h1 : x.f1 = y.f1) (h2 : x.f2 = y.f2) (h3 : x.f3 = y.f3) (h4 : x.f4 = y.f4) : x = y := by
 obtain ⟨a, b, c, d, e⟩ := x
 obtain ⟨a', b', c', d', e'⟩ := y
 simp only at h0 h1 h2 h3 h4
 rw [h0, h1, h2, h3, h4]
def shiftT (n : Nat) (t : TokR) : TokR := ⟨t.f0, t.f1 + (n : Int), t.f2 + (n : Int), t.f3, t.f4⟩
theorem shiftT_zero (t : TokR) : shiftT 0 t = t := TokR.same rfl (by show t.f1 + ((0 : Nat) : Int) = t.f1; omega) (by show t.f2 + ((0 : Nat) : Int) = t.f2; omega) rfl rfl
theorem shiftT_two (m n : Nat) (t : TokR) : shiftT m (shiftT n t) = shiftT (m + n) t := TokR.same rfl (by show t.f1 + (n : Int) + (m : Int) = t.f1 + ((m + n : Nat) : Int); omega) (by show t.f2 + (n : Int) + (m : Int) = t.f2 + ((m + n : Nat) : Int); omega) rfl rfl
theorem map_shift (m n : Nat) (l : List TokR) : (l.map (shiftT n)).map (shiftT m) = l.map (shiftT (m + n)) := by rw [List.map_map]; congr 1; funext t; exact shiftT_two m n t
theorem map_zero (l : List TokR) : l.map (shiftT 0) = l := by
 have : shiftT 0 = id := by funext t; exact shiftT_zero t
 rw [this, List.map_id]
/-- the place behind the layout, and the token there; nothing: there is none -/
def headT (s : List Int) : Option (Nat × TokR) :=
 if (skipS s).2 ≠ 0 then some (s.length, ⟨8, ((skipS s).1 : Int), (s.length : Int), ⟨#[]⟩, (skipS s).2⟩)
 else if s.drop (skipS s).1 = [] then none
 else some ((skipS s).1 + (tokS (s.drop (skipS s).1)).2.1.toNat, ⟨(tokS (s.drop (skipS s).1)).1, ((skipS s).1 : Int), ((skipS s).1 : Int) + (tokS (s.drop (skipS s).1)).2.1, (tokS (s.drop (skipS s).1)).2.2.1, (tokS (s.drop (skipS s).1)).2.2.2⟩)
theorem tokS_size (l : List Int) : (tokS l).2.1 = (scanS (classOf (l.headD 0)) l).2.1 := by
 unfold tokS
 split <;> rfl
theorem tok_size {s : List Int} (hb : Bytes s) (h : s ≠ []) : 1 ≤ (tokS s).2.1 ∧ (tokS s).2.1 ≤ (s.length : Int) := by
 have hle := scanS_le (classOf (s.headD 0)) h
 rw [← tokS_size] at hle
 refine ⟨?_, hle.2⟩
 match s, h with
 | c :: r, _ =>
  rcases tok_cases c r hb with ⟨e, _, h1⟩ | ⟨e, _, h1⟩ | ⟨e, _, h1⟩ | ⟨e, _, h1⟩ | ⟨tx, e, _⟩ | ⟨e, _⟩ | ⟨n, e', e, _, h1, _⟩
  ·rw [e]; simp only; omega
  ·rw [e]; simp only; omega
  ·rw [e]; unfold symbolS; simp only; omega
  ·rw [e]; simp only; omega
  ·rw [e]; simp only; omega
  ·rw [e]; simp
  ·rw [e]; simp only; omega
theorem skip_bad {s : List Int} (h : (skipS s).2 ≠ 0) : (skipS s).1 < s.length := by
 have h1 := skipS_end (s.length + 1) s (Nat.lt_succ_self _)
 have h2 := skipS_le (s.length + 1) s (Nat.lt_succ_self _)
 rcases Nat.lt_or_ge (skipS s).1 s.length with h3 | h3
 ·exact h3
 ·rw [List.drop_of_length_le h3] at h1
  have : (0 : Int) = (skipS s).2 := congrArg Prod.snd h1
  exact absurd this.symm h
/-- a token's places -/
theorem headT_bd {s : List Int} (hb : Bytes s) {n : Nat} {t : TokR} (h : headT s = some (n, t)) : 1 ≤ n ∧ n ≤ s.length ∧ t.f1 = ((skipS s).1 : Int) ∧ t.f2 = (n : Int) ∧ t.f1 < t.f2 := by
 have hle := skipS_le (s.length + 1) s (Nat.lt_succ_self _)
 unfold headT at h
 by_cases h1 : (skipS s).2 ≠ 0
 ·rw [if_pos h1] at h
  have := skip_bad h1
  simp only [Option.some.injEq, Prod.mk.injEq] at h
  obtain ⟨rfl, rfl⟩ := h
  refine ⟨by omega, Nat.le_refl _, rfl, rfl, ?_⟩
  simp only
  omega
 ·rw [if_neg h1] at h
  by_cases h2 : s.drop (skipS s).1 = []
  ·rw [if_pos h2] at h; cases h
  ·rw [if_neg h2] at h
   have hs := tok_size (hb.drop (skipS s).1) h2
   have hp : 0 < (s.drop (skipS s).1).length := List.length_pos_iff.2 h2
   rw [List.length_drop] at hs hp
   simp only [Option.some.injEq, Prod.mk.injEq] at h
   obtain ⟨rfl, rfl⟩ := h
   simp only
   generalize (tokS (s.drop (skipS s).1)).2.1 = z at hs
   generalize (skipS s).1 = y at hs hle hp
   exact ⟨by omega, by omega, trivial, by omega, by omega⟩
/-- all tokens -/
def lexS (s : List Int) : List TokR := match headT s with
 | none => []
 | some (n, t) => if h : 1 ≤ n ∧ n ≤ s.length then t :: (lexS (s.drop n)).map (shiftT n) else []
termination_by s.length
decreasing_by rw [List.length_drop]; omega
theorem lexS_none {s : List Int} (h : headT s = none) : lexS s = [] := by rw [lexS, h]
theorem lexS_some {s : List Int} (hb : Bytes s) {n : Nat} {t : TokR} (h : headT s = some (n, t)) : lexS s = t :: (lexS (s.drop n)).map (shiftT n) := by
 have hd := headT_bd hb h
 rw [lexS, h]
 simp only
 rw [dif_pos ⟨hd.1, hd.2.1⟩]
/-- what token.Next tells at a place -/
theorem next_head (l : List Int) (p : Nat) (hp : p ≤ l.length) : nextS l (p : Int) = match headT (l.drop p) with
  | none => noTok
  | some (n, t) => (t.f0, t.f1 + (p : Int), t.f2 + (p : Int), t.f3, t.f4, true) := by
 have b1 : nextS l (p : Int) = behindS l p := by
  unfold nextS
  rw [if_neg (fun h => by omega)]; rfl
 rw [b1]
 unfold behindS headT
 have hml : (l.drop p).length = l.length - p := List.length_drop
 by_cases h1 : (skipS (l.drop p)).2 ≠ 0
 ·rw [if_pos h1, if_pos h1]
  simp only [Prod.mk.injEq, true_and, and_true]
  omega
 ·rw [if_neg h1, if_neg h1, List.drop_drop]
  by_cases h2 : l.drop (p + (skipS (l.drop p)).1) = []
  ·rw [if_pos h2, if_pos h2]
  ·rw [if_neg h2, if_neg h2]
   simp only [Prod.mk.injEq, true_and, and_true]
   omega
theorem lexAll_loop (l : List Int) (hl : Bytes l) (hn : l.length ≤ 1000000) (N : Nat) : ∀ (p : Nat) (acc : List TokR), l.length - p < N → p ≤ l.length → acc.length ≤ p →
  Ev (fun k => lex_All.l0 k l acc (p : Int)) (acc ++ (lexS (l.drop p)).map (shiftT p)) := by
 induction N with
 | zero => intro p acc h; omega
 | succ N ih =>
  intro p acc hN hp ha
  refine Ev.step (fun k => lex_All.l0.eq_2 ..) (Ev.bind (next_ev l hl hn (p : Int)) ?_)
  rw [next_head l p hp]
  cases hh : headT (l.drop p) with
  | none =>
   rw [lexS_none hh]
   exact ev_else (by simp [noTok]) (ev_now (by simp))
  | some q =>
   obtain ⟨n, t⟩ := q
   have hb := headT_bd (hl.drop p) hh
   rw [List.length_drop] at hb
   rw [lexS_some (hl.drop p) hh, List.drop_drop]
   refine ev_if rfl (ev_if (by omega) ?_)
   have e2 : t.f2 + (p : Int) = ((p + n : Nat) : Int) := by omega
   simp only
   rw [e2]
   refine ev_eq (ih (p + n) _ (by omega) (by omega) (by simp; omega)) ?_
   rw [List.append_assoc, List.singleton_append, List.map_cons, map_shift]
   congr 2
   exact TokR.same rfl rfl (by show ((p + n : Nat) : Int) = t.f2 + (p : Int); omega) rfl rfl
theorem lexAll_ev (l : List Int) (hl : Bytes l) (hn : l.length ≤ 1000000) : Ev (fun k => lex_All.f k l) (lexS l) := by
 have h := lexAll_loop l hl hn (l.length + 1) 0 [] (by omega) (by omega) (by simp)
 rw [List.drop_zero, List.nil_append, map_zero] at h
 exact h
theorem lexS_len (N : Nat) : ∀ s : List Int, s.length < N → Bytes s → (lexS s).length ≤ s.length := by
 induction N with
 | zero => intro s h; omega
 | succ N ih =>
  intro s hN hb
  cases hh : headT s with
  | none => rw [lexS_none hh]; simp
  | some q =>
   obtain ⟨n, t⟩ := q
   have hd := headT_bd hb hh
   have := ih (s.drop n) (by rw [List.length_drop]; omega) (hb.drop n)
   rw [List.length_drop] at this
   rw [lexS_some hb hh]
   simp only [List.length_cons, List.length_map]
   omega
end Go.Proofs.YtdejidhgeefmeaaDoor.P
namespace Go.Proofs.YtdejidhgeefmeaaDoor.P
set_option linter.unusedSimpArgs false
set_option linter.unusedVariables false
open Go.RowKit Go.Proofs.YtdejidhgeefmeaaDoor.P Go.Proofs.YtdejidhgeefmeaaDoorW.PrintWords Go.Proofs.YtdejidhgeefmeaaDoorW.PrintLast Go.Proofs.YtdejidhgeefmeaaDoorW.PrintMore
theorem shown_ev : Ev (fun k => tmesislaw07_shown.f k) true := Ev.of (fun k => tmesislaw07_shown.mono k) (k := 40) (by decide +kernel)
theorem few_eq (l : List Int) : tmesislaw07_few.f l = some (l.take 200) := by
 unfold tmesislaw07_few.f
 have h1 : 0 ≤ mn (l.length : Int) 200 := by unfold mn; split <;> omega
 have h2 : mn (l.length : Int) 200 ≤ (l.length : Int) := by unfold mn; split <;> omega
 rw [if_pos h1, if_pos h2, mn_le _ _ (by omega)]
 congr 1
 rw [Nat.min_comm, ← List.take_take, List.take_length]
 rfl
theorem rdT_eq (l : List TokR) (i : Nat) (h : i < l.length) : rd_T34 l (i : Int) = l[i] := by
 show l.getD i _ = l[i]
 rw [List.getD_eq_getElem?_getD, List.getElem?_eq_getElem h]; rfl
theorem same_loop (a : List TokR) (hn : a.length ≤ 1000000) (d : Nat) : ∀ i : Nat, i + d = a.length → Ev (fun k => tmesisref07_Same.l0 k a a (i : Int)) true := by
 induction d with
 | zero => intro i h; exact Ev.step (fun k => tmesisref07_Same.l0.eq_2 ..) (ev_else (by omega) (Ev.now _))
 | succ d ih =>
  intro i h
  refine Ev.step (fun k => tmesisref07_Same.l0.eq_2 ..) (ev_if (by omega) (ev_if (by omega) (ev_if (by omega) (ev_else (by simp) ?_))))
  rw [show wrap64 ((i : Int) + 1) = ((i + 1 : Nat) : Int) by rw [w64 (by omega) (by omega)]; omega]
  exact ih (i + 1) (by omega)
theorem same_ev {a b : List TokR} (hn : a.length ≤ 1000000) (e : a = b) : Ev (fun k => tmesisref07_Same.f k a b) true := by
 subst e
 unfold tmesisref07_Same.f
 exact ev_if rfl (same_loop a hn a.length 0 (by omega))
end Go.Proofs.YtdejidhgeefmeaaDoor.P
namespace Go.Proofs.YtdejidhgeefmeaaDoor.P
set_option linter.unusedSimpArgs false
set_option linter.unusedVariables false
open Go.RowKit Go.Proofs.YtdejidhgeefmeaaDoorW.PrintWords Go.Proofs.YtdejidhgeefmeaaDoorW.PrintLast Go.Proofs.YtdejidhgeefmeaaDoorW.PrintMore
def cutS (l : List Int) : List Int := l.drop (takeS l).1.toNat
theorem cutS_lt {l : List Int} (h : l ≠ []) : (cutS l).length < l.length := by
 cases l with
 | nil => exact absurd rfl h
 | cons c r =>
  have := take_pos c r
  unfold cutS
  rw [List.length_drop]
  simp at this ⊢
  omega
def eachS (l : List Int) : Nat × Bool := if h : l = [] then (0, true) else ((eachS (cutS l)).1 + 1, (takeS l).2 && (eachS (cutS l)).2)
termination_by l.length
decreasing_by all_goals exact cutS_lt h
theorem eachS_nil : eachS [] = (0, true) := by rw [eachS]; simp
theorem eachS_cons {l : List Int} (h : l ≠ []) : eachS l = ((eachS (cutS l)).1 + 1, (takeS l).2 && (eachS (cutS l)).2) := by rw [eachS, dif_neg h]
theorem eachS_snd {l : List Int} (h : l ≠ []) : (eachS l).2 = ((takeS l).2 && (eachS (cutS l)).2) := by rw [eachS_cons h]
end Go.Proofs.YtdejidhgeefmeaaDoor.P
namespace Go.Proofs.YtdejidhgeefmeaaDoor.P
set_option linter.unusedSimpArgs false
set_option linter.unusedVariables false
open Go.RowKit Go.Proofs.YtdejidhgeefmeaaDoor.P Go.Proofs.YtdejidhgeefmeaaDoorW.PrintWords Go.Proofs.YtdejidhgeefmeaaDoorW.PrintLast Go.Proofs.YtdejidhgeefmeaaDoorW.PrintMore
theorem qapp {a b : List Int} (h : Bytes a) (h2 : Bytes b) : Bytes (a ++ b) := fun x hx => by
 rcases List.mem_append.1 hx with h1 | h1
 ·exact h x h1
 ·exact h2 x h1
def encQ (x : Int) : List Int := if x = 39 then [39, 39] else if x = 92 then [92, 92] else if x = 10 then [92, 110] else [x]
def encsQ (s : List Int) : List Int := s.flatMap encQ
theorem encsQ_cons (x : Int) (s : List Int) : encsQ (x :: s) = encQ x ++ encsQ s := rfl
theorem encsQ_append (a b : List Int) : encsQ (a ++ b) = encsQ a ++ encsQ b := by unfold encsQ; rw [List.flatMap_append]
theorem encQ_plain {x : Int} (h1 : x ≠ 39) (h2 : x ≠ 92) (h3 : x ≠ 10) : encQ x = [x] := by unfold encQ; rw [if_neg h1, if_neg h2, if_neg h3]
theorem encsQ_plain {s : List Int} (h : ∀ x ∈ s, x ≠ 39 ∧ x ≠ 92 ∧ x ≠ 10) : encsQ s = s := by
 induction s with
 | nil => rfl
 | cons a t ih =>
  have ha := h a (by simp)
  rw [encsQ_cons, encQ_plain ha.1 ha.2.1 ha.2.2, ih (fun x hx => h x (by simp [hx]))]; rfl
theorem encsQ_high {s : List Int} (h : ∀ x ∈ s, 128 ≤ x) : encsQ s = s := encsQ_plain (fun x hx => by have := h x hx; omega)
theorem encQ_len (x : Int) : 1 ≤ (encQ x).length ∧ (encQ x).length ≤ 2 := by
 unfold encQ
 repeat' split
 all_goals simp
theorem encsQ_len (s : List Int) : s.length ≤ (encsQ s).length ∧ (encsQ s).length ≤ 2 * s.length := by
 induction s with
 | nil => simp [encsQ]
 | cons a t ih =>
  have := encQ_len a
  rw [encsQ_cons, List.length_append, List.length_cons]
  omega
theorem encQ_byte {x : Int} (h : 0 ≤ x ∧ x < 256) : Bytes (encQ x) := by
 intro y hy
 unfold encQ at hy
 split at hy
 ·simp at hy; omega
 ·split at hy
  ·simp at hy; omega
  ·split at hy
   ·simp at hy; omega
   ·simp at hy; omega
theorem encsQ_byte {s : List Int} (h : Bytes s) : Bytes (encsQ s) := by
 induction s with
 | nil => intro x hx; cases hx
 | cons a t ih =>
  rw [encsQ_cons]
  exact qapp (encQ_byte (h a (by simp))) (ih (fun x hx => h x (by simp [hx])))
theorem restOk_enc (n : Nat) : ∀ (lo hi : Int) (r t : List Int), 128 ≤ lo → restOk n lo hi (encsQ r ++ 39 :: t) = restOk n lo hi r := by
 induction n with
 | zero => intro _ _ _ _ _; rfl
 | succ n ih =>
  intro lo hi r t hlo
  cases r with
  | nil =>
   show restOk (n + 1) lo hi (39 :: t) = false
   rw [restOk_cons, decide_eq_false (by omega)]; rfl
  | cons a r =>
   have low : ∀ (x y : Int) (z : List Int), a < 128 → x < 128 → restOk (n + 1) lo hi (x :: z) = restOk (n + 1) lo hi (a :: r) := by
    intro x y z ha hx
    rw [restOk_cons, restOk_cons, decide_eq_false (by omega), decide_eq_false (by omega)]; rfl
   rw [encsQ_cons]
   by_cases h1 : a = 39
   ·subst h1; exact low 39 0 _ (by omega) (by omega)
   by_cases h2 : a = 92
   ·subst h2; exact low 92 0 _ (by omega) (by omega)
   by_cases h3 : a = 10
   ·subst h3; exact low 92 0 _ (by omega) (by omega)
   rw [encQ_plain h1 h2 h3, List.append_assoc, List.singleton_append, restOk_cons, restOk_cons, ih _ _ r t (by omega)]
theorem restOk_take (n : Nat) : ∀ (lo hi : Int) (r : List Int), 128 ≤ lo → restOk n lo hi r = true → (∀ x ∈ r.take n, 128 ≤ x) ∧ n ≤ r.length ∧ ∀ z, restOk n lo hi (r.take n ++ z) = true := by
 induction n with
 | zero => intro _ _ r _ _; simp [restOk]
 | succ n ih =>
  intro lo hi r hlo h
  cases r with
  | nil => cases h
  | cons a t =>
   rw [restOk_cons, Bool.and_eq_true, decide_eq_true_eq] at h
   obtain ⟨i1, i2, i3⟩ := ih 128 191 t (by omega) h.2
   refine ⟨fun x hx => ?_, by simp; omega, fun z => ?_⟩
   ·rw [List.take_succ_cons, List.mem_cons] at hx
    rcases hx with rfl | hx
    ·omega
    ·exact i1 x hx
   ·rw [List.take_succ_cons, List.cons_append, restOk_cons, i3, decide_eq_true h.1]; rfl
theorem uLo_ge (c : Int) : 128 ≤ uLo c := by
 unfold uLo
 repeat' split
 all_goals omega
theorem uLong_low {c : Int} (h : c < 128) : uLong c = 1 := by unfold uLong; rw [if_pos h]
theorem takeS_low {c : Int} (h : c < 128) (r : List Int) : takeS (c :: r) = (1, true) := by rw [takeS_cons, uLong_low h]; rfl
theorem takeS_enc (c : Int) (r t : List Int) : takeS (c :: (encsQ r ++ 39 :: t)) = takeS (c :: r) := by
 rw [takeS_cons, takeS_cons, restOk_enc _ _ _ _ _ (uLo_ge c)]
/-- a text that may stand between quotes -/
def goodQ (s : List Int) : Prop := (eachS s).2 = true ∧ ∀ x ∈ s, (32 ≤ x ∨ x = 10) ∧ x ≠ 127
theorem goodQ_nil : goodQ [] := ⟨by rw [eachS_nil], fun x hx => by cases hx⟩
theorem eachS_low {c : Int} (h : c < 128) (r : List Int) : (eachS (c :: r)).2 = (eachS r).2 := by
 rw [eachS_snd (by simp), takeS_low h, Bool.true_and]
 unfold cutS
 rw [takeS_low h]; rfl
theorem goodQ_low {c : Int} {r : List Int} (h : c < 128) : goodQ (c :: r) ↔ ((32 ≤ c ∨ c = 10) ∧ c ≠ 127) ∧ goodQ r := by
 unfold goodQ
 rw [eachS_low h]
 constructor
 ·rintro ⟨h1, h2⟩
  exact ⟨h2 c (by simp), h1, fun x hx => h2 x (by simp [hx])⟩
 ·rintro ⟨h0, h1, h2⟩
  refine ⟨h1, fun x hx => ?_⟩
  rw [List.mem_cons] at hx
  rcases hx with rfl | hx
  ·exact h0
  ·exact h2 x hx
theorem item_plain {c : Int} (h39 : c ≠ 39) (h92 : c ≠ 92) (h10 : c ≠ 10) (hc : ¬ (c < 32 ∨ c = 127)) (r : List Int) :
  itemQ (c :: r) = if (takeS (c :: r)).2 = true then ((c :: r).take (takeS (c :: r)).1.toNat, (takeS (c :: r)).1.toNat, 0) else ([], 0, 10) := by
 rw [itemQ, if_neg h39, if_neg h92, if_neg h10, if_neg hc]
/-- what goes wrong where a text's beginning ends within an item -/
def cutQ (u : List Int) (j : Nat) : Prop := (itemQ u = ([], 1, -1) ∧ j = 1 ∧ u.getLast? = some 39) ∨ (itemQ u = ([], 0, 13) ∧ j = 1 ∧ u.getLast? = some 92) ∨ (itemQ u = ([], 0, 10) ∧ ∃ x, u.getLast? = some x ∧ 128 ≤ x)
/-- the first item of a good text -/
theorem good_step {c : Int} {r : List Int} (hg : goodQ (c :: r)) : ∃ v s, c :: r = v ++ s ∧ goodQ s ∧ 1 ≤ v.length ∧ (∀ z, itemQ (encsQ v ++ z) = (v, (encsQ v).length, 0)) ∧ ∀ j, 0 < j → j < (encsQ v).length → cutQ ((encsQ v).take j) j := by
 by_cases hlow : c < 128
 ·obtain ⟨hc, hr⟩ := (goodQ_low hlow).1 hg
  have e1 : encsQ [c] = encQ c := by simp [encsQ]
  refine ⟨[c], r, rfl, hr, by simp, ?_, ?_⟩
  ·intro z
   rw [e1]
   by_cases h1 : c = 39
   ·subst h1; rfl
   by_cases h2 : c = 92
   ·subst h2; rfl
   by_cases h3 : c = 10
   ·subst h3; rfl
   rw [encQ_plain h1 h2 h3, List.singleton_append, item_plain h1 h2 h3 (by omega), takeS_low hlow]; rfl
  ·intro j h0 hj
   rw [e1] at hj ⊢
   by_cases h1 : c = 39
   ·subst h1
    obtain rfl : j = 1 := by have : j < 2 := hj; omega
    exact .inl ⟨rfl, rfl, rfl⟩
   by_cases h2 : c = 92
   ·subst h2
    obtain rfl : j = 1 := by have : j < 2 := hj; omega
    exact .inr (.inl ⟨rfl, rfl, rfl⟩)
   by_cases h3 : c = 10
   ·subst h3
    obtain rfl : j = 1 := by have : j < 2 := hj; omega
    exact .inr (.inl ⟨rfl, rfl, rfl⟩)
   rw [encQ_plain h1 h2 h3] at hj
   have : j < 1 := hj
   omega
 ·obtain ⟨hv, hall⟩ := hg
  have hc := hall c (by simp)
  rw [eachS_snd (by simp), Bool.and_eq_true] at hv
  obtain ⟨ht, hcut⟩ := hv
  have htk := takeS_cons c r
  by_cases h0 : uLong c = 0
  ·rw [if_pos h0] at htk; rw [htk] at ht; cases ht
  rw [if_neg h0] at htk
  by_cases hrest : restOk (uLong c - 1) (uLo c) (uHi c) r = true
  rotate_left
  ·rw [if_neg hrest] at htk; rw [htk] at ht; cases ht
  rw [if_pos hrest] at htk
  obtain ⟨n, hn⟩ : ∃ n, uLong c = n + 1 := ⟨uLong c - 1, by omega⟩
  rw [hn, Nat.add_sub_cancel] at hrest
  obtain ⟨r1, r2, r3⟩ := restOk_take n _ _ r (uLo_ge c) hrest
  have hcutS : cutS (c :: r) = r.drop n := by
   unfold cutS; rw [htk, hn]; rfl
  rw [hcutS] at hcut
  have hhigh : ∀ x ∈ c :: r.take n, 128 ≤ x := by
   intro x hx
   rw [List.mem_cons] at hx
   rcases hx with rfl | hx
   ·omega
   ·exact r1 x hx
  refine ⟨c :: r.take n, r.drop n, by rw [List.cons_append, List.take_append_drop], ⟨hcut, fun x hx => hall x (by simp [List.mem_of_mem_drop hx])⟩, by simp, ?_, ?_⟩
  ·intro z
   have e : takeS (c :: (r.take n ++ z)) = (((n + 1 : Nat) : Int), true) := by
    rw [takeS_cons, if_neg h0, hn, Nat.add_sub_cancel, if_pos (r3 z)]
   rw [encsQ_high hhigh, List.cons_append, item_plain (by omega) (by omega) (by omega) (by omega), e]
   have hl : (r.take n).length = n := by rw [List.length_take]; omega
   have e2 : (c :: (r.take n ++ z)).take (n + 1) = c :: r.take n := by
    rw [List.take_succ_cons, List.take_append_of_le_length (by omega), List.take_take, Nat.min_self]
   show (if true = true then ((c :: (r.take n ++ z)).take (n + 1), n + 1, 0) else ([], 0, 10)) = _
   rw [if_pos rfl, e2, List.length_cons, hl]
  ·intro j h1 hj
   rw [encsQ_high hhigh] at hj ⊢
   obtain ⟨j, rfl⟩ : ∃ i, j = i + 1 := ⟨j - 1, by omega⟩
   have hl : (r.take n).length = n := by rw [List.length_take]; omega
   rw [List.length_cons, hl] at hj
   rw [List.take_succ_cons]
   refine .inr (.inr ⟨?_, ?_⟩)
   ·have e : takeS (c :: (r.take n).take j) = (1, false) := by
     rw [takeS_cons, if_neg h0, hn, Nat.add_sub_cancel, restOk_short _ _ _ _ (by rw [List.length_take]; omega)]; rfl
    rw [item_plain (by omega) (by omega) (by omega) (by omega), e]; rfl
   ·refine ⟨(c :: (r.take n).take j).getLast (by simp), List.getLast?_eq_some_getLast (by simp), hhigh _ ?_⟩
    have := List.getLast_mem (l := c :: (r.take n).take j) (by simp)
    rw [List.mem_cons] at this ⊢
    rcases this with h | h
    ·exact .inl h
    ·exact .inr (List.mem_of_mem_take h)
theorem textQ_item {v u : List Int} {n : Nat} (h : itemQ u = (v, n, 0)) : textQ u = (v ++ (textQ (u.drop n)).1, n + (textQ (u.drop n)).2.1, (textQ (u.drop n)).2.2) := by
 rw [textQ_go (by rw [h]), h]
/-- a good text, whatever stands behind -/
theorem textQ_good (N : Nat) : ∀ (s z : List Int), s.length < N → goodQ s → textQ (encsQ s ++ z) = (s ++ (textQ z).1, (encsQ s).length + (textQ z).2.1, (textQ z).2.2) := by
 induction N with
 | zero => intro s z h; omega
 | succ N ih =>
  intro s z hN hg
  cases s with
  | nil => simp [encsQ]
  | cons c r =>
   obtain ⟨v, s, e, hs, hv, hi, _⟩ := good_step hg
   rw [e] at hN ⊢
   rw [List.length_append] at hN
   rw [encsQ_append, List.append_assoc, textQ_item (hi _), List.drop_left, ih s z (by omega) hs]
   simp only [List.append_assoc, List.length_append, Nat.add_assoc]
/-- a text that is not good does not end as_ one -/
theorem textQ_bad (N : Nat) : ∀ (s t : List Int), s.length < N → ¬ goodQ s → (textQ (encsQ s ++ 39 :: t)).2.2 ≠ -1 := by
 induction N with
 | zero => intro s z h; omega
 | succ N ih =>
  intro s t hN hg
  cases s with
  | nil => exact absurd goodQ_nil hg
  | cons c r =>
   rw [List.length_cons] at hN
   have stop : ∀ {u : List Int} {e : Int}, itemQ u = ([], 0, e) → e ≠ 0 → e ≠ -1 → (textQ u).2.2 ≠ -1 := by
    intro u e h h0 h1
    rw [textQ_stop (by rw [h]; exact h0), h]; exact h1
   by_cases hlow : c < 128
   ·have go : ∀ v : List Int, (∀ z, itemQ (encQ c ++ z) = (v, (encQ c).length, 0)) → ((32 ≤ c ∨ c = 10) ∧ c ≠ 127) → (textQ (encsQ (c :: r) ++ 39 :: t)).2.2 ≠ -1 := by
     intro v h hc
     rw [encsQ_cons, List.append_assoc, textQ_item (h _), List.drop_left]
     exact ih r t (by omega) (fun hr => hg ((goodQ_low hlow).2 ⟨hc, hr⟩))
    by_cases h1 : c = 39
    ·subst h1; exact go [39] (fun z => rfl) (by omega)
    by_cases h2 : c = 92
    ·subst h2; exact go [92] (fun z => rfl) (by omega)
    by_cases h3 : c = 10
    ·subst h3; exact go [10] (fun z => rfl) (by omega)
    by_cases hc : c < 32 ∨ c = 127
    ·rw [encsQ_cons, encQ_plain h1 h2 h3]
     refine stop (e := 11) ?_ (by decide) (by decide)
     rw [List.append_assoc, List.singleton_append, itemQ, if_neg h1, if_neg h2, if_neg h3, if_pos hc]
    ·refine go [c] (fun z => ?_) (by omega)
     rw [encQ_plain h1 h2 h3, List.singleton_append, item_plain h1 h2 h3 hc, takeS_low hlow]; rfl
   ·rw [encsQ_cons, encQ_plain (by omega) (by omega) (by omega), List.append_assoc, List.singleton_append]
    by_cases ht : (takeS (c :: r)).2 = true
    rotate_left
    ·refine stop (e := 10) ?_ (by decide) (by decide)
     rw [item_plain (by omega) (by omega) (by omega) (by omega), takeS_enc, if_neg ht]
    have htk := takeS_cons c r
    by_cases h0 : uLong c = 0
    ·rw [if_pos h0] at htk; rw [htk] at ht; cases ht
    rw [if_neg h0] at htk
    by_cases hrest : restOk (uLong c - 1) (uLo c) (uHi c) r = true
    rotate_left
    ·rw [if_neg hrest] at htk; rw [htk] at ht; cases ht
    rw [if_pos hrest] at htk
    obtain ⟨n, hn⟩ : ∃ n, uLong c = n + 1 := ⟨uLong c - 1, by omega⟩
    rw [hn, Nat.add_sub_cancel] at hrest
    obtain ⟨r1, r2, r3⟩ := restOk_take n _ _ r (uLo_ge c) hrest
    have hl : (r.take n).length = n := by rw [List.length_take]; omega
    have er : encsQ r = r.take n ++ encsQ (r.drop n) := by
     conv => lhs; rw [← List.take_append_drop n r]
     rw [encsQ_append, encsQ_high r1]
    have e2 : (takeS (c :: (encsQ r ++ 39 :: t))).1.toNat = n + 1 := by rw [takeS_enc, htk, hn]; rfl
    have hi : itemQ (c :: (encsQ r ++ 39 :: t)) = ((c :: (encsQ r ++ 39 :: t)).take (n + 1), n + 1, 0) := by
     rw [item_plain (by omega) (by omega) (by omega) (by omega), e2, takeS_enc, if_pos ht]
    rw [textQ_item hi]
    have e3 : (c :: (encsQ r ++ 39 :: t)).drop (n + 1) = encsQ (r.drop n) ++ 39 :: t := by
     rw [List.drop_succ_cons, er, List.append_assoc, List.drop_append_of_le_length (by omega), List.drop_of_length_le (by omega), List.nil_append]
    rw [e3]
    refine ih (r.drop n) t (by rw [List.length_drop]; omega) (fun hr => hg ?_)
    have hcutS : cutS (c :: r) = r.drop n := by unfold cutS; rw [htk, hn]; rfl
    refine ⟨by rw [eachS_snd (by simp), ht, hcutS, hr.1]; rfl, fun x hx => ?_⟩
    rw [List.mem_cons] at hx
    rcases hx with rfl | hx
    ·omega
    ·rw [← List.take_append_drop n r, List.mem_append] at hx
     rcases hx with hx | hx
     ·have := r1 x hx; omega
     ·exact hr.2 x hx
/-- between quotes -/
def putQ (s : List Int) : List Int := 39 :: (encsQ s ++ [39])
theorem putQ_len (s : List Int) : (putQ s).length = (encsQ s).length + 2 := by simp [putQ]
theorem putQ_byte {s : List Int} (h : Bytes s) : Bytes (putQ s) := by
 intro x hx
 unfold putQ at hx
 rw [List.mem_cons, List.mem_append, List.mem_singleton] at hx
 rcases hx with rfl | hx | rfl
 ·omega
 ·exact encsQ_byte h x hx
 ·omega
theorem quoteS_39 (l : List Int) : quoteS (39 :: l) = resQ [] 1 (textQ l) := rfl
theorem quoteS_put {s : List Int} (h : goodQ s) (t : List Int) (ht : t.headD 0 ≠ 39) : quoteS (putQ s ++ t) = (s, ((putQ s).length : Int), 0) := by
 have e : textQ (39 :: t) = ([], 1, -1) := by
  have h1 : itemQ (39 :: t) = ([], 1, -1) := by rw [itemQ, if_pos rfl, if_neg ht]
  rw [textQ_stop (by rw [h1]; decide), h1]
 unfold putQ
 rw [List.cons_append, List.append_assoc, List.singleton_append, quoteS_39, textQ_good _ s (39 :: t) (Nat.lt_succ_self _) h, e]
 simp [resQ]
 omega
theorem textQ_status (N : Nat) : ∀ u : List Int, u.length < N → (textQ u).2.2 ≠ 0 := by
 induction N with
 | zero => intro u h; omega
 | succ N ih =>
  intro u hN
  by_cases h : (itemQ u).2.2 = 0
  ·rw [textQ_go h]
   have := (itemQ_le u).2.1 h
   have := (itemQ_le u).1
   exact ih _ (by rw [List.length_drop]; omega)
  ·rw [textQ_stop h]; exact h
theorem quoteS_bad {s : List Int} (h : ¬ goodQ s) : (quoteS (putQ s)).2.2 ≠ 0 := by
 have h1 := textQ_bad _ s [] (Nat.lt_succ_self _) h
 have h2 := textQ_status _ (encsQ s ++ 39 :: []) (Nat.lt_succ_self _)
 unfold putQ
 rw [quoteS_39]
 unfold resQ
 rw [if_neg h1]; exact h2
instance (s : List Int) : Decidable (goodQ s) := by unfold goodQ; infer_instance
/-- what Put gives: the bytes, and the error -/
def putS (s : List Int) : List Int × Int := if goodQ s then (putQ s, 0) else ([], 1)
end Go.Proofs.YtdejidhgeefmeaaDoor.P
namespace Go.Proofs.YtdejidhgeefmeaaDoor.P
set_option linter.unusedSimpArgs false
set_option linter.unusedVariables false
open Go.RowKit Go.Proofs.YtdejidhgeefmeaaDoor.P Go.Proofs.YtdejidhgeefmeaaDoorW.PrintWords Go.Proofs.YtdejidhgeefmeaaDoorW.PrintLast Go.Proofs.YtdejidhgeefmeaaDoorW.PrintMore
def body (k : Int) (x : List Int) : List Int := if k = 5 then putQ x else x
def sepB (k : Int) : Int := if k = 7 then 10 else 32
def rendB (k : Int) (x : List Int) : List Int := body k x ++ [sepB k]
end Go.Proofs.YtdejidhgeefmeaaDoor.P
namespace Go.Proofs.YtdejidhgeefmeaaDoor.P
set_option linter.unusedSimpArgs false
set_option linter.unusedVariables false
open Go.RowKit Go.Proofs.YtdejidhgeefmeaaDoor.P Go.Proofs.YtdejidhgeefmeaaDoorW.PrintWords Go.Proofs.YtdejidhgeefmeaaDoorW.PrintLast Go.Proofs.YtdejidhgeefmeaaDoorW.PrintMore
theorem rep_enc (l : List Int) : repS 10 [92, 110] (repS 39 [39, 39] (repS 92 [92, 92] l)) = encsQ l := by
 induction l with
 | nil => rfl
 | cons x r ih =>
  rw [repS_cons, repS_append, repS_append, ih, encsQ_cons]
  congr 1
  unfold encQ
  by_cases h1 : x = 92
  ·subst h1; rfl
  rw [if_neg h1]
  by_cases h2 : x = 39
  ·subst h2; rfl
  by_cases h3 : x = 10
  ·subst h3; rfl
  simp [repS, h1, h2, h3]
theorem u8s_of {l : List Int} (h : Bytes l) : u8s l = true := by
 unfold u8s
 rw [List.all_eq_true]
 intro x hx
 have := h x hx
 simpa using this
theorem rep_bytes {c : Int} {new l : List Int} (h : Bytes l) (hn : Bytes new) : Bytes (repS c new l) := by
 intro x hx
 obtain ⟨y, hy, hxy⟩ := List.mem_flatMap.1 hx
 split at hxy
 ·exact hn x hxy
 ·rw [List.mem_singleton] at hxy; subst hxy; exact h x hy
theorem rep_le {c a b : Int} (l : List Int) : (repS c [a, b] l).length ≤ 2 * l.length := by
 rw [repS_len c [a, b] l (by simp)]
 have := List.count_le_length (a := c) (l := l)
 simp
 omega
theorem replaceAll_eq {c a b : Int} {l : List Int} (hl : Bytes l) (hn : l.length ≤ 1000000) (hc : 0 ≤ c ∧ c < 256) : bytes_ReplaceAll.f l [c] [a, b] = some (repS c [a, b] l) := by
 unfold bytes_ReplaceAll.f
 rw [if_pos ⟨rfl, by simp, by simp, hn, hc, u8s_of hl⟩]; rfl
theorem concat_ev (m : List Int) (hm : m.length ≤ 100000) : Ev (fun k => slices_Concat_byte_byte.f k [[39], m, [39]]) (39 :: (m ++ [39])) := by
 unfold slices_Concat_byte_byte.f
 have w0 : wrap64 ((0 : Int) + ((rd_L4 [[39], m, [39]] 0).length : Int)) = 1 := by show wrap64 ((0 : Int) + 1) = 1; rw [w64 (by omega) (by omega)]; rfl
 have w1 : wrap64 ((1 : Int) + ((rd_L4 [[39], m, [39]] 1).length : Int)) = 1 + (m.length : Int) := by show wrap64 (1 + (m.length : Int)) = _; rw [w64 (by omega) (by omega)]
 have w2 : wrap64 (1 + (m.length : Int) + ((rd_L4 [[39], m, [39]] 2).length : Int)) = (m.length : Int) + 2 := by show wrap64 (1 + (m.length : Int) + 1) = _; rw [w64 (by omega) (by omega)]; omega
 refine Ev.step (fun k => slices_Concat_byte_byte.l0.eq_2 ..) (ev_if (by simp) (ev_if (by simp) (ev_if (by simp) ?_)))
 rw [w0]
 refine ev_else (by simp) (Ev.step (fun k => slices_Concat_byte_byte.l0.eq_2 ..) ?_)
 rw [show wrap64 (0 + 1) = (1 : Int) from w64 (by decide) (by decide)]
 refine ev_if (by simp) (ev_if (by simp) (ev_if (by simp) ?_))
 rw [w1]
 refine ev_else (by omega) (Ev.step (fun k => slices_Concat_byte_byte.l0.eq_2 ..) ?_)
 rw [show wrap64 (1 + 1) = (2 : Int) from w64 (by decide) (by decide)]
 refine ev_if (by simp) (ev_if (by simp) (ev_if (by simp) ?_))
 rw [w2]
 refine ev_else (by omega) (Ev.step (fun k => slices_Concat_byte_byte.l0.eq_2 ..) ?_)
 rw [show wrap64 (2 + 1) = (3 : Int) from w64 (by decide) (by decide)]
 refine ev_else (by simp) ?_
 refine ev_same (y := []) (by unfold slices_Grow_byte_byte.f; rw [if_pos ⟨rfl, by omega, by omega⟩]) ?_
 refine Ev.step (fun k => slices_Concat_byte_byte.l1.eq_2 ..) (ev_if (by simp) (ev_if (by simp) (ev_if (by simp) (ev_if ?_ ?_))))
 ·show ([] : List Int).length + [(39 : Int)].length < 140737488355328
  simp
 rw [show ([] : List Int) ++ rd_L4 [[39], m, [39]] 0 = [39] from rfl, show wrap64 (0 + 1) = (1 : Int) from w64 (by decide) (by decide)]
 refine Ev.step (fun k => slices_Concat_byte_byte.l1.eq_2 ..) (ev_if (by simp) (ev_if (by simp) (ev_if (by simp) (ev_if ?_ ?_))))
 ·show ([(39 : Int)] : List Int).length + m.length < 140737488355328
  simp; omega
 rw [show ([39] : List Int) ++ rd_L4 [[39], m, [39]] 1 = 39 :: m from rfl, show wrap64 (1 + 1) = (2 : Int) from w64 (by decide) (by decide)]
 refine Ev.step (fun k => slices_Concat_byte_byte.l1.eq_2 ..) (ev_if (by simp) (ev_if (by simp) (ev_if (by simp) (ev_if ?_ ?_))))
 ·show (39 :: m).length + [(39 : Int)].length < 140737488355328
  simp; omega
 rw [show (39 :: m) ++ rd_L4 [[39], m, [39]] 2 = 39 :: (m ++ [39]) from rfl, show wrap64 (2 + 1) = (3 : Int) from w64 (by decide) (by decide)]
 exact Ev.step (fun k => slices_Concat_byte_byte.l1.eq_2 ..) (ev_else (by simp) (Ev.now _))
theorem putS_if (l : List Int) : (if (quoteS (putQ l)).2.2 = 0 then (putQ l, (0 : Int)) else ([], 1)) = putS l := by
 unfold putS
 by_cases h : goodQ l
 ·have := quoteS_put h [] (by simp)
  rw [List.append_nil] at this
  rw [if_pos h, this, if_pos rfl]
 ·rw [if_neg h, if_neg (quoteS_bad h)]
theorem put_ev (l : List Int) (hl : Bytes l) (hn : l.length ≤ 10000) : Ev (fun k => quote_Put.f k l) (putS l) := by
 have b2 : ∀ a b : Int, 0 ≤ a ∧ a < 256 → 0 ≤ b ∧ b < 256 → Bytes [a, b] := by
  intro a b ha hb x hx
  simp at hx
  rcases hx with rfl | rfl <;> assumption
 have h1 := rep_bytes (c := 92) hl (b2 92 92 (by omega) (by omega))
 have h2 := rep_bytes (c := 39) h1 (b2 39 39 (by omega) (by omega))
 have l1 := rep_le (c := 92) (a := 92) (b := 92) l
 have l2 := rep_le (c := 39) (a := 39) (b := 39) (repS 92 [92, 92] l)
 have le := encsQ_len l
 unfold quote_Put.f
 refine ev_same (replaceAll_eq hl (by omega) (by omega)) (ev_same (replaceAll_eq h1 (by omega) (by omega)) (ev_same (replaceAll_eq h2 (by omega) (by omega)) ?_))
 rw [rep_enc]
 refine Ev.bind (concat_ev _ (by omega)) ?_
 have hq : Bytes (putQ l) := putQ_byte hl
 have hlen := putQ_len l
 refine Ev.bind (quote_ev (putQ l) hq (by omega)) ?_
 rw [← putS_if l]
 exact ev_ite (fun _ => Ev.now _) (fun _ => Ev.now _)
end Go.Proofs.YtdejidhgeefmeaaDoor.P
namespace Go.Proofs.YtdejidhgeefmeaaDoor.P
set_option linter.unusedSimpArgs false
set_option linter.unusedVariables false
open Go.RowKit Go.Proofs.YtdejidhgeefmeaaDoor.P Go.Proofs.YtdejidhgeefmeaaDoorW.PrintWords Go.Proofs.YtdejidhgeefmeaaDoorW.PrintLast Go.Proofs.YtdejidhgeefmeaaDoorW.PrintMore
/-- a text's bytes -/
def tx (s : ByteArray) : List Int := Go.Proofs.YtdejidhgeefmeaaDoorW.PrintWords.bytesOf s
theorem tx_len (s : ByteArray) : (tx s).length = s.size := Go.Proofs.YtdejidhgeefmeaaDoorW.PrintWords.bytesOf_length s
theorem tx_eq (a b : ByteArray) : a.toList = b.toList ↔ tx a = tx b := by
 rw [ByteArray.toList_eq, ByteArray.toList_eq]
 show _ ↔ (a.data.toList.map fun b : UInt8 => (b.toNat : Int)) = (b.data.toList.map fun b : UInt8 => (b.toNat : Int))
 rw [List.map_inj_right]
 intro x y h
 exact UInt8.toNat_inj.1 (Int.ofNat_inj.1 h)
abbrev Key := Int × List Int
def key (t : TokR) : Key := (t.f0, tx t.f3)
def rendK (q : Key) : List Int := rendB q.1 q.2
theorem body_byte {k : Int} {x : List Int} (h : Bytes x) : Bytes (body k x) := by
 unfold body; split
 ·exact putQ_byte h
 ·exact h
theorem sep_byte (k : Int) : 0 ≤ sepB k ∧ sepB k < 256 := by unfold sepB; split <;> decide
theorem one_byte {c : Int} (h : 0 ≤ c ∧ c < 256) : Bytes [c] := fun x hx => by rw [List.mem_singleton.1 hx]; exact h
theorem rend_byte {k : Int} {x : List Int} (h : Bytes x) : Bytes (rendB k x) := qapp (body_byte h) (one_byte (sep_byte k))
theorem rend_len (k : Int) (x : List Int) : (rendB k x).length ≤ 2 * x.length + 3 := by
 have := (encsQ_len x).2
 unfold rendB body
 split
 ·rw [List.length_append, putQ_len]; simp; omega
 ·simp; omega
/-- are two rows of tokens alike, and none is bad -/
def eqT (a b : List Key) : Bool := decide (a = b) && a.all fun q => !(q.1 == 8)
theorem equal_loop (a b : List TokR) (hab : a.length = b.length) (hn : a.length ≤ 1000000) (d : Nat) : ∀ i : Nat, i + d = a.length → Ev (fun k => api_Token.l0 k b a (a.length : Int) (i : Int)) (eqT ((a.drop i).map key) ((b.drop i).map key)) := by
 induction d with
 | zero =>
  intro i h
  refine Ev.step (fun k => api_Token.l0.eq_2 ..) (ev_else (by omega) (ev_now ?_))
  rw [List.drop_of_length_le (by omega), List.drop_of_length_le (by omega)]; rfl
 | succ d ih =>
  intro i h
  have hi : i < a.length := by omega
  have hj : i < b.length := by omega
  refine Ev.step (fun k => api_Token.l0.eq_2 ..) (ev_if (by omega) (ev_if (by omega) (ev_if (by omega) (ev_if (by omega) ?_))))
  rw [rdT_eq a i hi, rdT_eq b i hj, List.drop_eq_getElem_cons hi, List.drop_eq_getElem_cons hj, List.map_cons, List.map_cons]
  have hnext := ih (i + 1) (by omega)
  rw [show wrap64 ((i : Int) + 1) = ((i + 1 : Nat) : Int) by rw [w64 (by omega) (by omega)]; omega]
  generalize a[i] = x at *
  generalize b[i] = y at *
  generalize (a.drop (i + 1)).map key = A at *
  generalize (b.drop (i + 1)).map key = B at *
  have no : ¬ (key x = key y) → eqT (key x :: A) (key y :: B) = false := by
   intro h
   unfold eqT
   rw [decide_eq_false (fun e => h (List.cons.inj e).1)]; rfl
  have keyeq : key x = key y ↔ x.f0 = y.f0 ∧ x.f3.toList = y.f3.toList := by
   rw [tx_eq]
   unfold key
   rw [Prod.mk.injEq]
  by_cases h0 : x.f0 = y.f0
  ·by_cases h3 : x.f3.toList = y.f3.toList
   ·have e : lex_Join_1.f x.f0 x.f1 x.f2 x.f3 x.f4 y.f0 y.f1 y.f2 y.f3 y.f4 = some (x.f0 != 8) := by
     unfold lex_Join_1.f; rw [if_pos h0, if_pos h3]
    refine ev_same e ?_
    have hk := keyeq.2 ⟨h0, h3⟩
    by_cases h8 : x.f0 = 8
    ·refine ev_else (by simp [h8]) (ev_now ?_)
     unfold eqT
     rw [List.all_cons, show (!((key x).1 == 8)) = false by show (!(x.f0 == 8)) = false; simp [h8], Bool.false_and, Bool.and_false]
    ·refine ev_if (by simp [h8]) (ev_eq hnext ?_)
     unfold eqT
     rw [List.all_cons, show (!((key x).1 == 8)) = true by show (!(x.f0 == 8)) = true; simp [h8], Bool.true_and, hk]
     congr 1
     by_cases e : A = B
     ·rw [decide_eq_true e, decide_eq_true (by rw [e])]
     ·rw [decide_eq_false e, decide_eq_false (fun h => e (List.cons.inj h).2)]
   ·have e : lex_Join_1.f x.f0 x.f1 x.f2 x.f3 x.f4 y.f0 y.f1 y.f2 y.f3 y.f4 = some false := by
     unfold lex_Join_1.f; rw [if_pos h0, if_neg h3]
    exact ev_same e (ev_else (by decide) (ev_now (no (fun h => h3 (keyeq.1 h).2)).symm))
  ·have e : lex_Join_1.f x.f0 x.f1 x.f2 x.f3 x.f4 y.f0 y.f1 y.f2 y.f3 y.f4 = some false := by
    unfold lex_Join_1.f; rw [if_neg h0]
   exact ev_same e (ev_else (by decide) (ev_now (no (fun h => h0 (keyeq.1 h).1)).symm))
theorem equal_ev (a b : List TokR) (hn : a.length ≤ 1000000) : Ev (fun k => api_Token.f k a b) (eqT (a.map key) (b.map key)) := by
 unfold api_Token.f
 by_cases h : a.length = b.length
 ·have := equal_loop a b h hn a.length 0 (by omega)
  rw [List.drop_zero, List.drop_zero] at this
  exact ev_if (by omega) this
 ·refine ev_else (by omega) (ev_now ?_)
  unfold eqT
  rw [decide_eq_false (fun e => h (by have := congrArg List.length e; simpa using this))]; rfl
end Go.Proofs.YtdejidhgeefmeaaDoor.P
namespace Go.Proofs.YtdejidhgeefmeaaDoor.P
set_option linter.unusedSimpArgs false
set_option linter.unusedVariables false
open Go.RowKit Go.Proofs.YtdejidhgeefmeaaDoor.P Go.Proofs.YtdejidhgeefmeaaDoorW.PrintWords Go.Proofs.YtdejidhgeefmeaaDoorW.PrintLast Go.Proofs.YtdejidhgeefmeaaDoorW.PrintMore
theorem long_eq (k : Nat) (c : Int) : tmesisref01_long.f (k + 1) c = some (uLong c : Int) := by
 unfold tmesisref01_long.f uLong
 simp only [tmesisref01_long.j0]
 by_cases h1 : c < 128
 ·simp [h1]
 by_cases h2 : c < 194
 ·simp [h1, h2]
 by_cases h3 : c > 244
 ·simp [h1, h2, h3]
 by_cases h4 : c < 224
 ·simp [*]
 by_cases h7 : c < 240
 ·simp [*]
 simp [*]
theorem second_eq (c a : Int) : tmesisref01_second.f c a = some (decide (uLo c ≤ a ∧ a ≤ uHi c)) := by
 unfold tmesisref01_second.f uLo uHi
 by_cases h1 : c = 224
 ·subst h1; by_cases h : a ≥ 160 <;> simp [h]
 by_cases h2 : c = 237
 ·subst h2; by_cases h : a ≥ 128 <;> simp [h]
 by_cases h3 : c = 240
 ·subst h3; by_cases h : a ≥ 144 <;> simp [h]
 by_cases h4 : c = 244
 ·subst h4; by_cases h : a ≥ 128 <;> simp [h]
 by_cases h : a ≥ 128 <;> simp [*]
theorem rl (d : Nat) : ∀ (k : Nat) (l : List Int) (m : Int) (i : Nat), m = ((i + d : Nat) : Int) → d < k → i + d ≤ l.length → i + d < 10 →
  tmesisref01_Take.l0 k l m (i : Int) = some (if restOk d 128 191 (l.drop i) then (m, true) else (1, false)) := by
 induction d with
 | zero =>
  intro k l m i hm hk h1 h2
  obtain ⟨k, rfl⟩ : ∃ j, k = j + 1 := ⟨k - 1, by omega⟩
  simp only [tmesisref01_Take.l0]
  rw [if_neg (by omega)]
  rfl
 | succ d ih =>
  intro k l m i hm hk h1 h2
  obtain ⟨k, rfl⟩ : ∃ j, k = j + 1 := ⟨k - 1, by omega⟩
  have e : wrap64 ((i : Int) + 1) = ((i + 1 : Nat) : Int) := by rw [w64 (by omega) (by omega)]; omega
  have er : rd l (i : Int) = l[i] := by
   show l.getD i 0 = _
   simp [List.getD_eq_getElem?_getD, List.getElem?_eq_getElem (show i < l.length by omega)]
  simp only [tmesisref01_Take.l0]
  rw [if_pos (by omega), if_pos (by omega), if_pos (by omega), e, er, ih k l m (i + 1) (by omega) (by omega) (by omega) (by omega), List.drop_eq_getElem_cons (i := i) (by omega), restOk_cons]
  by_cases a : l[i] < 128
  ·rw [if_pos a, decide_eq_false (by omega), Bool.false_and]; rfl
  ·rw [if_neg a]
   by_cases b : l[i] > 191
   ·rw [if_pos b, decide_eq_false (by omega), Bool.false_and]; rfl
   ·rw [if_neg b, decide_eq_true (by omega), Bool.true_and]
theorem urtake_ten (l : List Int) : tmesisref01_Take.f 10 l = some (takeS l) := by
 unfold tmesisref01_Take.f
 cases l with
 | nil => simp [takeS]
 | cons c r =>
  rw [if_neg (by simp; omega), if_pos (by simp)]
  have e0 : rd (c :: r) 0 = c := rfl
  rw [e0, long_eq, takeS_cons]
  simp only [Option.bind_some]
  have hle := uLong_le c
  by_cases h0 : uLong c = 0
  ·rw [h0]
   simp [tmesisref01_Take.j0]
  rw [if_neg (by omega), if_neg h0]
  by_cases h1 : ((c :: r).length : Int) < (uLong c : Int)
  ·rw [if_pos h1, restOk_short _ _ _ r (by simp at h1; omega)]
   simp [tmesisref01_Take.j0]
  rw [if_neg h1]
  by_cases h2 : uLong c = 1
  ·rw [h2]
   have := rl 0 9 (c :: r) 1 1 (by omega) (by omega) (by simp) (by omega)
   simp [tmesisref01_Take.j0, restOk]
   simp only [tmesisref01_Take.l0]
   rw [if_neg (by omega)]
  ·rw [if_pos (by omega)]
   cases r with
   | nil => simp at h1; omega
   | cons a t =>
    have e1 : rd (c :: a :: t) 1 = a := rfl
    rw [if_pos (by simp; omega), e1, second_eq]
    simp only [Option.bind_some, tmesisref01_Take.j0]
    obtain ⟨n, hn⟩ : ∃ n, uLong c = n + 2 := ⟨uLong c - 2, by omega⟩
    rw [hn, show n + 2 - 1 = n + 1 from rfl, restOk_cons]
    have := rl n 9 (c :: a :: t) ((n + 2 : Nat) : Int) 2 (by omega) (by omega) (by simp at h1 ⊢; omega) (by omega)
    by_cases A : uLo c ≤ a ∧ a ≤ uHi c
    ·rw [decide_eq_true A, Bool.true_and, if_neg (by simp)]
     exact this
    ·rw [decide_eq_false A, Bool.false_and, if_pos (by simp)]
     rfl
theorem urtake_ev (l : List Int) : Ev (fun k => tmesisref01_Take.f k l) (takeS l) := Ev.of (fun k => tmesisref01_Take.mono l k) (urtake_ten l)
end Go.Proofs.YtdejidhgeefmeaaDoor.P
namespace Go.Proofs.YtdejidhgeefmeaaDoor.P
set_option linter.unusedSimpArgs false
set_option linter.unusedVariables false
open Go.RowKit Go.Proofs.YtdejidhgeefmeaaDoor.P Go.Proofs.YtdejidhgeefmeaaDoorW.PrintWords Go.Proofs.YtdejidhgeefmeaaDoorW.PrintLast Go.Proofs.YtdejidhgeefmeaaDoorW.PrintMore
theorem at_next {l : List Int} (hn : l.length ≤ 1000000) {p : Nat} {c : Int} {r : List Int} (hm : l.drop p = c :: r) : tmesisref04_at.f l ((p + 1 : Nat) : Int) = some (r.headD 0) := by
 have hml : (l.drop p).length = l.length - p := List.length_drop
 rw [hm] at hml
 simp only [List.length_cons] at hml
 unfold tmesisref04_at.f
 cases hr : r with
 | nil =>
  rw [hr] at hml
  simp only [List.length_nil] at hml
  rw [if_neg (by omega)]; rfl
 | cons a t =>
  rw [← hr]
  have e := rd_next hm (by rw [hr]; simp)
  rw [hr] at hml
  simp only [List.length_cons] at hml
  rw [if_pos (by omega), if_pos (by omega), e]
theorem rquote_loop (l : List Int) (hl : Bytes l) (hn : l.length ≤ 1000000) (N : Nat) : ∀ (p : Nat) (acc : List Int), l.length - p < N → p ≤ l.length → acc.length ≤ p →
  Ev (fun k => tmesisref04_Take.l0 k l acc (p : Int)) (resQ acc p (textQ (l.drop p))) := by
 induction N with
 | zero => intro p _ h; omega
 | succ N ih =>
  intro p acc hN hp ha
  have hml : (l.drop p).length = l.length - p := List.length_drop
  have w1 : wrap64 ((p : Int) + 1) = ((p + 1 : Nat) : Int) := by rw [w64 (by omega) (by omega)]; omega
  have w2 : wrap64 ((p : Int) + 2) = ((p + 2 : Nat) : Int) := by rw [w64 (by omega) (by omega)]; omega
  refine Ev.step (fun k => tmesisref04_Take.l0.eq_2 ..) ?_
  match hm : l.drop p with
  | [] =>
   rw [hm] at hml
   simp only [List.length_nil] at hml
   refine ev_else (by omega) (Ev.step (fun k => tmesisref04_Take.j1.eq_2 ..) (ev_else (by simp) (ev_now ?_)))
   rw [resQ_bad (s := []) (e := 12) rfl (by decide) (by decide)]
  | c :: r =>
   rw [hm] at hml
   simp only [List.length_cons] at hml
   have hle := itemQ_le (c :: r)
   have cut : ∀ n : Nat, l.drop (p + n) = (c :: r).drop n := fun n => by rw [← hm, List.drop_drop]
   have hat := at_next hn hm
   generalize hd : r.headD 0 = d at hat
   have hgo : ∀ (v : List Int) (n : Nat), itemQ (c :: r) = (v, n, 0) → Ev (fun k => tmesisref04_Take.l0 k l (acc ++ v) ((p + n : Nat) : Int)) (resQ acc p (textQ (c :: r))) := by
    intro v n h
    rw [h] at hle
    simp only [List.length_cons] at hle
    have h1 := hle.2.1 trivial
    rw [resQ_go h, ← cut]
    refine ih (p + n) (acc ++ v) (by omega) (by omega) ?_
    rw [List.length_append]
    omega
   refine ev_if (by omega) (ev_if (by omega) (Ev.step (fun k => tmesisref04_Take.j1.eq_2 ..) ?_))
   rw [rd_here hm, w1, w2]
   by_cases h10 : c = 10
   ·have hi : itemQ (c :: r) = ([], 0, 12) := by rw [itemQ, if_neg (by omega), if_neg (by omega), if_pos h10]
    refine ev_else (by simp [h10]) (ev_now ?_)
    rw [resQ_bad hi (by decide) (by decide)]
   refine ev_if (by simp [h10]) (ev_if (by omega) (ev_if (by omega) (ev_same hat ?_)))
   by_cases h39 : c = 39
   ·refine ev_if h39 ?_
    by_cases hd9 : d = 39
    ·have hi : itemQ (c :: r) = ([39], 2, 0) := by rw [itemQ, if_pos h39, if_pos (by rw [hd]; exact hd9)]
     exact ev_if hd9 (ev_if (by omega) (hgo _ _ hi))
    ·have hi : itemQ (c :: r) = ([], 1, -1) := by rw [itemQ, if_pos h39, if_neg (by rw [hd]; exact hd9)]
     refine ev_else hd9 (ev_now ?_)
     rw [resQ_end hi]
   refine ev_else h39 ?_
   by_cases h92 : c = 92
   ·refine ev_if h92 ?_
    by_cases hq : d = 92 ∨ d = 39
    ·have hi : itemQ (c :: r) = ([d], 2, 0) := by rw [itemQ, if_neg h39, if_pos h92, hd, if_pos hq]
     have fin : Ev (fun k => tmesisref04_Take.j2 k l acc (p : Int) d false) (resQ acc p (textQ (c :: r))) := by
      refine Ev.step (fun k => tmesisref04_Take.j2.eq_2 ..) (ev_else (by simp) (ev_else (by omega) (ev_if (by omega) ?_)))
      rw [w2]
      exact hgo _ _ hi
     refine ev_else (by omega) ?_
     by_cases h2 : d = 92
     ·exact ev_if h2 fin
     ·refine ev_else h2 ?_
      rw [show (d != 39) = false by simp; omega]
      exact fin
    ·have n1 : d ≠ 92 := fun h => hq (.inl h)
     have n2 : d ≠ 39 := fun h => hq (.inr h)
     by_cases hn10 : d = 110
     ·have hi : itemQ (c :: r) = ([10], 2, 0) := by rw [itemQ, if_neg h39, if_pos h92, hd, if_neg hq, if_pos hn10]
      refine ev_if hn10 (Ev.step (fun k => tmesisref04_Take.j2.eq_2 ..) (ev_else (by simp) (ev_if hn10 (ev_if (by omega) ?_))))
      rw [w2]
      exact hgo _ _ hi
     ·have hi : itemQ (c :: r) = ([], 0, 13) := by rw [itemQ, if_neg h39, if_pos h92, hd, if_neg hq, if_neg hn10]
      refine ev_else hn10 (ev_else n1 (Ev.step (fun k => tmesisref04_Take.j2.eq_2 ..) (ev_if (by simp [n2]) (ev_now ?_))))
      rw [resQ_bad hi (by decide) (by decide)]
   refine ev_else h92 ?_
   by_cases hc : c < 32 ∨ c = 127
   ·have hi : itemQ (c :: r) = ([], 0, 11) := by rw [itemQ, if_neg h39, if_neg h92, if_neg h10, if_pos hc]
    have fin : Ev (fun k => tmesisref04_Take.j3 k l acc (p : Int) true) (resQ acc p (textQ (c :: r))) := by
     refine Ev.step (fun k => tmesisref04_Take.j3.eq_2 ..) (ev_if rfl (ev_now ?_))
     rw [resQ_bad hi (by decide) (by decide)]
    by_cases h32 : c < 32
    ·exact ev_if h32 fin
    ·refine ev_else h32 ?_
     rw [show (c == 127) = true by simp; omega]
     exact fin
   ·have n1 : ¬ c < 32 := fun h => hc (.inl h)
    have n2 : c ≠ 127 := fun h => hc (.inr h)
    refine ev_else n1 (Ev.step (fun k => tmesisref04_Take.j3.eq_2 ..) (ev_else (by simp [n2]) (ev_if (by omega) (ev_if (by omega) ?_))))
    rw [show l.drop ((p : Int)).toNat = c :: r from hm]
    refine Ev.bind (urtake_ev _) ?_
    have tp := take_pos c r
    simp only [List.length_cons] at tp
    by_cases ht : (takeS (c :: r)).2 = true
    ·have hi : itemQ (c :: r) = ((c :: r).take (takeS (c :: r)).1.toNat, (takeS (c :: r)).1.toNat, 0) := by rw [itemQ, if_neg h39, if_neg h92, if_neg h10, if_neg hc, if_pos ht]
     generalize (takeS (c :: r)).1 = n at tp hi ⊢
     have wn : wrap64 ((p : Int) + n) = ((p + n.toNat : Nat) : Int) := by rw [w64 (by omega) (by omega)]; omega
     rw [wn]
     have et : (l.take (((p + n.toNat : Nat) : Int)).toNat).drop ((p : Int)).toNat = (c :: r).take n.toNat := by
      show (l.take (p + n.toNat)).drop p = _
      rw [List.drop_take, hm, Nat.add_sub_cancel_left]
     rw [et]
     refine ev_if ht (ev_if (by omega) (ev_if (by omega) (ev_if ?_ ?_)))
     ·rw [List.length_take]; simp only [List.length_cons]; omega
     ·exact hgo _ _ hi
    ·have hi : itemQ (c :: r) = ([], 0, 10) := by rw [itemQ, if_neg h39, if_neg h92, if_neg h10, if_neg hc, if_neg ht]
     refine ev_else ht (ev_now ?_)
     rw [resQ_bad hi (by decide) (by decide)]
theorem rquote_ev (l : List Int) (hl : Bytes l) (hn : l.length ≤ 1000000) : Ev (fun k => tmesisref04_Take.f k l) (quoteS l) := by
 unfold tmesisref04_Take.f quoteS
 cases l with
 | nil => exact ev_same (y := 0) rfl (ev_else (by omega) (ev_now rfl))
 | cons c r =>
  refine ev_same (y := c) (by unfold tmesisref04_at.f; rw [if_pos (by simp), if_pos (by omega)]; rfl) ?_
  rw [show (c :: r).headD 0 = c from rfl]
  by_cases h : c = 39
  ·rw [if_pos h]
   exact ev_if h (rquote_loop _ hl hn ((c :: r).length + 1) 1 [] (by omega) (by simp) (by simp))
  ·rw [if_neg h]
   exact ev_else h (ev_now rfl)
end Go.Proofs.YtdejidhgeefmeaaDoor.P
namespace Go.Proofs.YtdejidhgeefmeaaDoor.P
set_option linter.unusedSimpArgs false
set_option linter.unusedVariables false
open Go.RowKit Go.Proofs.YtdejidhgeefmeaaDoor.P Go.Proofs.YtdejidhgeefmeaaDoorW.PrintWords Go.Proofs.YtdejidhgeefmeaaDoorW.PrintLast Go.Proofs.YtdejidhgeefmeaaDoorW.PrintMore
set_option maxRecDepth 100000 in
theorem of_all : ∀ n : Nat, n < 256 → tmesisref02_Of.f 40 (n : Int) = some (classOf (n : Int)) := by decide +kernel
theorem rof_ev {c : Int} (hc : 0 ≤ c ∧ c < 256) : Ev (fun k => tmesisref02_Of.f k c) (classOf c) := Ev.of (fun k => tmesisref02_Of.mono c k) (k := 40) (byte_all (p := fun c => tmesisref02_Of.f 40 c = some (classOf c)) of_all hc)
theorem rrun_loop (l : List Int) (cl : Int) (hl : l.length ≤ 9223372036854775806) (hb : Bytes l) (d : Nat) : ∀ i : Nat, d + i = l.length →
  Ev (fun k => tmesisref02_Run.l0 k l cl (i : Int)) ((i + runS (l.drop i) cl : Nat) : Int) := by
 induction d with
 | zero =>
  intro i hi
  refine Ev.step (fun k => tmesisref02_Run.l0.eq_2 ..) (ev_else (by omega) (ev_now ?_))
  rw [List.drop_of_length_le (by omega), runS_nil]
  omega
 | succ d ih =>
  intro i hi
  have hlt : i < l.length := by omega
  refine Ev.step (fun k => tmesisref02_Run.l0.eq_2 ..) (ev_if (by omega) (ev_if (by omega) ?_))
  rw [rd_at l i hlt, List.drop_eq_getElem_cons hlt, runS_cons]
  refine Ev.bind (rof_ev (hb _ (List.getElem_mem hlt))) ?_
  by_cases h : classOf l[i] = cl
  ·rw [if_pos h]
   refine ev_if h ?_
   rw [show wrap64 ((i : Int) + 1) = ((i + 1 : Nat) : Int) by rw [w64 (by omega) (by omega)]; omega]
   refine ev_eq (ih (i + 1) (by omega)) ?_
   omega
  ·rw [if_neg h]
   exact ev_else h (ev_now (by omega))
theorem rrun_ev (l : List Int) (cl : Int) (hl : l.length ≤ 9223372036854775806) (hb : Bytes l) : Ev (fun k => tmesisref02_Run.f k l cl) (runS l cl : Int) := by
 refine ev_eq (rrun_loop l cl hl hb l.length 0 (by omega)) ?_
 simp
end Go.Proofs.YtdejidhgeefmeaaDoor.P
namespace Go.Proofs.YtdejidhgeefmeaaDoor.P
set_option linter.unusedSimpArgs false
set_option linter.unusedVariables false
open Go.RowKit Go.Proofs.YtdejidhgeefmeaaDoor.P Go.Proofs.YtdejidhgeefmeaaDoorW.PrintWords Go.Proofs.YtdejidhgeefmeaaDoorW.PrintLast Go.Proofs.YtdejidhgeefmeaaDoorW.PrintMore
theorem rdigit_loop (l : List Int) (hb : Bytes l) (hl : l.length ≤ 1000000) (d : Nat) : ∀ (i : Nat) (n : Int), d + i = runS l 4 → 0 ≤ n → n ≤ 2147483647 →
  Ev (fun k => tmesisref03_Take.l0 k l (runS l 4 : Int) n (i : Int)) (resD (runS l 4 : Int) (numS n ((headD l).drop i))) := by
 have hle := runS_le l 4
 have hh := headD_len l
 have hd := headD_digs hb
 induction d with
 | zero =>
  intro i n hi h0 h1
  refine Ev.step (fun k => tmesisref03_Take.l0.eq_2 ..) (ev_else (by omega) (ev_now ?_))
  rw [List.drop_of_length_le (by omega)]
  rfl
 | succ d ih =>
  intro i n hi h0 h1
  have hlt : i < (headD l).length := by omega
  have hc := hd _ (List.getElem_mem hlt)
  have eg : (headD l)[i] = l[i] := by simp [headD, List.getElem_take]
  refine Ev.step (fun k => tmesisref03_Take.l0.eq_2 ..) (ev_if (by omega) (ev_if (by omega) (ev_if (by omega) ?_)))
  rw [rd_at l i (by omega), List.drop_eq_getElem_cons hlt, eg]
  rw [eg] at hc
  have e : wrap64 (wrap64 (n * 10) + (l[i] - 48) % 256) = n * 10 + (l[i] - 48) := by
   rw [w64 (i := n * 10) (by omega) (by omega), show (l[i] - 48) % 256 = l[i] - 48 by omega, w64 (by omega) (by omega)]
  rw [e, numS_cons]
  by_cases h : n * 10 + (l[i] - 48) > 2147483647
  ·rw [if_pos h]
   exact ev_if h (ev_now rfl)
  ·rw [if_neg h]
   refine ev_else h ?_
   rw [show wrap64 ((i : Int) + 1) = ((i + 1 : Nat) : Int) by rw [w64 (by omega) (by omega)]; omega]
   exact ih (i + 1) _ (by omega) (by omega) (by omega)
theorem drtake_ev (l : List Int) (hb : Bytes l) (hl : l.length ≤ 1000000) : Ev (fun k => tmesisref03_Take.f k l) (takeD l) := by
 unfold tmesisref03_Take.f takeD
 refine Ev.bind (rrun_ev l 4 (by omega) hb) ?_
 by_cases h : runS l 4 = 0
 ·rw [h]
  exact ev_if rfl (ev_now rfl)
 ·rw [if_neg h]
  exact ev_else (by omega) (rdigit_loop l hb hl (runS l 4) 0 0 (by omega) (by omega) (by omega))
end Go.Proofs.YtdejidhgeefmeaaDoor.P
namespace Go.Proofs.YtdejidhgeefmeaaDoor.P
set_option linter.unusedSimpArgs false
set_option linter.unusedVariables false
open Go.RowKit Go.Proofs.YtdejidhgeefmeaaDoor.P Go.Proofs.YtdejidhgeefmeaaDoorW.PrintWords Go.Proofs.YtdejidhgeefmeaaDoorW.PrintLast Go.Proofs.YtdejidhgeefmeaaDoorW.PrintMore
theorem pair_eq {l : List Int} (hl : Bytes l) (hn : l.length ≤ 1000000) (p : Nat) (hp : p ≤ l.length) {a b : Int} (ha : 0 ≤ a ∧ a < 256) (hb : 0 ≤ b ∧ b < 256) (s : ByteArray) (hs : s.toList = [UInt8.ofNat a.toNat, UInt8.ofNat b.toNat]) : tmesisref05_pair.f l (p : Int) s = some (two a b (l.drop p)) := by
 unfold tmesisref05_pair.f
 rw [show wrap64 ((p : Int) + 2) = ((p + 2 : Nat) : Int) by rw [w64 (by omega) (by omega)]; omega]
 by_cases h : p + 2 ≤ l.length
 ·rw [if_pos (by omega), if_pos (by omega), if_pos (by omega), hs]
  show some ((strOfNums ((l.take (p + 2)).drop p)).toList == _) = _
  congr 1
  rw [strOf_list, List.drop_take, show p + 2 - p = 2 by omega]
  have hb2 := hl.drop p
  match hm : l.drop p with
  | [] => have := congrArg List.length hm; simp at this; omega
  | [x] => have := congrArg List.length hm; simp at this; omega
  | x :: y :: r =>
   rw [hm] at hb2
   have hx := hb2 x (by simp)
   have hy := hb2 y (by simp)
   show (([UInt8.ofNat x.toNat, UInt8.ofNat y.toNat] : List UInt8) == [UInt8.ofNat a.toNat, UInt8.ofNat b.toNat]) = (x == a && y == b)
   rw [Bool.eq_iff_iff, beq_iff_eq, Bool.and_eq_true, beq_iff_eq, beq_iff_eq, List.cons.injEq, List.cons.injEq]
   constructor
   ·rintro ⟨h1, h2, _⟩
    exact ⟨u8_inj hx ha h1, u8_inj hy hb h2⟩
   ·rintro ⟨rfl, rfl⟩
    exact ⟨rfl, rfl, rfl⟩
 ·rw [if_neg (by omega)]
  congr 1
  match hm : l.drop p with
  | [] => rfl
  | [x] => rfl
  | x :: y :: r => have := congrArg List.length hm; simp at this; omega
def optM (p : Nat) : Option Nat → Int
 | some n => ((p + n : Nat) : Int)
 | none => -1
theorem optM_map (p k : Nat) (o : Option Nat) : optM p (o.map (· + k)) = optM (p + k) o := by
 cases o with
 | none => rfl
 | some n => show ((p + (n + k) : Nat) : Int) = ((p + k + n : Nat) : Int); congr 1; omega
theorem com1_ev (l : List Int) (hl : Bytes l) (hn : l.length ≤ 1000000) (N : Nat) : ∀ (d p : Nat), l.length - p < N → 1 ≤ d → d ≤ p → p ≤ l.length →
  Ev (fun k => tmesisref05_comment.l0 k l (p : Int) (d : Int)) (optM p (comL d (l.drop p))) := by
 induction N with
 | zero => intro d p h; omega
 | succ N ih =>
  intro d p hN hd hdp hp
  have hml : (l.drop p).length = l.length - p := List.length_drop
  refine Ev.step (fun k => tmesisref05_comment.l0.eq_2 ..) ?_
  have w2 : wrap64 ((p : Int) + 2) = ((p + 2 : Nat) : Int) := by rw [w64 (by omega) (by omega)]; omega
  have w1 : wrap64 ((p : Int) + 1) = ((p + 1 : Nat) : Int) := by rw [w64 (by omega) (by omega)]; omega
  have w3 : wrap64 ((d : Int) + 1) = ((d + 1 : Nat) : Int) := by rw [w64 (by omega) (by omega)]; omega
  have w4 : wrap64 ((d : Int) - 1) = ((d - 1 : Nat) : Int) := by rw [w64 (by omega) (by omega)]; omega
  rw [w1, w2, w3, w4]
  match hm : l.drop p with
  | [] =>
   rw [hm] at hml
   simp only [List.length_nil] at hml
   exact ev_else (by omega) (ev_now rfl)
  | [x] =>
   rw [hm] at hml
   simp only [List.length_cons, List.length_nil] at hml
   have e := ih d (p + 1) (by omega) hd (by omega) (by omega)
   rw [List.drop_of_length_le (by omega)] at e
   refine ev_if (by omega) (ev_same (pair_eq hl hn p hp (a := 47) (b := 42) (by omega) (by omega) _ (by decide +kernel)) ?_)
   rw [hm]
   refine ev_else (by simp [two]) (ev_same (pair_eq hl hn p hp (a := 42) (b := 47) (by omega) (by omega) _ (by decide +kernel)) ?_)
   rw [hm]
   exact ev_else (by simp [two]) e
  | x :: y :: r =>
   obtain ⟨e2, e1⟩ := drop_two hm
   rw [hm] at hml
   simp only [List.length_cons] at hml
   rw [comL]
   refine ev_if (by omega) (ev_same (pair_eq hl hn p hp (a := 47) (b := 42) (by omega) (by omega) _ (by decide +kernel)) ?_)
   rw [hm]
   by_cases h1 : x = 47 ∧ y = 42
   ·have t : two 47 42 (x :: y :: r) = true := by simp [two, h1.1, h1.2]
    rw [if_pos h1, optM_map, ← e2]
    exact ev_if t (ih (d + 1) (p + 2) (by omega) (by omega) (by omega) (by omega))
   ·have t : ¬ two 47 42 (x :: y :: r) = true := by simpa [two] using h1
    rw [if_neg h1]
    refine ev_else t (ev_same (pair_eq hl hn p hp (a := 42) (b := 47) (by omega) (by omega) _ (by decide +kernel)) ?_)
    rw [hm]
    by_cases h2 : x = 42 ∧ y = 47
    ·have t : two 42 47 (x :: y :: r) = true := by simp [two, h2.1, h2.2]
     rw [if_pos h2]
     refine ev_if t ?_
     by_cases h3 : d = 1
     ·rw [if_pos h3]
      exact ev_if (by omega) (ev_now rfl)
     ·rw [if_neg h3, optM_map, ← e2]
      exact ev_else (by omega) (ih (d - 1) (p + 2) (by omega) (by omega) (by omega) (by omega))
    ·have t : ¬ two 42 47 (x :: y :: r) = true := by simpa [two] using h2
     have e3 := ih d (p + 1) (by omega) hd (by omega) (by omega)
     rw [e1] at e3
     rw [if_neg h2, optM_map]
     exact ev_else t e3
theorem rcom_ev (l : List Int) (hl : Bytes l) (hn : l.length ≤ 1000000) (p : Nat) (hp : p ≤ l.length) (h : two 47 42 (l.drop p) = true) : Ev (fun k => tmesisref05_comment.f k l (p : Int)) (optM p (comS (l.drop p))) := by
 unfold tmesisref05_comment.f
 have hml : (l.drop p).length = l.length - p := List.length_drop
 refine Ev.step (fun k => tmesisref05_comment.l0.eq_2 ..) ?_
 match hm : l.drop p, h with
 | x :: y :: r, h =>
  obtain ⟨e2, e1⟩ := drop_two hm
  rw [hm] at hml
  simp only [List.length_cons] at hml
  refine ev_if (by omega) (ev_same (pair_eq hl hn p hp (a := 47) (b := 42) (by omega) (by omega) _ (by decide +kernel)) ?_)
  rw [hm]
  refine ev_if h ?_
  rw [show wrap64 ((p : Int) + 2) = ((p + 2 : Nat) : Int) by rw [w64 (by omega) (by omega)]; omega, show wrap64 ((0 : Int) + 1) = ((1 : Nat) : Int) by rw [w64 (by omega) (by omega)]; rfl]
  refine ev_eq (com1_ev l hl hn (l.length + 1) 1 (p + 2) (by omega) (by omega) (by omega) (by omega)) ?_
  unfold comS
  rw [optM_map, e2]
  rfl
theorem rskip_loop (l : List Int) (hl : Bytes l) (hn : l.length ≤ 1000000) (N : Nat) : ∀ p : Nat, l.length - p < N → p ≤ l.length →
  Ev (fun k => tmesisref05_Skip.l0 k l (p : Int)) (((p + (skipS (l.drop p)).1 : Nat) : Int), (skipS (l.drop p)).2) := by
 induction N with
 | zero => intro p h; omega
 | succ N ih =>
  intro p hN hp
  have hb := hl.drop p
  have hml : (l.drop p).length = l.length - p := List.length_drop
  refine Ev.step (fun k => tmesisref05_Skip.l0.eq_2 ..) ?_
  match hm : l.drop p with
  | [] =>
   rw [hm] at hml
   simp only [List.length_nil] at hml
   refine ev_else (by omega) (ev_now ?_)
   rw [skipS_stop rfl]; rfl
  | c :: r =>
   rw [hm] at hml hb
   simp only [List.length_cons] at hml
   have hcb := hb.cons.1
   have cut : ∀ n : Nat, l.drop (p + n) = (c :: r).drop n := fun n => by rw [← hm, List.drop_drop]
   have erd : rd l (p : Int) = c := by
    rw [rd_at l p (by omega)]
    have : (l.drop p)[0]? = some c := by rw [hm]; rfl
    rw [List.getElem?_drop, List.getElem?_eq_getElem (by omega)] at this
    exact Option.some.inj this
   have next : ∀ n : Nat, 1 ≤ n → p + n ≤ l.length → stepS (c :: r) = (n, 0) → Ev (fun k => tmesisref05_Skip.l0 k l ((p + n : Nat) : Int)) (((p + (skipS (c :: r)).1 : Nat) : Int), (skipS (c :: r)).2) := by
    intro n h1 h2 es
    have eg := skipS_go (l := c :: r) (by rw [es]; simp only; omega)
    rw [es] at eg
    refine ev_eq (ih (p + n) (by omega) h2) ?_
    rw [cut, eg]
    simp only [Prod.mk.injEq, and_true]
    omega
   rw [erd]
   refine ev_if (by omega) (ev_if (by omega) (Ev.bind (rof_ev hcb) ?_))
   by_cases h1 : classOf c = 1
   ·refine ev_if h1 ?_
    rw [show wrap64 ((p : Int) + 1) = ((p + 1 : Nat) : Int) by rw [w64 (by omega) (by omega)]; omega]
    exact next 1 (by omega) (by omega) (by rw [stepS, if_pos h1])
   ·refine ev_else h1 ?_
    by_cases h2 : c = 37
    ·refine ev_if h2 ?_
     have hls := lineS_le (c :: r)
     simp only [List.length_cons] at hls
     have h1l : 1 ≤ lineS (c :: r) := by rw [lineS_cons, if_neg (by omega)]; omega
     have es : stepS (c :: r) = (lineS (c :: r), 0) := by rw [stepS, if_neg h1, if_pos h2]
     have line : ∀ (d q : Nat), d + q = p + lineS (c :: r) → p ≤ q → lineS (l.drop q) = d → Ev (fun k => tmesisref05_Skip.l1 k l (q : Int)) (((p + (skipS (c :: r)).1 : Nat) : Int), (skipS (c :: r)).2) := by
      intro d
      induction d with
      | zero =>
       intro q hq hpq hd
       refine Ev.step (fun k => tmesisref05_Skip.l1.eq_2 ..) ?_
       have nx := next (lineS (c :: r)) h1l (by omega) es
       rw [show p + lineS (c :: r) = q by omega] at nx
       by_cases hql : q < l.length
       ·have e10 : rd l (q : Int) = 10 := by
         rw [rd_at l q hql]
         rw [List.drop_eq_getElem_cons hql, lineS_cons] at hd
         by_cases h10 : l[q] = 10
         ·exact h10
         ·rw [if_neg h10] at hd; omega
        exact ev_if (by omega) (ev_if (by omega) (ev_if e10 nx))
       ·exact ev_else (by omega) nx
      | succ d ihd =>
       intro q hq hpq hd
       have hql : q < l.length := by omega
       rw [List.drop_eq_getElem_cons hql, lineS_cons] at hd
       refine Ev.step (fun k => tmesisref05_Skip.l1.eq_2 ..) ?_
       have n10 : l[q] ≠ 10 := by
        intro h10
        rw [if_pos h10] at hd; omega
       rw [if_neg n10] at hd
       rw [rd_at l q hql]
       refine ev_if (by omega) (ev_if (by omega) (ev_else n10 ?_))
       rw [show wrap64 ((q : Int) + 1) = ((q + 1 : Nat) : Int) by rw [w64 (by omega) (by omega)]; omega]
       exact ihd (q + 1) (by omega) (by omega) (by omega)
     exact line (lineS (c :: r)) p (by omega) (by omega) (by rw [hm])
    ·refine ev_else h2 (ev_same (pair_eq hl hn p hp (a := 47) (b := 42) (by omega) (by omega) _ (by decide +kernel)) ?_)
     rw [hm]
     by_cases ht : two 47 42 (c :: r) = true
     ·refine ev_if ht ?_
      have rc := rcom_ev l hl hn p hp (by rw [hm]; exact ht)
      rw [hm] at rc
      refine Ev.bind rc ?_
      cases h4 : comS (c :: r) with
      | none =>
       have es : stepS (c :: r) = (0, 14) := by rw [stepS, if_neg h1, if_neg h2, if_pos ht, h4]
       refine ev_if (by show (-1 : Int) < 0; omega) (ev_now ?_)
       rw [skipS_stop (by rw [es]), es]; rfl
      | some n =>
       have es : stepS (c :: r) = (n, 0) := by rw [stepS, if_neg h1, if_neg h2, if_pos ht, h4]
       have hsl := stepS_le (c :: r)
       rw [es] at hsl
       simp only [List.length_cons] at hsl
       have h1n : 1 ≤ n := by
        obtain ⟨m, hm2, rfl⟩ := Option.map_eq_some_iff.1 h4
        omega
       exact ev_else (by show ¬ ((p + n : Nat) : Int) < 0; omega) (next n h1n (by omega) es)
     ·have es : stepS (c :: r) = (0, 0) := by rw [stepS, if_neg h1, if_neg h2, if_neg ht]
      refine ev_else ht (ev_now ?_)
      rw [skipS_stop (by rw [es]), es]; rfl
theorem rskip_ev (l : List Int) (hl : Bytes l) (hn : l.length ≤ 1000000) : Ev (fun k => tmesisref05_Skip.f k l) (((skipS l).1 : Int), (skipS l).2) := by
 refine ev_eq (rskip_loop l hl hn (l.length + 1) 0 (by omega) (by omega)) ?_
 simp
end Go.Proofs.YtdejidhgeefmeaaDoor.P
namespace Go.Proofs.YtdejidhgeefmeaaDoor.P
set_option linter.unusedSimpArgs false
set_option linter.unusedVariables false
open Go.RowKit Go.Proofs.YtdejidhgeefmeaaDoor.P Go.Proofs.YtdejidhgeefmeaaDoorW.PrintWords Go.Proofs.YtdejidhgeefmeaaDoorW.PrintLast Go.Proofs.YtdejidhgeefmeaaDoorW.PrintMore
theorem rnamec_ev {c : Int} (hc : 0 ≤ c ∧ c < 256) : Ev (fun k => tmesisref02_Name.f k c) (nameOf c) := by
 unfold tmesisref02_Name.f nameOf
 refine Ev.bind (rof_ev hc) ?_
 by_cases h2 : classOf c = 2
 ·exact ev_if h2 (ev_now (by simp [h2]))
 refine ev_else h2 (Ev.bind (rof_ev hc) ?_)
 by_cases h3 : classOf c = 3
 ·exact ev_if h3 (ev_now (by simp [h3]))
 exact ev_else h3 (Ev.bind (rof_ev hc) (ev_now (by simp [h2, h3])))
theorem low_all : ∀ n : Nat, n < 256 → nameOf (n : Int) = true → (n : Int) < 128 := by decide +kernel
theorem name_low {c : Int} (h : 0 ≤ c ∧ c < 256) : nameOf c = true → c < 128 := byte_all (p := fun c => nameOf c = true → c < 128) low_all h
theorem high_all : ∀ n : Nat, n < 256 → classOf (n : Int) = 9 → 128 ≤ (n : Int) := by decide +kernel
theorem class_high {c : Int} (h : 0 ≤ c ∧ c < 256) : classOf c = 9 → 128 ≤ c := byte_all (p := fun c => classOf c = 9 → 128 ≤ c) high_all h
theorem take_low {c : Int} (h : c < 128) (r : List Int) : takeS (c :: r) = (1, true) := by
 have e : uLong c = 1 := by unfold uLong; rw [if_pos h]
 rw [takeS_cons, e]; rfl
theorem take_high {c : Int} (h : 128 ≤ c) {r : List Int} (ho : (takeS (c :: r)).2 = true) : (takeS (c :: r)).1 > 1 := by
 rw [takeS_cons] at ho ⊢
 by_cases h0 : uLong c = 0
 ·rw [if_pos h0] at ho; cases ho
 rw [if_neg h0] at ho ⊢
 by_cases h1 : restOk (uLong c - 1) (uLo c) (uHi c) r = true
 ·rw [if_pos h1]
  have : uLong c ≠ 1 := by
   unfold uLong
   rw [if_neg (by omega)]
   split
   ·omega
   split
   ·omega
   split <;> omega
  simp only
  omega
 ·rw [if_neg h1] at ho; cases ho
theorem rname_loop (l : List Int) (hl : Bytes l) (hn : l.length ≤ 1000000) (N : Nat) : ∀ p : Nat, l.length - p < N → p ≤ l.length → Ev (fun k => tmesisref06_name.l0 k l (p : Int)) ((p + nameS (l.drop p) : Nat) : Int) := by
 induction N with
 | zero => intro p h; omega
 | succ N ih =>
  intro p hN hp
  have hml : (l.drop p).length = l.length - p := List.length_drop
  refine Ev.step (fun k => tmesisref06_name.l0.eq_2 ..) ?_
  have w1 : wrap64 ((p : Int) + 1) = ((p + 1 : Nat) : Int) := by rw [w64 (by omega) (by omega)]; omega
  match hm : l.drop p with
  | [] =>
   rw [hm] at hml
   simp only [List.length_nil] at hml
   refine ev_else (by omega) (ev_now ?_)
   rw [nameS_stop rfl]
   rfl
  | c :: r =>
   have hb : Bytes (c :: r) := by rw [← hm]; exact hl.drop _
   rw [hm] at hml
   simp only [List.length_cons] at hml
   have cut : ∀ n : Nat, l.drop (p + n) = (c :: r).drop n := fun n => by rw [← hm, List.drop_drop]
   have tp := take_pos c r
   simp only [List.length_cons] at tp
   refine ev_if (by omega) (ev_if (by omega) ?_)
   rw [rd_here hm, w1]
   refine Ev.bind (rnamec_ev hb.cons.1) ?_
   by_cases h3 : nameOf c = true
   ·refine ev_if h3 (ev_eq (ih (p + 1) (by omega) (by omega)) ?_)
    have es : stepN (c :: r) = 1 := by rw [stepN, take_low (name_low hb.cons.1 h3), if_pos ⟨rfl, fun _ => h3⟩]; rfl
    have e := nameS_go (s := c :: r) (by omega)
    rw [cut, e, es]
    omega
   refine ev_else h3 (ev_if (by omega) ?_)
   (try rw [show l.drop ((p : Int)).toNat = c :: r from hm])
   refine Ev.bind (urtake_ev _) ?_
   have stop : stepN (c :: r) = 0 → ((p : Nat) : Int) = ((p + nameS (c :: r) : Nat) : Int) := fun h => by rw [nameS_stop h]; rfl
   by_cases h1 : (takeS (c :: r)).2 = true
   ·refine ev_if h1 ?_
    by_cases h2 : (takeS (c :: r)).1 = 1
    ·exact ev_if h2 (ev_now (stop (by rw [stepN, if_neg (fun h => h3 (h.2 h2))])))
    ·refine ev_else h2 ?_
     have es : stepN (c :: r) = (takeS (c :: r)).1.toNat := by rw [stepN, if_pos ⟨h1, fun h => absurd h h2⟩]
     have e := nameS_go (s := c :: r) (by omega)
     have wn : wrap64 ((p : Int) + (takeS (c :: r)).1) = ((p + (takeS (c :: r)).1.toNat : Nat) : Int) := by rw [w64 (by omega) (by omega)]; omega
     rw [wn]
     refine ev_eq (ih (p + (takeS (c :: r)).1.toNat) (by omega) (by omega)) ?_
     rw [cut, e, es]
     omega
   ·exact ev_else h1 (ev_now (stop (by rw [stepN, if_neg (fun h => h1 h.1)])))
theorem rname_ev (l : List Int) (hl : Bytes l) (hn : l.length ≤ 1000000) : Ev (fun k => tmesisref06_name.f k l) (nameS l : Int) := by
 refine ev_eq (rname_loop l hl hn (l.length + 1) 0 (by omega) (by omega)) ?_
 simp
theorem ends_ev (c : Int) (r : List Int) (hb : Bytes (c :: r)) : Ev (fun k => tmesisref06_ends.f k (c :: r)) (endsS r) := by
 unfold tmesisref06_ends.f
 cases r with
 | nil => exact ev_if rfl (ev_now rfl)
 | cons d t =>
  refine ev_else (by simp only [List.length_cons]; omega) (ev_if (by simp only [List.length_cons]; omega) ?_)
  rw [show rd (c :: d :: t) 1 = d from rfl]
  refine Ev.bind (rof_ev hb.cons.2.cons.1) ?_
  by_cases h : classOf d = 1
  ·exact ev_if h (ev_now (by simp [endsS, h]))
  ·exact ev_else h (Ev.bind (rof_ev hb.cons.2.cons.1) (ev_now (by simp [endsS, h])))
/-- as_ the reference's 'first' tells it -/
def firstS (l : List Int) : Int × Int × Int × ByteArray × Int := ((tokS l).1, 0, (tokS l).2.1, (tokS l).2.2.1, (tokS l).2.2.2)
theorem tok_good {l : List Int} {kd sz : Int} {tx : ByteArray} (h : scanS (classOf (l.headD 0)) l = (kd, sz, tx, 0)) : firstS l = (kd, 0, sz, tx, 0) := by
 unfold firstS tokS; rw [h]; rfl
theorem tok_bad {l : List Int} {kd sz e : Int} {tx : ByteArray} (h : scanS (classOf (l.headD 0)) l = (kd, sz, tx, e)) (he : e ≠ 0) : firstS l = (8, 0, sz, ⟨#[]⟩, e) := by
 unfold firstS tokS; rw [h]; simp only; rw [if_neg he]
theorem first_ev (c : Int) (r : List Int) (hb : Bytes (c :: r)) (hn : (c :: r).length ≤ 1000000) : Ev (fun k => tmesisref06_first.f k (c :: r)) (firstS (c :: r)) := by
 unfold tmesisref06_first.f
 have hcb := hb.cons.1
 refine ev_if (by simp) ?_
 rw [show rd (c :: r) 0 = c from rfl]
 refine Ev.bind (rof_ev hcb) (Ev.bind (urtake_ev _) ?_)
 have hh : (c :: r).headD 0 = c := rfl
 have hnl := nameS_le ((c :: r).length + 1) (c :: r) (by omega)
 by_cases h2 : classOf c = 2
 ·refine ev_if h2 (Ev.step (fun k => tmesisref06_first.j0.eq_2 ..) (ev_if (by simp [h2]) (Ev.bind (rname_ev _ hb hn) (ev_else (by omega) (ev_if (by omega) (ev_if (by omega) (ev_now ?_)))))))
  rw [tok_good (kd := 1) (sz := (nameS (c :: r) : Int)) (tx := strOfNums ((c :: r).take (nameS (c :: r)))) (by rw [hh, scanS, if_pos h2])]
  rfl
 refine ev_else h2 (Ev.step (fun k => tmesisref06_first.j0.eq_2 ..) ?_)
 by_cases h3 : classOf c = 3
 ·refine ev_if (by simp [h3]) (Ev.bind (rname_ev _ hb hn) (ev_if h3 (ev_if (by omega) (ev_if (by omega) (ev_now ?_)))))
  rw [tok_good (kd := 3) (sz := (nameS (c :: r) : Int)) (tx := strOfNums ((c :: r).take (nameS (c :: r)))) (by rw [hh, scanS, if_neg h2, if_pos h3])]
  rfl
 refine ev_else (by simp [h3]) ?_
 by_cases h9 : classOf c = 9
 ·refine ev_if h9 ?_
  by_cases ho : (takeS (c :: r)).2 = true
  ·refine ev_if ho (ev_if (take_high (class_high hcb h9) ho) (Ev.bind (rname_ev _ hb hn) (ev_if (by omega) (ev_if (by omega) (ev_now ?_)))))
   rw [tok_good (kd := 1) (sz := (nameS (c :: r) : Int)) (tx := strOfNums ((c :: r).take (nameS (c :: r)))) (by rw [hh, scanS, if_neg h2, if_neg h3, if_pos h9, highS, if_pos ho])]
   rfl
  ·refine ev_else ho (ev_now ?_)
   rw [tok_bad (kd := 0) (sz := 1) (tx := ⟨#[]⟩) (e := 10) (by rw [hh, scanS, if_neg h2, if_neg h3, if_pos h9, highS, if_neg ho]) (by decide)]
 refine ev_else h9 ?_
 by_cases h5 : classOf c = 5
 ·refine ev_if h5 (Ev.bind (rrun_ev _ 5 (by omega) hb) ?_)
  have hrl := runS_le (c :: r) 5
  have hsc : scanS (classOf ((c :: r).headD 0)) (c :: r) = symbolS (c :: r) := by rw [hh, scanS, if_neg h2, if_neg h3, if_neg h9, if_pos h5]
  have two : ¬ ((c :: r).take (runS (c :: r) 5) = [46] ∧ endsS ((c :: r).drop (runS (c :: r) 5)) = true) → firstS (c :: r) = (2, 0, (runS (c :: r) 5 : Int), strOfNums ((c :: r).take (runS (c :: r) 5)), 0) := by
   intro h
   exact tok_good (by rw [hsc, symbolS, if_neg h])
  have fin : ¬ ((c :: r).take (runS (c :: r) 5) = [46] ∧ endsS ((c :: r).drop (runS (c :: r) 5)) = true) → Ev (fun _ => if 0 ≤ (runS (c :: r) 5 : Int) then (if (runS (c :: r) 5 : Int) ≤ ((c :: r).length : Int) then (some ((2 : Int), (0 : Int), (runS (c :: r) 5 : Int), strOfNums ((c :: r).take ((runS (c :: r) 5 : Int)).toNat), (0 : Int))) else none) else none) (firstS (c :: r)) := by
   intro h
   rw [two h]
   exact ev_if (by omega) (ev_if (by omega) (ev_now rfl))
  by_cases hr : runS (c :: r) 5 = 1
  ·refine ev_if (by omega) (ev_if (by simp) ?_)
   by_cases h46 : c = 46
   ·refine ev_if h46 (Ev.bind (ends_ev c r hb) ?_)
    by_cases he : endsS r = true
    ·refine ev_if he (ev_if (by omega) (ev_if (by omega) (ev_now ?_)))
     rw [tok_good (kd := 7) (sz := (runS (c :: r) 5 : Int)) (tx := strOfNums ((c :: r).take (runS (c :: r) 5))) (by rw [hsc, symbolS, if_pos ⟨by rw [hr, h46]; rfl, by rw [hr]; exact he⟩])]
     rfl
    ·exact ev_else he (fin (fun h => he (by have := h.2; rw [hr] at this; exact this)))
   ·refine ev_else h46 (fin (fun h => h46 ?_))
    have := h.1
    rw [hr] at this
    simpa using this
  ·refine ev_else (by omega) (fin (fun h => hr ?_))
   have := congrArg List.length h.1
   rw [List.length_take] at this
   simp only [List.length_cons, List.length_nil] at this hrl
   omega
 refine ev_else h5 ?_
 by_cases h4 : classOf c = 4
 ·refine ev_if h4 (Ev.bind (drtake_ev _ hb hn) ?_)
  have hrl := runS_le (c :: r) 4
  have e := takeD_le (c :: r)
  have hsc : scanS (classOf ((c :: r).headD 0)) (c :: r) = numberS (c :: r) := by rw [hh, scanS, if_neg h2, if_neg h3, if_neg h9, if_neg h5, if_pos h4]
  by_cases he : (takeD (c :: r)).2.2 = 0
  ·refine ev_if he (ev_if (by omega) (ev_if (by omega) (ev_now ?_)))
   rw [tok_good (hsc.trans (by rw [numberS, he]))]
  ·refine ev_else he (ev_now ?_)
   rw [tok_bad (hsc.trans (by rw [numberS])) he]
 refine ev_else h4 ?_
 by_cases h7 : classOf c = 7
 ·refine ev_if h7 (Ev.bind (rquote_ev _ hb hn) ?_)
  have hsc : scanS (classOf ((c :: r).headD 0)) (c :: r) = quotedS (c :: r) := by rw [hh, scanS, if_neg h2, if_neg h3, if_neg h9, if_neg h5, if_neg h4, if_pos h7]
  by_cases he : (quoteS (c :: r)).2.2 = 0
  ·refine ev_if he (ev_now ?_)
   rw [tok_good (hsc.trans (by rw [quotedS, he]))]
  ·refine ev_else he (ev_now ?_)
   rw [tok_bad (hsc.trans (by rw [quotedS])) he]
 refine ev_else h7 ?_
 by_cases h6 : classOf c = 6
 ·refine ev_if h6 (ev_if (by simp only [List.length_cons]; omega) (ev_now ?_))
  rw [tok_good (kd := 6) (sz := 1) (tx := strOfNums ((c :: r).take 1)) (by rw [hh, scanS, if_neg h2, if_neg h3, if_neg h9, if_neg h5, if_neg h4, if_neg h7, if_pos h6])]
 ·refine ev_else h6 (ev_now ?_)
  rw [tok_bad (kd := 0) (sz := 1) (tx := ⟨#[]⟩) (e := 11) (by rw [hh, scanS, if_neg h2, if_neg h3, if_neg h9, if_neg h5, if_neg h4, if_neg h7, if_neg h6]) (by decide)]
theorem tokS_le (l : List Int) : (tokS l).2.1 = (scanS (classOf (l.headD 0)) l).2.1 := by
 unfold tokS
 split <;> rfl
theorem rnext_ev (l : List Int) (hl : Bytes l) (hn : l.length ≤ 1000000) (a : Int) : Ev (fun k => tmesisref06_Next.f k l a) (nextS l a) := by
 unfold tmesisref06_Next.f nextS
 by_cases h1 : a < 0
 ·rw [if_pos (.inl h1)]; exact ev_if h1 (Ev.step (fun k => tmesisref06_Next.j0.eq_2 ..) (ev_if rfl (ev_now rfl)))
 refine ev_else h1 (Ev.step (fun k => tmesisref06_Next.j0.eq_2 ..) ?_)
 by_cases h2 : a > (l.length : Int)
 ·rw [if_pos (.inr h2)]; exact ev_if (decide_eq_true h2) (ev_now rfl)
 refine ev_else (by rw [decide_eq_false h2]; simp) (ev_if (by omega) (ev_if (by omega) ?_))
 rw [if_neg (fun h => h.elim h1 h2)]
 obtain ⟨p, rfl⟩ : ∃ p : Nat, a = (p : Int) := ⟨a.toNat, by omega⟩
 rw [show ((p : Int)).toNat = p from rfl]
 have hd := hl.drop p
 have hml : (l.drop p).length = l.length - p := List.length_drop
 refine Ev.bind (rskip_ev _ hd (by omega)) ?_
 have hsl := skipS_le ((l.drop p).length + 1) (l.drop p) (by omega)
 unfold behindS
 generalize hS : skipS (l.drop p) = S at hsl
 obtain ⟨n, e⟩ := S
 simp only at hsl ⊢
 have wn : wrap64 ((p : Int) + (n : Int)) = ((p + n : Nat) : Int) := by rw [w64 (by omega) (by omega)]; omega
 rw [wn]
 by_cases he : e = 0
 ·refine ev_if he ?_
  rw [if_neg (by simp [he])]
  have hml2 : (l.drop (p + n)).length = l.length - (p + n) := List.length_drop
  match hm : l.drop (p + n) with
  | [] =>
   rw [hm] at hml2
   simp only [List.length_nil] at hml2
   rw [if_pos rfl]
   exact ev_if (by omega) (ev_now rfl)
  | c :: r =>
   rw [hm] at hml2
   simp only [List.length_cons] at hml2
   rw [if_neg (by simp)]
   refine ev_else (by omega) (ev_if (by omega) (ev_if (by omega) ?_))
   (try rw [show l.drop (((p + n : Nat) : Int)).toNat = c :: r from hm])
   have hb : Bytes (c :: r) := by rw [← hm]; exact hl.drop _
   refine Ev.bind (first_ev c r hb (by simp only [List.length_cons]; omega)) ?_
   have hsz := scanS_le (classOf ((c :: r).headD 0)) (l := c :: r) (by simp)
   rw [← tokS_le] at hsz
   simp only [List.length_cons] at hsz
   have ws : wrap64 (((p + n : Nat) : Int) + (tokS (c :: r)).2.1) = ((p + n : Nat) : Int) + (tokS (c :: r)).2.1 := by rw [w64 (by omega) (by omega)]
   unfold firstS
   simp only
   rw [ws]
   exact ev_now rfl
 ·rw [if_pos he]
  exact ev_else he (ev_now rfl)
end Go.Proofs.YtdejidhgeefmeaaDoor.P
namespace Go.Proofs.YtdejidhgeefmeaaDoor.P
set_option linter.unusedSimpArgs false
set_option linter.unusedVariables false
open Go.RowKit Go.Proofs.YtdejidhgeefmeaaDoor.P Go.Proofs.YtdejidhgeefmeaaDoorW.PrintWords Go.Proofs.YtdejidhgeefmeaaDoorW.PrintLast Go.Proofs.YtdejidhgeefmeaaDoorW.PrintMore
theorem rput_loop (l : List Int) (hn : l.length ≤ 10000) (m : List Int) : ∀ (p : Nat) (acc : List Int), m = l.drop p → p ≤ l.length → Bytes acc → Bytes m → acc.length + 2 * m.length ≤ 100000 →
  Ev (fun k => tmesisref04_Put.l0 k l acc (p : Int)) (if (quoteS (acc ++ (encsQ m ++ [39]))).2.2 = 0 then (acc ++ (encsQ m ++ [39]), (0 : Int)) else ([], 1)) := by
 induction m with
 | nil =>
  intro p acc hm hp ha _ hl
  have hlen : l.length - p = 0 := by have := congrArg List.length hm; simpa using this.symm
  refine Ev.step (fun k => tmesisref04_Put.l0.eq_2 ..) (ev_else (by omega) (ev_if (by simp at hl; omega) (ev_let ?_)))
  have hb : Bytes (acc ++ [39]) := qapp ha (fun x hx => by simp at hx; omega)
  refine Ev.bind (rquote_ev _ hb (by simp at hl ⊢; omega)) ?_
  show Ev _ (if (quoteS (acc ++ [39])).2.2 = 0 then (acc ++ [39], (0 : Int)) else ([], 1))
  exact ev_ite (fun _ => Ev.now _) (fun _ => Ev.now _)
 | cons c r ih =>
  intro p acc hm hp ha hb hl
  have hlen : (c :: r).length = l.length - p := by rw [hm, List.length_drop]
  simp only [List.length_cons] at hlen hl
  have hr : r = l.drop (p + 1) := by rw [← List.drop_drop, ← hm]; rfl
  obtain ⟨hc, hbr⟩ := hb.cons
  have w1 : wrap64 ((p : Int) + 1) = ((p + 1 : Nat) : Int) := by rw [w64 (by omega) (by omega)]; omega
  have hrd : rd l (p : Int) = c := rd_here hm.symm
  have key : ∀ a2 : List Int, a2 = acc ++ encQ c → Ev (fun k => tmesisref04_Put.l0 k l a2 (wrap64 ((p : Int) + 1))) (if (quoteS (acc ++ (encsQ (c :: r) ++ [39]))).2.2 = 0 then (acc ++ (encsQ (c :: r) ++ [39]), (0 : Int)) else ([], 1)) := by
   intro a2 e
   subst e
   have hle := encQ_len c
   have h := ih (p + 1) (acc ++ encQ c) hr (by omega) (qapp ha (encQ_byte hc)) hbr (by rw [List.length_append]; omega)
   rw [w1]
   rw [encsQ_cons, List.append_assoc, ← List.append_assoc acc]
   exact h
  refine Ev.step (fun k => tmesisref04_Put.l0.eq_2 ..) (ev_if (by omega) (ev_if (by omega) ?_))
  rw [hrd]
  by_cases h1 : c = 39
  ·subst h1
   refine ev_if rfl (Ev.step (fun k => tmesisref04_Put.j1.eq_2 ..) (ev_if rfl (ev_if (by omega) (ev_let (ev_else (by decide) (ev_if (by simp; omega) ?_))))))
   exact key _ (by simp [encQ])
  by_cases h2 : c = 92
  ·subst h2
   refine ev_else h1 (Ev.step (fun k => tmesisref04_Put.j1.eq_2 ..) (ev_if rfl (ev_if (by omega) (ev_let (ev_else (by decide) (ev_if (by simp; omega) ?_))))))
   exact key _ (by simp [encQ])
  refine ev_else h1 (Ev.step (fun k => tmesisref04_Put.j1.eq_2 ..) (ev_else (by simp [h2]) ?_))
  by_cases h3 : c = 10
  ·subst h3
   refine ev_if rfl (ev_if (by omega) (ev_let (ev_if (by simp; omega) ?_)))
   exact key _ (by simp [encQ])
  ·refine ev_else h3 (ev_if (by omega) ?_)
   exact key _ (by rw [encQ_plain h1 h2 h3])
theorem rput_ev (l : List Int) (hl : Bytes l) (hn : l.length ≤ 10000) : Ev (fun k => tmesisref04_Put.f k l) (putS l) := by
 rw [← putS_if l]
 exact rput_loop l hn l 0 [39] rfl (Nat.zero_le _) (fun x hx => by simp at hx; omega) hl (by simp; omega)
end Go.Proofs.YtdejidhgeefmeaaDoor.P
namespace Go.Proofs.YtdejidhgeefmeaaDoor.P
set_option linter.unusedSimpArgs false
set_option linter.unusedVariables false
open Go.RowKit Go.Proofs.YtdejidhgeefmeaaDoor.P Go.Proofs.YtdejidhgeefmeaaDoorW.PrintWords Go.Proofs.YtdejidhgeefmeaaDoorW.PrintLast Go.Proofs.YtdejidhgeefmeaaDoorW.PrintMore
theorem jdrop {l r : List TokR} {t : TokR} {i : Nat} (h : l.drop i = t :: r) : i < l.length ∧ rd_T34 l (i : Int) = t ∧ l.drop (i + 1) = r := by
 have hl : (l.drop i).length = r.length + 1 := by rw [h]; rfl
 rw [List.length_drop] at hl
 have h2 : l[i]? = some t := by rw [← List.head?_drop, h]; rfl
 refine ⟨by omega, ?_, by rw [← List.drop_drop, h]; rfl⟩
 show l.getD i _ = t
 rw [List.getD_eq_getElem?_getD, h2]; rfl
theorem jw64 {i : Nat} (h : i ≤ 1000000000) : wrap64 ((i : Int) + 1) = ((i + 1 : Nat) : Int) := by rw [w64 (by omega) (by omega)]; omega
theorem rlexAll_loop (l : List Int) (hl : Bytes l) (hn : l.length ≤ 1000000) (N : Nat) : ∀ (p : Nat) (acc : List TokR), l.length - p < N → p ≤ l.length → acc.length ≤ p →
  Ev (fun k => tmesisref07_All.l0 k l acc (p : Int)) (acc ++ (lexS (l.drop p)).map (shiftT p)) := by
 induction N with
 | zero => intro p acc h; omega
 | succ N ih =>
  intro p acc hN hp ha
  refine Ev.step (fun k => tmesisref07_All.l0.eq_2 ..) (Ev.bind (rnext_ev l hl hn (p : Int)) ?_)
  rw [next_head l p hp]
  cases hh : headT (l.drop p) with
  | none =>
   rw [lexS_none hh]
   exact ev_else (by simp [noTok]) (ev_now (by simp))
  | some q =>
   obtain ⟨n, t⟩ := q
   have hb := headT_bd (hl.drop p) hh
   rw [List.length_drop] at hb
   rw [lexS_some (hl.drop p) hh, List.drop_drop]
   refine ev_if rfl (ev_if (by omega) ?_)
   have e2 : t.f2 + (p : Int) = ((p + n : Nat) : Int) := by omega
   simp only
   rw [e2]
   refine ev_eq (ih (p + n) _ (by omega) (by omega) (by simp; omega)) ?_
   rw [List.append_assoc, List.singleton_append, List.map_cons, map_shift]
   congr 2
   exact TokR.same rfl rfl (by show ((p + n : Nat) : Int) = t.f2 + (p : Int); omega) rfl rfl
theorem rlexAll_ev (l : List Int) (hl : Bytes l) (hn : l.length ≤ 1000000) : Ev (fun k => tmesisref07_All.f k l) (lexS l) := by
 have h := rlexAll_loop l hl hn (l.length + 1) 0 [] (by omega) (by omega) (by simp)
 rw [List.drop_zero, List.nil_append, map_zero] at h
 exact h
theorem tx_bytes (s : ByteArray) : Bytes (tx s) := by
 intro x hx
 obtain ⟨b, _, rfl⟩ := List.mem_map.1 (show x ∈ s.data.toList.map fun b : UInt8 => (b.toNat : Int) from hx)
 have := b.toNat_lt
 omega
/-- the bytes, if all quotes can be put -/
noncomputable def rsK : List Int → List Key → Option (List Int)
 | acc, [] => some acc
 | acc, q :: r => if q.1 = 5 ∧ ¬ goodQ q.2 then none else rsK (acc ++ rendK q) r
noncomputable def joinG (o : Option (List Int)) (L : List Key) : List Int × Int :=
 match o with
 | none => ([], 1)
 | some x => if eqT ((lexS x).map key) L = true then (x, 0) else ([], 1)
theorem gbytes_good {k : Int} {s : ByteArray} (hs : s.size ≤ 30) (h : ¬ (k = 5 ∧ ¬ goodQ (tx s))) (a1 a2 a4 : Int) : Ev (fun n => lex_bytes.f n k a1 a2 s a4) (rendB k (tx s), (0 : Int)) := by
 have hb := tx_bytes s
 unfold lex_bytes.f
 refine ev_if (by omega) ?_
 by_cases h5 : k = 5
 ·have hg : goodQ (tx s) := Classical.not_not.1 fun hg => h ⟨h5, hg⟩
  have hp : putS (tx s) = (putQ (tx s), 0) := by unfold putS; rw [if_pos hg]
  have hl := putQ_len (tx s)
  have hl2 := (encsQ_len (tx s)).2
  have hl3 := tx_len s
  refine ev_if h5 (Ev.bind (ev_eq (put_ev (tx s) hb (by omega)) hp) (ev_if (by simp only; omega) (ev_now ?_)))
  unfold rendB body sepB
  rw [if_pos h5, if_neg (by omega)]
 ·by_cases h7 : k = 7
  ·refine ev_else h5 (ev_if h7 (ev_now ?_))
   unfold rendB body sepB
   rw [if_neg h5, if_pos h7]; rfl
  ·refine ev_else h5 (ev_else h7 (ev_now ?_))
   unfold rendB body sepB
   rw [if_neg h5, if_neg h7]; rfl
theorem gbytes_bad {k : Int} {s : ByteArray} (hs : s.size ≤ 30) (h : k = 5 ∧ ¬ goodQ (tx s)) (a1 a2 a4 : Int) : Ev (fun n => lex_bytes.f n k a1 a2 s a4) ([32], (1 : Int)) := by
 have hb := tx_bytes s
 have hl3 := tx_len s
 unfold lex_bytes.f
 have hp : putS (tx s) = ([], 1) := by unfold putS; rw [if_neg h.2]
 exact ev_if (by omega) (ev_if h.1 (Ev.bind (ev_eq (put_ev (tx s) hb (by omega)) hp) (ev_if (by simp) (ev_now rfl))))
theorem gjoin_loop (L : List TokR) (hs : ∀ t ∈ L, t.f3.size ≤ 30) (hL : L.length ≤ 40) (r : List TokR) : ∀ (i : Nat) (acc : List Int), L.drop i = r → i ≤ L.length → Bytes acc → acc.length ≤ 100 * i →
  Ev (fun k => lex_Join.l0 k L acc L (L.length : Int) (i : Int)) (joinG (rsK acc (r.map key)) (L.map key)) := by
 induction r with
 | nil =>
  intro i acc h hi hb ha
  have : L.length - i = 0 := by have := congrArg List.length h; simpa using this
  refine Ev.step (fun k => lex_Join.l0.eq_2 ..) (ev_else (by omega) (Ev.bind (lexAll_ev _ hb (by omega)) ?_))
  have hll := lexS_len _ acc (Nat.lt_succ_self _) hb
  exact Ev.bind (equal_ev _ L (by omega)) (ev_ite (fun _ => Ev.now _) (fun _ => Ev.now _))
 | cons t r ih =>
  intro i acc h hi hb ha
  obtain ⟨h1, h2, h3⟩ := jdrop h
  have hst : t.f3.size ≤ 30 := hs t (by rw [← List.take_append_drop i L, h]; simp)
  refine Ev.step (fun k => lex_Join.l0.eq_2 ..) (ev_if (by omega) (ev_if (by omega) (ev_if (by omega) ?_)))
  rw [h2]
  have hrl := rend_len t.f0 (tx t.f3)
  rw [tx_len] at hrl
  rw [List.map_cons]
  by_cases hbad : t.f0 = 5 ∧ ¬ goodQ (tx t.f3)
  ·refine Ev.bind (gbytes_bad hst hbad _ _ _) (ev_else (by decide) (ev_now ?_))
   unfold rsK
   rw [if_pos (show (key t).1 = 5 ∧ ¬ goodQ (key t).2 from hbad)]; rfl
  ·refine Ev.bind (gbytes_good hst hbad _ _ _) (ev_if rfl (ev_if (by simp only; omega) ?_))
   rw [jw64 (by omega)]
   refine ev_eq (ih (i + 1) _ h3 (by omega) (qapp hb (rend_byte (tx_bytes _))) (by show (acc ++ rendB t.f0 (tx t.f3)).length ≤ 100 * (i + 1); rw [List.length_append]; omega)) ?_
   rw [rsK, if_neg (show ¬ ((key t).1 = 5 ∧ ¬ goodQ (key t).2) from hbad)]; rfl
theorem gjoin_ev (L : List TokR) (hs : ∀ t ∈ L, t.f3.size ≤ 30) (hL : L.length ≤ 40) : Ev (fun k => lex_Join.f k L) (joinG (rsK [] (L.map key)) (L.map key)) :=
 gjoin_loop L hs hL L 0 [] rfl (Nat.zero_le _) (fun x hx => by cases hx) (Nat.zero_le _)
theorem ralike_loop (a b : List TokR) (hab : a.length = b.length) (hn : a.length ≤ 1000000) (d : Nat) : ∀ i : Nat, i + d = a.length → Ev (fun k => tmesisref07_Alike.l0 k a b (i : Int)) (eqT ((a.drop i).map key) ((b.drop i).map key)) := by
 induction d with
 | zero =>
  intro i h
  refine Ev.step (fun k => tmesisref07_Alike.l0.eq_2 ..) (ev_else (by omega) (ev_now ?_))
  rw [List.drop_of_length_le (by omega), List.drop_of_length_le (by omega)]; rfl
 | succ d ih =>
  intro i h
  have hi : i < a.length := by omega
  have hj : i < b.length := by omega
  refine Ev.step (fun k => tmesisref07_Alike.l0.eq_2 ..) (ev_if (by omega) (ev_if (by omega) (ev_if (by omega) ?_)))
  rw [rdT_eq a i hi, rdT_eq b i hj, List.drop_eq_getElem_cons hi, List.drop_eq_getElem_cons hj, List.map_cons, List.map_cons]
  have hnext := ih (i + 1) (by omega)
  rw [jw64 (by omega)]
  generalize a[i] = x at *
  generalize b[i] = y at *
  generalize (a.drop (i + 1)).map key = A at *
  generalize (b.drop (i + 1)).map key = B at *
  have no : ¬ (key x = key y) → eqT (key x :: A) (key y :: B) = false := by
   intro h
   unfold eqT
   rw [decide_eq_false (fun e => h (List.cons.inj e).1)]; rfl
  have keyeq : key x = key y ↔ x.f0 = y.f0 ∧ x.f3.toList = y.f3.toList := by
   rw [tx_eq]
   unfold key
   rw [Prod.mk.injEq]
  by_cases h0 : x.f0 = y.f0
  ·by_cases h3 : x.f3.toList = y.f3.toList
   ·have hk := keyeq.2 ⟨h0, h3⟩
    by_cases h8 : x.f0 = 8
    ·refine ev_if h0 (ev_if h3 (ev_if h8 (ev_now ?_)))
     unfold eqT
     rw [List.all_cons, show (!((key x).1 == 8)) = false by show (!(x.f0 == 8)) = false; simp [h8], Bool.false_and, Bool.and_false]
    ·refine ev_if h0 (ev_if h3 (ev_else h8 (ev_eq hnext ?_)))
     unfold eqT
     rw [List.all_cons, show (!((key x).1 == 8)) = true by show (!(x.f0 == 8)) = true; simp [h8], Bool.true_and, hk]
     congr 1
     by_cases e : A = B
     ·rw [decide_eq_true e, decide_eq_true (by rw [e])]
     ·rw [decide_eq_false e, decide_eq_false (fun h => e (List.cons.inj h).2)]
   ·exact ev_if h0 (ev_else h3 (ev_now (no (fun h => h3 (keyeq.1 h).2)).symm))
  ·exact ev_else h0 (ev_now (no (fun h => h0 (keyeq.1 h).1)).symm)
theorem ralike_ev (a b : List TokR) (hn : a.length ≤ 1000000) : Ev (fun k => tmesisref07_Alike.f k a b) (eqT (a.map key) (b.map key)) := by
 unfold tmesisref07_Alike.f
 by_cases h : a.length = b.length
 ·have := ralike_loop a b h hn a.length 0 (by omega)
  rw [List.drop_zero, List.drop_zero] at this
  exact ev_if (by omega) this
 ·refine ev_else (by omega) (ev_now ?_)
  unfold eqT
  rw [decide_eq_false (fun e => h (by have := congrArg List.length e; simpa using this))]; rfl
theorem rjoin_loop (L : List TokR) (hs : ∀ t ∈ L, t.f3.size ≤ 30) (hL : L.length ≤ 40) (r : List TokR) : ∀ (i : Nat) (acc : List Int), L.drop i = r → i ≤ L.length → Bytes acc → acc.length ≤ 100 * i →
  Ev (fun k => tmesisref07_Join.l0 k L acc (i : Int)) (joinG (rsK acc (r.map key)) (L.map key)) := by
 induction r with
 | nil =>
  intro i acc h hi hb ha
  have : L.length - i = 0 := by have := congrArg List.length h; simpa using this
  refine Ev.step (fun k => tmesisref07_Join.l0.eq_2 ..) (ev_else (by omega) (Ev.bind (rlexAll_ev _ hb (by omega)) ?_))
  have hll := lexS_len _ acc (Nat.lt_succ_self _) hb
  exact Ev.bind (ralike_ev _ L (by omega)) (ev_ite (fun _ => Ev.now _) (fun _ => Ev.now _))
 | cons t r ih =>
  intro i acc h hi hb ha
  obtain ⟨h1, h2, h3⟩ := jdrop h
  have hst : t.f3.size ≤ 30 := hs t (by rw [← List.take_append_drop i L, h]; simp)
  refine Ev.step (fun k => tmesisref07_Join.l0.eq_2 ..) (ev_if (by omega) (ev_if (by omega) ?_))
  rw [h2]
  refine ev_if (by omega) (ev_let ?_)
  have hrl := rend_len t.f0 (tx t.f3)
  rw [tx_len] at hrl
  have hxl := tx_len t.f3
  have hbl : (body t.f0 (tx t.f3)).length + 1 = (rendB t.f0 (tx t.f3)).length := by unfold rendB; rw [List.length_append]; rfl
  rw [List.map_cons]
  have next : ¬ (t.f0 = 5 ∧ ¬ goodQ (tx t.f3)) → ∀ x : List Int, x = acc ++ rendB t.f0 (tx t.f3) → Ev (fun k => tmesisref07_Join.l0 k L x (wrap64 ((i : Int) + 1))) (joinG (rsK acc (key t :: r.map key)) (L.map key)) := by
   intro hbad x hx
   subst hx
   rw [jw64 (by omega)]
   refine ev_eq (ih (i + 1) _ h3 (by omega) (qapp hb (rend_byte (tx_bytes _))) (by rw [List.length_append]; omega)) ?_
   rw [rsK, if_neg (show ¬ ((key t).1 = 5 ∧ ¬ goodQ (key t).2) from hbad)]; rfl
  have fin : ¬ (t.f0 = 5 ∧ ¬ goodQ (tx t.f3)) → ∀ y : List Int, y = body t.f0 (tx t.f3) → Ev (fun k => if acc.length + y.length < 140737488355328 then ((some (acc ++ y : List Int)).bind fun y423 => (if t.f0 = 7 then (if y423.length < 140737488355328 then (tmesisref07_Join.l0 k L (y423 ++ [10]) (wrap64 ((i : Int) + 1))) else (none)) else (if y423.length < 140737488355328 then (tmesisref07_Join.l0 k L (y423 ++ [32]) (wrap64 ((i : Int) + 1))) else (none)))) else (none)) (joinG (rsK acc (key t :: r.map key)) (L.map key)) := by
   intro hbad y hy
   subst hy
   refine ev_if (by omega) (ev_let ?_)
   by_cases h7 : t.f0 = 7
   ·refine ev_if h7 (ev_if (by rw [List.length_append]; omega) (next hbad _ ?_))
    unfold rendB sepB
    rw [if_pos h7, List.append_assoc]
   ·refine ev_else h7 (ev_if (by rw [List.length_append]; omega) (next hbad _ ?_))
    unfold rendB sepB
    rw [if_neg h7, List.append_assoc]
  by_cases h5 : t.f0 = 5
  ·refine ev_if h5 ?_
   by_cases hg : goodQ (tx t.f3)
   ·have hp : putS (tx t.f3) = (putQ (tx t.f3), 0) := by unfold putS; rw [if_pos hg]
    refine Ev.bind (ev_eq (rput_ev (tx t.f3) (tx_bytes _) (by omega)) hp) (ev_if rfl ?_)
    exact fin (fun h => h.2 hg) _ (by unfold body; rw [if_pos h5])
   ·have hp : putS (tx t.f3) = ([], 1) := by unfold putS; rw [if_neg hg]
    refine Ev.bind (ev_eq (rput_ev (tx t.f3) (tx_bytes _) (by omega)) hp) (ev_else (by decide) (ev_now ?_))
    rw [rsK, if_pos (show (key t).1 = 5 ∧ ¬ goodQ (key t).2 from ⟨h5, hg⟩)]; rfl
  ·refine ev_else h5 ?_
   exact fin (fun h => h5 h.1) _ (by unfold body; rw [if_neg h5]; rfl)
theorem rjoin_ev (L : List TokR) (hs : ∀ t ∈ L, t.f3.size ≤ 30) (hL : L.length ≤ 40) : Ev (fun k => tmesisref07_Join.f k L) (joinG (rsK [] (L.map key)) (L.map key)) :=
 rjoin_loop L hs hL L 0 [] rfl (Nat.zero_le _) (fun x hx => by cases hx) (Nat.zero_le _)
end Go.Proofs.YtdejidhgeefmeaaDoor.P
namespace Go.Proofs.YtdejidhgeefmeaaDoor.Pure
set_option linter.unusedSimpArgs false
set_option linter.unusedVariables false
open Go.RowKit Go.Proofs.YtdejidhgeefmeaaDoor.P Go.Proofs.YtdejidhgeefmeaaDoorW.PrintWords Go.Proofs.YtdejidhgeefmeaaDoorW.PrintLast
def cutT (t : TokR) : TokR := ⟨t.f0, t.f1, t.f2, t.f3.extract 0 (min t.f3.size 30), t.f4⟩
theorem shortT_loop (L : List TokR) (r : List TokR) : ∀ (i : Nat) (acc : List TokR), (L.take 40).drop i = r → i ≤ L.length → acc.length = i → i ≤ 40 → Ev (fun k => tmesislaw07_short.l0 k L acc (i : Int)) (acc ++ r.map cutT) := by
 induction r with
 | nil =>
  intro i acc h hi ha h40
  have hl : min 40 L.length - i = 0 := by have := congrArg List.length h; simpa using this
  rw [List.map_nil, List.append_nil]
  refine Ev.step (fun k => tmesislaw07_short.l0.eq_2 ..) ?_
  by_cases h1 : i < L.length
  ·exact ev_if (by omega) (ev_else (by omega) (Ev.now _))
  ·exact ev_else (by omega) (Ev.now _)
 | cons t r ih =>
  intro i acc h hi ha h40
  obtain ⟨h1, _, h3⟩ := jdrop h
  rw [List.length_take] at h1
  have h2 : rd_T34 L (i : Int) = t := by
   have e : (L.take 40)[i]? = some t := by rw [← List.head?_drop, h]; rfl
   rw [List.getElem?_take, if_pos (by omega)] at e
   show L.getD i _ = t
   rw [List.getD_eq_getElem?_getD, e]; rfl
  refine Ev.step (fun k => tmesislaw07_short.l0.eq_2 ..) (ev_if (by omega) (ev_if (by omega) (ev_if (by omega) ?_)))
  rw [h2]
  have hm : mn (t.f3.size : Int) 30 = ((min t.f3.size 30 : Nat) : Int) := by unfold mn; split <;> omega
  rw [hm]
  refine ev_if (by omega) (ev_if (by omega) (ev_if (by omega) ?_))
  rw [jw64 (by omega)]
  refine ev_eq (ih (i + 1) _ h3 (by omega) (by simp [ha]) (by omega)) ?_
  rw [List.map_cons, List.append_assoc]; rfl
theorem shortT_ev (L : List TokR) : Ev (fun k => tmesislaw07_short.f k L) ((L.take 40).map cutT) := by
 have := shortT_loop L (L.take 40) 0 [] rfl (Nat.zero_le _) rfl (by omega)
 rw [List.nil_append] at this
 exact this
theorem LexAll : tmesislaw07_LexAll.Pure := by
 intro l m hl _
 have hb := (bytes_wf hl.2.2).take 200
 have hln : (l.take 200).length ≤ 200 := by rw [List.length_take]; omega
 have hs : ∀ t ∈ (m.take 40).map cutT, t.f3.size ≤ 30 := by
  intro t ht
  obtain ⟨u, _, rfl⟩ := List.mem_map.1 ht
  show (u.f3.extract 0 (min u.f3.size 30)).size ≤ 30
  rw [ByteArray.size_extract]; omega
 have hL : ((m.take 40).map cutT).length ≤ 40 := by rw [List.length_map, List.length_take]; omega
 have hll := lexS_len _ (l.take 200) (Nat.lt_succ_self _) hb
 apply Ev.rounds
 unfold tmesislaw07_LexAll.f
 refine Ev.bind shown_ev (Ev.bind (shortT_ev m) (Ev.bind (gjoin_ev _ hs hL) (Ev.bind (shortT_ev m) (Ev.bind (rjoin_ev _ hs hL) (ev_if rfl ?_)))))
 refine ev_same (few_eq l) (Ev.bind (lexAll_ev _ hb (by omega)) (ev_same (few_eq l) (Ev.bind (rlexAll_ev _ hb (by omega)) (Ev.bind (same_ev (by omega) rfl) (ev_if rfl (ev_if rfl (ev_now ?_)))))))
 simp
end Go.Proofs.YtdejidhgeefmeaaDoor.Pure
