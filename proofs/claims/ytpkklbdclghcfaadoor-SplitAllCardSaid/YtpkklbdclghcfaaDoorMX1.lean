/- Part of the proof: what the theorem needs of this text. -/
import Derived.Test.YtpkklbdclghcfaaDoorKHCM
import Derived.Test.YtpkklbdclghcfaaDoorKHG
import Derived.Test.YtpkklbdclghcfaaDoorKHIB
import Derived.Test.YtpkklbdclghcfaaDoorKHSC
import Derived.Test.YtpkklbdclghcfaaDoorKHTX
import Derived.Test.YtpkklbdclghcfaaDoorKPx10
import Derived.Test.YtpkklbdclghcfaaDoorKPx11
import Derived.Test.YtpkklbdclghcfaaDoorKPx12
import Derived.Test.YtpkklbdclghcfaaDoorKPx13
import Derived.Test.YtpkklbdclghcfaaDoorKPx14
import Derived.Test.YtpkklbdclghcfaaDoorKPx15
import Derived.Test.YtpkklbdclghcfaaDoorKPx16
import Derived.Test.YtpkklbdclghcfaaDoorKPx17
import Derived.Test.YtpkklbdclghcfaaDoorKPx18
import Derived.Test.YtpkklbdclghcfaaDoorKPx19
import Derived.Test.YtpkklbdclghcfaaDoorKPx20
import Derived.Test.YtpkklbdclghcfaaDoorKPx3
import Derived.Test.YtpkklbdclghcfaaDoorKPx4
import Derived.Test.YtpkklbdclghcfaaDoorKPx5
import Derived.Test.YtpkklbdclghcfaaDoorKPx6
import Derived.Test.YtpkklbdclghcfaaDoorKPx7
import Derived.Test.YtpkklbdclghcfaaDoorKPx8
import Derived.Test.YtpkklbdclghcfaaDoorKPx9
import Derived.Test.YtpkklbdclghcfaaDoorMW1
namespace Go.Proofs.YtpkklbdclghcfaaDoor.P
set_option linter.unusedSimpArgs false
set_option linter.unusedVariables false
open Go.RowKit Go.Proofs.YtpkklbdclghcfaaDoorW.PrintWords Go.Proofs.YtpkklbdclghcfaaDoorW.PrintLast Go.Proofs.YtpkklbdclghcfaaDoorW.PrintMore
section
variable {α β : Type}
theorem ev_if {c : Prop} [Decidable c] {a b : Nat → Option α} {r : α} (hc : c) (h : Ev a r) : Ev (fun k => if c then a k else b k) r := by simpa only [if_pos hc] using h
theorem ev_else {c : Prop} [Decidable c] {a b : Nat → Option α} {r : α} (hc : ¬ c) (h : Ev b r) : Ev (fun k => if c then a k else b k) r := by simpa only [if_neg hc] using h
theorem ev_let {y : β} {f : Nat → β → Option α} {r : α} (h : Ev (fun k => f k y) r) : Ev (fun k => (some y).bind (f k)) r := h
theorem ev_same {o : Option β} {y : β} {f : Nat → β → Option α} {r : α} (ho : o = some y) (h : Ev (fun k => f k y) r) : Ev (fun k => o.bind (f k)) r := by subst ho; exact h
theorem ev_eq {g : Nat → Option α} {r r' : α} (h : Ev g r) (e : r = r') : Ev g r' := e ▸ h
theorem ev_now {r r' : α} (e : r = r') : Ev (fun _ => some r) r' := e ▸ Ev.now r
end
theorem w64 {i : Int} (h0 : -9223372036854775808 ≤ i) (h1 : i ≤ 9223372036854775807) : wrap64 i = i := by unfold wrap64; omega
theorem mn_le (n : Nat) (m : Int) (hm : 0 ≤ m) : (mn (n : Int) m).toNat = min n m.toNat := by unfold mn; split <;> omega
end Go.Proofs.YtpkklbdclghcfaaDoor.P
namespace Go.Proofs.YtpkklbdclghcfaaDoor.P
set_option linter.unusedSimpArgs false
set_option linter.unusedVariables false
open Go.RowKit Go.Proofs.YtpkklbdclghcfaaDoorW.PrintWords Go.Proofs.YtpkklbdclghcfaaDoorW.PrintLast Go.Proofs.YtpkklbdclghcfaaDoorW.PrintMore
/-- what may stand in a name -/
def nameOf (c : Int) : Bool := classOf c == 2 || classOf c == 3 || classOf c == 4
theorem class_of (c : Int) : class_Of.f c = some (classOf c) := rfl
/-- how many first bytes are of a class -/
def runS (l : List Int) (cl : Int) : Nat := (l.takeWhile fun c => classOf c == cl).length
theorem runS_nil (cl : Int) : runS [] cl = 0 := rfl
theorem runS_cons (c : Int) (l : List Int) (cl : Int) : runS (c :: l) cl = if classOf c = cl then runS l cl + 1 else 0 := by
 unfold runS
 by_cases h : classOf c = cl <;> simp [List.takeWhile_cons, h]
theorem runS_le (l : List Int) (cl : Int) : runS l cl ≤ l.length := by
 unfold runS
 exact List.Sublist.length_le (List.takeWhile_sublist _)
theorem rd_at (l : List Int) (i : Nat) (h : i < l.length) : rd l (i : Int) = l[i] := by
 show l.getD i 0 = _
 simp [List.getD_eq_getElem?_getD, List.getElem?_eq_getElem h]
theorem run_loop (l : List Int) (cl : Int) (hl : l.length ≤ 9223372036854775806) (d : Nat) : ∀ i : Nat, d + i = l.length →
  Ev (fun k => class_Run.l0 k l cl l (l.length : Int) (i : Int)) ((i + runS (l.drop i) cl : Nat) : Int) := by
 induction d with
 | zero =>
  intro i hi
  refine Ev.step (fun k => class_Run.l0.eq_2 ..) (ev_else (by omega) (ev_now ?_))
  rw [List.drop_of_length_le (by omega), runS_nil]
  omega
 | succ d ih =>
  intro i hi
  have hlt : i < l.length := by omega
  refine Ev.step (fun k => class_Run.l0.eq_2 ..) (ev_if (by omega) (ev_if (by omega) (ev_if (by omega) ?_)))
  rw [rd_at l i hlt, class_of, List.drop_eq_getElem_cons hlt, runS_cons]
  refine ev_let ?_
  by_cases h : classOf l[i] = cl
  ·rw [if_pos h]
   refine ev_if h ?_
   rw [show wrap64 ((i : Int) + 1) = ((i + 1 : Nat) : Int) by rw [w64 (by omega) (by omega)]; omega]
   refine ev_eq (ih (i + 1) (by omega)) ?_
   omega
  ·rw [if_neg h]
   exact ev_else h (ev_now (by omega))
theorem run_ev (l : List Int) (cl : Int) (hl : l.length ≤ 9223372036854775806) : Ev (fun k => class_Run.f k l cl) (runS l cl : Int) := by
 refine ev_eq (run_loop l cl hl l.length 0 (by omega)) ?_
 simp
theorem u8_wf {x : Int} (h : (Lit.int .u8 x).wf = true) : 0 ≤ x ∧ x < 256 := by
 simp [Lit.wf, IntKind.min, IntKind.max, IntKind.signed, IntKind.bits] at h
 omega
def Bytes (l : List Int) : Prop := ∀ x ∈ l, 0 ≤ x ∧ x < 256
theorem bytes_wf {l : List Int} (h : ∀ x ∈ l, (Lit.int .u8 x).wf = true) : Bytes l := fun x hx => u8_wf (h x hx)
theorem Bytes.take {l : List Int} (h : Bytes l) (n : Nat) : Bytes (l.take n) := fun x hx => h x (List.mem_of_mem_take hx)
theorem Bytes.drop {l : List Int} (h : Bytes l) (n : Nat) : Bytes (l.drop n) := fun x hx => h x (List.mem_of_mem_drop hx)
/-- a fact on each byte, asked one by one -/
theorem byte_all {p : Int → Prop} (h : ∀ n : Nat, n < 256 → p (n : Int)) {c : Int} (hc : 0 ≤ c ∧ c < 256) : p c := by
 have := h c.toNat (by omega)
 rwa [Int.toNat_of_nonneg hc.1] at this
end Go.Proofs.YtpkklbdclghcfaaDoor.P
namespace Go.Proofs.YtpkklbdclghcfaaDoor.P
set_option linter.unusedSimpArgs false
set_option linter.unusedVariables false
open Go.RowKit Go.Proofs.YtpkklbdclghcfaaDoorW.PrintWords Go.Proofs.YtpkklbdclghcfaaDoorW.PrintLast Go.Proofs.YtpkklbdclghcfaaDoorW.PrintMore
theorem name_eq (c : Int) : class_Name.f c = some (nameOf c) := by
 unfold class_Name.f nameOf
 rw [class_of, Option.bind_some]
 by_cases h2 : classOf c = 2
 ·simp [h2]
 by_cases h3 : classOf c = 3
 ·simp [h3]
 by_cases h4 : classOf c = 4
 ·simp [h4]
 simp [h2, h3, h4]
end Go.Proofs.YtpkklbdclghcfaaDoor.P
namespace Go.Proofs.YtpkklbdclghcfaaDoor.P
set_option linter.unusedSimpArgs false
set_option linter.unusedVariables false
open Go.RowKit Go.Proofs.YtpkklbdclghcfaaDoorW.PrintWords Go.Proofs.YtpkklbdclghcfaaDoorW.PrintLast Go.Proofs.YtpkklbdclghcfaaDoorW.PrintMore
theorem digit_all : ∀ n : Nat, n < 256 → (classOf (n : Int) = 4 ↔ 48 ≤ (n : Int) ∧ (n : Int) ≤ 57) := by decide +kernel
theorem digit_iff {c : Int} (h : 0 ≤ c ∧ c < 256) : classOf c = 4 ↔ 48 ≤ c ∧ c ≤ 57 := byte_all (p := fun c => classOf c = 4 ↔ 48 ≤ c ∧ c ≤ 57) digit_all h
/-- a number with digits more behind it; none, as_ soon as_ it is too great -/
def numS : Int → List Int → Option Int
 | n, [] => some n
 | n, c :: r => if n * 10 + (c - 48) > 2147483647 then none else numS (n * 10 + (c - 48)) r
theorem numS_cons (n c : Int) (r : List Int) : numS n (c :: r) = if n * 10 + (c - 48) > 2147483647 then none else numS (n * 10 + (c - 48)) r := rfl
def resD (q : Int) : Option Int → Int × Int × Int
 | some m => (m, q, 0)
 | none => (0, q, 4)
/-- the digits at the beginning -/
def headD (l : List Int) : List Int := l.take (runS l 4)
def takeD (l : List Int) : Int × Int × Int :=
 if runS l 4 = 0 then (0, 0, 2) else resD (runS l 4 : Int) (numS 0 (headD l))
def Digs (l : List Int) : Prop := ∀ c ∈ l, 48 ≤ c ∧ c ≤ 57
theorem digit_loop (l : List Int) (hd : Digs l) (hl : l.length ≤ 9223372036854775806) (q : Int) (d : Nat) : ∀ (i : Nat) (n : Int), d + i = l.length → 0 ≤ n → n ≤ 2147483647 →
  Ev (fun k => digits_Take.l0 k n q 0 l (l.length : Int) (i : Int)) (resD q (numS n (l.drop i))) := by
 induction d with
 | zero =>
  intro i n hi h0 h1
  refine Ev.step (fun k => digits_Take.l0.eq_2 ..) (ev_else (by omega) (ev_now ?_))
  rw [List.drop_of_length_le (by omega)]
  rfl
 | succ d ih =>
  intro i n hi h0 h1
  have hlt : i < l.length := by omega
  have hc := hd _ (List.getElem_mem hlt)
  refine Ev.step (fun k => digits_Take.l0.eq_2 ..) (ev_if (by omega) (ev_if (by omega) (ev_if (by omega) ?_)))
  rw [rd_at l i hlt, List.drop_eq_getElem_cons hlt]
  have e : wrap64 (wrap64 (n * 10) + (l[i] - 48) % 256) = n * 10 + (l[i] - 48) := by
   rw [w64 (i := n * 10) (by omega) (by omega), show (l[i] - 48) % 256 = l[i] - 48 by omega, w64 (by omega) (by omega)]
  rw [e]
  rw [numS_cons]
  by_cases h : n * 10 + (l[i] - 48) > 2147483647
  ·rw [if_pos h]
   exact ev_if h (ev_now rfl)
  ·rw [if_neg h]
   refine ev_else h ?_
   rw [show wrap64 ((i : Int) + 1) = ((i + 1 : Nat) : Int) by rw [w64 (by omega) (by omega)]; omega]
   exact ih (i + 1) _ (by omega) (by omega) (by omega)
theorem headD_len (l : List Int) : (headD l).length = runS l 4 := by
 unfold headD
 rw [List.length_take]
 have := runS_le l 4
 omega
theorem headD_digs {l : List Int} (hb : Bytes l) : Digs (headD l) := by
 unfold headD
 induction l with
 | nil => intro c hc; simp [runS_nil] at hc
 | cons a l ih =>
  rw [runS_cons]
  by_cases h : classOf a = 4
  ·rw [if_pos h, List.take_succ_cons]
   intro c hc
   rcases List.mem_cons.1 hc with rfl | hc
   ·exact (digit_iff (hb _ (by simp))).1 h
   ·exact ih (fun x hx => hb x (by simp [hx])) c hc
  ·rw [if_neg h]
   intro c hc
   simp at hc
theorem dtake_ev (l : List Int) (hb : Bytes l) (hl : l.length ≤ 1000000) : Ev (fun k => digits_Take.f k l) (takeD l) := by
 unfold digits_Take.f takeD
 have hle := runS_le l 4
 refine Ev.bind (run_ev l 4 (by omega)) ?_
 by_cases h : runS l 4 = 0
 ·rw [h]
  exact ev_if rfl (ev_now rfl)
 ·rw [if_neg h]
  refine ev_else (by omega) (ev_if (by omega) (ev_if (by omega) ?_))
  have e : ((runS l 4 : Int)).toNat = runS l 4 := rfl
  rw [e]
  have hh := headD_len l
  exact digit_loop (headD l) (headD_digs hb) (by omega) _ (headD l).length 0 0 (by omega) (by omega) (by omega)
end Go.Proofs.YtpkklbdclghcfaaDoor.P
namespace Go.Proofs.YtpkklbdclghcfaaDoor.P
set_option linter.unusedSimpArgs false
set_option linter.unusedVariables false
open Go.RowKit Go.Proofs.YtpkklbdclghcfaaDoor.P Go.Proofs.YtpkklbdclghcfaaDoorW.PrintWords Go.Proofs.YtpkklbdclghcfaaDoorW.PrintLast Go.Proofs.YtpkklbdclghcfaaDoorW.PrintMore
theorem u8_inj {x y : Int} (hx : 0 ≤ x ∧ x < 256) (hy : 0 ≤ y ∧ y < 256) (h : UInt8.ofNat x.toNat = UInt8.ofNat y.toNat) : x = y := by
 have := congrArg UInt8.toNat h
 rw [UInt8.toNat_ofNat', UInt8.toNat_ofNat'] at this
 omega
theorem Bytes.cons {c : Int} {r : List Int} (h : Bytes (c :: r)) : (0 ≤ c ∧ c < 256) ∧ Bytes r := ⟨h c (by simp), fun x hx => h x (by simp [hx])⟩
theorem strOf_list (l : List Int) : (strOfNums l).toList = l.map fun n => UInt8.ofNat n.toNat := by
 have := Lib.strOfNums_toList l
 rw [this]; rfl
/-- whether two bytes begin some -/
def two (a b : Int) : List Int → Bool
 | x :: y :: _ => x == a && y == b
 | _ => false
theorem hasP_two {l : List Int} (hl : Bytes l) {a b : Int} (ha : 0 ≤ a ∧ a < 256) (hb : 0 ≤ b ∧ b < 256) : hasP l [a, b] = two a b l := by
 unfold hasP
 match l with
 | [] => rfl
 | [x] => rfl
 | x :: y :: r =>
  have hx := hl x (by simp)
  have hy := hl y (by simp)
  rw [decide_eq_true (by simp), Bool.true_and, strOf_list, strOf_list]
  show (([UInt8.ofNat x.toNat, UInt8.ofNat y.toNat] : List UInt8) == [UInt8.ofNat a.toNat, UInt8.ofNat b.toNat]) = (x == a && y == b)
  rw [Bool.eq_iff_iff, beq_iff_eq, Bool.and_eq_true, beq_iff_eq, beq_iff_eq, List.cons.injEq, List.cons.injEq]
  constructor
  ·rintro ⟨h1, h2, _⟩
   exact ⟨u8_inj hx ha h1, u8_inj hy hb h2⟩
  ·rintro ⟨rfl, rfl⟩
   exact ⟨rfl, rfl, rfl⟩
/-- how much, inside a comment so deep, stands up to its end, with it -/
def comL : Nat → List Int → Option Nat
 | _, [] => none
 | _, [_] => none
 | d, x :: y :: r =>
  if x = 47 ∧ y = 42 then (comL (d + 1) r).map (· + 2)
  else if x = 42 ∧ y = 47 then (if d = 1 then some 2 else (comL (d - 1) r).map (· + 2))
  else (comL d (y :: r)).map (· + 1)
theorem comL_le (l : List Int) : ∀ (d n : Nat), comL d l = some n → 2 ≤ n ∧ n ≤ l.length := by
 induction h : l.length using Nat.strongRecOn generalizing l with
 | _ N ih =>
  intro d n hn
  match l with
  | [] => cases hn
  | [_] => cases hn
  | x :: y :: r =>
   simp only [List.length_cons] at h
   rw [comL] at hn
   by_cases h1 : x = 47 ∧ y = 42
   ·rw [if_pos h1] at hn
    obtain ⟨m, hm, rfl⟩ := Option.map_eq_some_iff.1 hn
    have := ih r.length (by omega) r rfl _ _ hm
    omega
   ·rw [if_neg h1] at hn
    by_cases h2 : x = 42 ∧ y = 47
    ·rw [if_pos h2] at hn
     by_cases h3 : d = 1
     ·rw [if_pos h3] at hn
      obtain rfl := Option.some.inj hn
      omega
     ·rw [if_neg h3] at hn
      obtain ⟨m, hm, rfl⟩ := Option.map_eq_some_iff.1 hn
      have := ih r.length (by omega) r rfl _ _ hm
      omega
    ·rw [if_neg h2] at hn
     obtain ⟨m, hm, rfl⟩ := Option.map_eq_some_iff.1 hn
     have := ih (r.length + 1) (by omega) (y :: r) rfl _ _ hm
     (try simp only [List.length_cons] at this)
     (try simp only [List.length_cons])
     omega
def optP (p : Nat) : Option Nat → Int
 | some n => ((p + n : Nat) : Int)
 | none => 0
theorem optP_map (p k : Nat) (o : Option Nat) : optP p (o.map (· + k)) = optP (p + k) o := by
 cases o with
 | none => rfl
 | some n => show ((p + (n + k) : Nat) : Int) = ((p + k + n : Nat) : Int); congr 1; omega
theorem drop_two {l : List Int} {p : Nat} {x y : Int} {r : List Int} (h : l.drop p = x :: y :: r) : l.drop (p + 2) = r ∧ l.drop (p + 1) = y :: r := by
 have h1 : l.drop (p + 1) = (l.drop p).drop 1 := by rw [List.drop_drop]
 have h2 : l.drop (p + 2) = (l.drop p).drop 2 := by rw [List.drop_drop]
 rw [h] at h1 h2
 exact ⟨h2, h1⟩
theorem comGo_eq (l : List Int) (hl : Bytes l) (f : Nat) : ∀ (d p : Nat), 1 ≤ d → p ≤ l.length → l.length + 1 ≤ p + f → comGo f l (d : Int) p = optP p (comL d (l.drop p)) := by
 induction f with
 | zero => intro d p _ hp hf; omega
 | succ f ih =>
  intro d p hd hp hf
  by_cases hend : l.length ≤ p
  ·rw [List.drop_of_length_le hend, comGo, if_pos hend]; rfl
  rw [comGo_step f l d p hend, hasP_two (hl.drop p) (by omega) (by omega), hasP_two (hl.drop p) (by omega) (by omega)]
  match hm : l.drop p with
  | [] => have := congrArg List.length hm; simp at this; omega
  | [x] =>
   have h1 : p + 1 = l.length := by have := congrArg List.length hm; simp at this; omega
   have e := ih d (p + 1) hd (by omega) (by omega)
   rw [List.drop_of_length_le (by omega)] at e
   show (if (d : Int) > 0 then comGo f l d (p + 1) else ((p + 1 : Nat) : Int)) = _
   rw [if_pos (by omega), e]; rfl
  | x :: y :: r =>
   have hlen : p + 2 ≤ l.length := by have := congrArg List.length hm; simp at this; omega
   obtain ⟨e2, e1⟩ := drop_two hm
   rw [comL]
   by_cases h1 : x = 47 ∧ y = 42
   ·have t : two 47 42 (x :: y :: r) = true := by simp [two, h1.1, h1.2]
    rw [if_pos t, if_pos h1, if_pos (by omega), show (d : Int) + 1 = ((d + 1 : Nat) : Int) by omega, ih (d + 1) (p + 2) (by omega) hlen (by omega), e2, optP_map]
   ·have t : ¬ two 47 42 (x :: y :: r) = true := by simpa [two] using h1
    rw [if_neg t, if_neg h1]
    by_cases h2 : x = 42 ∧ y = 47
    ·have t : two 42 47 (x :: y :: r) = true := by simp [two, h2.1, h2.2]
     rw [if_pos t, if_pos h2]
     by_cases h3 : d = 1
     ·subst h3
      rw [if_neg (by omega), if_pos rfl]; rfl
     ·rw [if_pos (by omega), if_neg h3, show (d : Int) - 1 = ((d - 1 : Nat) : Int) by omega, ih (d - 1) (p + 2) (by omega) hlen (by omega), e2, optP_map]
    ·have t : ¬ two 42 47 (x :: y :: r) = true := by simpa [two] using h2
     rw [if_neg t, if_neg h2, if_pos (by omega), ih d (p + 1) hd (by omega) (by omega), e1, optP_map]
/-- how long the comment at the beginning is -/
def comS (l : List Int) : Option Nat := (comL 1 (l.drop 2)).map (· + 2)
theorem comment_eq {l : List Int} (hl : Bytes l) (h : two 47 42 l = true) : layout_comment.f l = some (optP 0 (comS l)) := by
 match l, h with
 | x :: y :: r, h =>
  unfold layout_comment.f
  rw [comGo_step _ _ _ _ (by simp), hasP_two (hl.drop 0) (by omega) (by omega)]
  rw [if_pos (show two 47 42 ((x :: y :: r).drop 0) = true from h), if_pos (by omega)]
  rw [show (0 : Int) + 1 = ((1 : Nat) : Int) from rfl, comGo_eq _ hl _ 1 (0 + 2) (by omega) (by simp) (by simp; omega)]
  unfold comS
  rw [optP_map]
/-- how long the rest of the line is -/
def lineS (l : List Int) : Nat := (l.takeWhile fun c => c != 10).length
theorem lineS_cons (c : Int) (r : List Int) : lineS (c :: r) = if c = 10 then 0 else lineS r + 1 := by
 unfold lineS
 by_cases h : c = 10 <;> simp [List.takeWhile_cons, h]
theorem lineS_le (l : List Int) : lineS l ≤ l.length := List.Sublist.length_le (List.takeWhile_sublist _)
theorem index_line (l : List Int) (hl : Bytes l) : (Lib.indexByte (Lib.bytesOf l) (10 : Int).toNat.toUInt8 = -1 ∧ lineS l = l.length) ∨ (Lib.indexByte (Lib.bytesOf l) (10 : Int).toNat.toUInt8 = (lineS l : Int) ∧ lineS l < l.length) := by
 induction l with
 | nil => left; exact ⟨rfl, rfl⟩
 | cons c r ih =>
  obtain ⟨hc, hr⟩ := hl.cons
  have e : Lib.indexByte (Lib.bytesOf (c :: r)) (10 : Int).toNat.toUInt8 = if (c.toNat.toUInt8 == (10 : Int).toNat.toUInt8) = true then 0 else if (Lib.indexByte (Lib.bytesOf r) (10 : Int).toNat.toUInt8 == -1) = true then -1 else Lib.indexByte (Lib.bytesOf r) (10 : Int).toNat.toUInt8 + 1 := rfl
  rw [e, lineS_cons]
  by_cases h : c = 10
  ·subst h
   right
   rw [if_pos rfl, if_pos (by decide)]
   exact ⟨rfl, by simp⟩
  ·have hne : ¬ (c.toNat.toUInt8 == (10 : Int).toNat.toUInt8) = true := by
    rw [beq_iff_eq]
    exact fun hh => h (u8_inj hc (by omega) hh)
   rw [if_neg h, if_neg hne]
   rcases ih hr with ⟨h1, h2⟩ | ⟨h1, h2⟩
   ·left
    rw [h1, if_pos (by decide)]
    exact ⟨rfl, by simp [h2]⟩
   ·right
    rw [h1, if_neg (by rw [beq_iff_eq]; omega)]
    exact ⟨by omega, by simp; omega⟩
theorem line_eq {l : List Int} (hl : Bytes l) : layout_line.f l = some (lineS l : Int) := by
 unfold layout_line.f bytes_IndexByte.f
 rw [Option.bind_some]
 rcases index_line l hl with ⟨h1, h2⟩ | ⟨h1, h2⟩
 ·rw [h1, if_neg (by omega), h2]
 ·rw [h1, if_pos (by omega)]
/-- what is skipped next: so much; or it ends there, with an error or none -/
def stepS : List Int → Nat × Int
 | [] => (0, 0)
 | c :: r => if classOf c = 1 then (1, 0) else if c = 37 then (lineS (c :: r), 0) else if two 47 42 (c :: r) = true then (match comS (c :: r) with | some n => (n, 0) | none => (0, 14)) else (0, 0)
theorem stepS_le (l : List Int) : (stepS l).1 ≤ l.length := by
 match l with
 | [] => exact Nat.le_refl _
 | c :: r =>
  rw [stepS]
  by_cases h1 : classOf c = 1
  ·rw [if_pos h1]; simp
  rw [if_neg h1]
  by_cases h2 : c = 37
  ·rw [if_pos h2]; exact lineS_le _
  rw [if_neg h2]
  by_cases h3 : two 47 42 (c :: r) = true
  ·rw [if_pos h3]
   cases h4 : comS (c :: r) with
   | none => simp
   | some n =>
    match r, h3 with
    | y :: r, h3 =>
     obtain ⟨m, hm, rfl⟩ := Option.map_eq_some_iff.1 h4
     have := comL_le _ _ _ hm
     simp at this ⊢; omega
  ·rw [if_neg h3]; simp
/-- how much is skipped, and the error -/
def skipS (l : List Int) : Nat × Int := if h : (stepS l).1 = 0 then stepS l else ((stepS l).1 + (skipS (l.drop (stepS l).1)).1, (skipS (l.drop (stepS l).1)).2)
termination_by l.length
decreasing_by all_goals (have := stepS_le l; rw [List.length_drop]; omega)
theorem skipS_stop {l : List Int} (h : (stepS l).1 = 0) : skipS l = stepS l := by rw [skipS, dif_pos h]
theorem skipS_go {l : List Int} (h : (stepS l).1 ≠ 0) : skipS l = ((stepS l).1 + (skipS (l.drop (stepS l).1)).1, (skipS (l.drop (stepS l).1)).2) := by rw [skipS, dif_neg h]
theorem skipS_run (l : List Int) : skipS l = (runS l 1 + (skipS (l.drop (runS l 1))).1, (skipS (l.drop (runS l 1))).2) := by
 induction l with
 | nil => rw [runS_nil]; simp
 | cons c r ih =>
  rw [runS_cons]
  by_cases h : classOf c = 1
  ·have e : stepS (c :: r) = (1, 0) := by rw [stepS, if_pos h]
   rw [if_pos h, skipS_go (by rw [e]; simp), e]
   simp only [List.drop_succ_cons, List.drop_zero]
   rw [ih]
   simp; omega
  ·rw [if_neg h]; simp
theorem runS_first {c : Int} {r : List Int} (h : runS (c :: r) 1 = 0) : classOf c ≠ 1 := by
 intro hc
 rw [runS_cons, if_pos hc] at h
 omega
theorem percent_all : ∀ n : Nat, n < 256 → (classOf (n : Int) = 8 ↔ (n : Int) = 37) := by decide +kernel
theorem percent_iff {c : Int} (h : 0 ≤ c ∧ c < 256) : classOf c = 8 ↔ c = 37 := byte_all (p := fun c => classOf c = 8 ↔ c = 37) percent_all h
theorem skip_loop (l : List Int) (hl : Bytes l) (hn : l.length ≤ 1000000) (N : Nat) : ∀ p : Nat, l.length - p < N → p ≤ l.length →
  Ev (fun k => layout_Skip.l0 k l (p : Int)) (((p + (skipS (l.drop p)).1 : Nat) : Int), (skipS (l.drop p)).2) := by
 induction N with
 | zero => intro p h; omega
 | succ N ih =>
  intro p hN hp
  have hb := hl.drop p
  have hml : (l.drop p).length = l.length - p := List.length_drop
  have hrun := skipS_run (l.drop p)
  have hle := runS_le (l.drop p) 1
  have next : ∀ n : Nat, 1 ≤ n → p + n ≤ l.length → Ev (fun k => layout_Skip.l0 k l (wrap64 ((p : Int) + (n : Int)))) (((p + n + (skipS (l.drop (p + n))).1 : Nat) : Int), (skipS (l.drop (p + n))).2) := by
   intro n h1 h2
   rw [show wrap64 ((p : Int) + (n : Int)) = ((p + n : Nat) : Int) by rw [w64 (by omega) (by omega)]; omega]
   exact ih (p + n) (by omega) h2
  refine Ev.step (fun k => layout_Skip.l0.eq_2 ..) (ev_if (by omega) (ev_if (by omega) ?_))
  rw [show l.drop ((p : Int)).toNat = l.drop p from rfl]
  refine Ev.bind (run_ev _ 1 (by omega)) ?_
  by_cases h : runS (l.drop p) 1 = 0
  ·refine ev_else (by omega) ?_
   match hm : l.drop p with
   | [] =>
    refine ev_else (by simp) (Ev.step (fun k => layout_Skip.j1.eq_2 ..) (ev_else (by simp) ?_))
    refine ev_same (hasP_eq _ _) (ev_else (by simp [hasP]) (ev_now ?_))
    rw [skipS_stop rfl]; rfl
   | c :: r =>
    rw [hm] at h hb hml
    have hc := runS_first h
    have hcb := hb.cons.1
    refine ev_if (by simp) (ev_if (by simp) ?_)
    rw [show rd (c :: r) 0 = c from rfl, class_of]
    refine ev_let (Ev.step (fun k => layout_Skip.j1.eq_2 ..) ?_)
    have cut : ∀ n : Nat, l.drop (p + n) = (c :: r).drop n := fun n => by rw [← hm, List.drop_drop]
    by_cases h8 : c = 37
    ·have hls := lineS_le (c :: r)
     have h1 : 1 ≤ lineS (c :: r) := by rw [lineS_cons, if_neg (by omega)]; omega
     have es : stepS (c :: r) = (lineS (c :: r), 0) := by rw [stepS, if_neg hc, if_pos h8]
     refine ev_if (by rw [(percent_iff hcb).2 h8]; rfl) (ev_same (line_eq hb) ?_)
     refine ev_eq (next _ h1 (by omega)) ?_
     have eg := skipS_go (l := c :: r) (by rw [es]; simp only; omega)
     rw [es] at eg
     rw [cut, eg]
     simp only [Prod.mk.injEq, and_true]
     omega
    ·refine ev_else (by rw [beq_iff_eq, percent_iff hcb]; exact h8) (ev_same (hasP_eq _ _) ?_)
     rw [hasP_two hb (by omega) (by omega)]
     by_cases ht : two 47 42 (c :: r) = true
     ·refine ev_if ht (ev_same (comment_eq hb ht) ?_)
      cases h4 : comS (c :: r) with
      | none =>
       have es : stepS (c :: r) = (0, 14) := by rw [stepS, if_neg hc, if_neg h8, if_pos ht, h4]
       refine ev_if rfl (ev_now ?_)
       rw [skipS_stop (by rw [es]), es]; rfl
      | some n =>
       have es : stepS (c :: r) = (n, 0) := by rw [stepS, if_neg hc, if_neg h8, if_pos ht, h4]
       have hsl := stepS_le (c :: r)
       rw [es] at hsl
       have h1 : 1 ≤ n := by
        obtain ⟨m, hm2, rfl⟩ := Option.map_eq_some_iff.1 h4
        omega
       have e0 : optP 0 (some n) = (n : Int) := by show ((0 + n : Nat) : Int) = n; omega
       rw [e0]
       refine ev_else (by omega) ?_
       simp only at hsl
       refine ev_eq (next n h1 (by omega)) ?_
       have eg := skipS_go (l := c :: r) (by rw [es]; simp only; omega)
       rw [es] at eg
       rw [cut, eg]
       simp only [Prod.mk.injEq, and_true]
       omega
     ·have es : stepS (c :: r) = (0, 0) := by rw [stepS, if_neg hc, if_neg h8, if_neg ht]
      refine ev_else ht (ev_now ?_)
      rw [skipS_stop (by rw [es]), es]; rfl
  ·refine ev_if (by omega) ?_
   refine ev_eq (next _ (by omega) (by omega)) ?_
   rw [hrun, List.drop_drop]
   simp only [Prod.mk.injEq, and_true]
   omega
theorem skip_ev (l : List Int) (hl : Bytes l) (hn : l.length ≤ 1000000) : Ev (fun k => layout_Skip.f k l) (((skipS l).1 : Int), (skipS l).2) := by
 refine ev_eq (skip_loop l hl hn (l.length + 1) 0 (by omega) (by omega)) ?_
 simp
end Go.Proofs.YtpkklbdclghcfaaDoor.P
namespace Go.Proofs.YtpkklbdclghcfaaDoor.P
set_option linter.unusedSimpArgs false
set_option linter.unusedVariables false
open Go.RowKit Go.Proofs.YtpkklbdclghcfaaDoor.P Go.Proofs.YtpkklbdclghcfaaDoorW.PrintWords Go.Proofs.YtpkklbdclghcfaaDoorW.PrintLast Go.Proofs.YtpkklbdclghcfaaDoorW.PrintMore
theorem skipS_le (N : Nat) : ∀ l : List Int, l.length < N → (skipS l).1 ≤ l.length := by
 induction N with
 | zero => intro l h; omega
 | succ N ih =>
  intro l h
  have hs := stepS_le l
  by_cases h0 : (stepS l).1 = 0
  ·rw [skipS_stop h0]; exact hs
  ·have e := skipS_go h0
   have := ih (l.drop (stepS l).1) (by rw [List.length_drop]; omega)
   rw [List.length_drop] at this
   have e1 := congrArg Prod.fst e
   simp only at e1
   omega
/-- behind what is skipped nothing more is -/
theorem skipS_end (N : Nat) : ∀ l : List Int, l.length < N → stepS (l.drop (skipS l).1) = (0, (skipS l).2) := by
 induction N with
 | zero => intro l h; omega
 | succ N ih =>
  intro l h
  have hs := stepS_le l
  by_cases h0 : (stepS l).1 = 0
  ·rw [skipS_stop h0, h0, List.drop_zero, ← h0]
  ·have e := skipS_go h0
   have := ih (l.drop (stepS l).1) (by rw [List.length_drop]; omega)
   have e1 := congrArg Prod.fst e
   have e2 := congrArg Prod.snd e
   simp only at e1 e2
   rw [e1, e2, ← List.drop_drop]
   exact this
end Go.Proofs.YtpkklbdclghcfaaDoor.P
namespace Go.Proofs.YtpkklbdclghcfaaDoor.P
set_option linter.unusedSimpArgs false
set_option linter.unusedVariables false
open Go.RowKit Go.Proofs.YtpkklbdclghcfaaDoorW.PrintWords Go.Proofs.YtpkklbdclghcfaaDoorW.PrintLast Go.Proofs.YtpkklbdclghcfaaDoorW.PrintMore
def uLo (c : Int) : Int := if c = 224 then 160 else if c = 240 then 144 else 128
def uHi (c : Int) : Int := if c = 237 then 159 else if c = 244 then 143 else 191
/-- how many bytes a sequence with a first byte has; 0: none -/
def uLong (c : Int) : Nat := if c < 128 then 1 else if c < 194 ∨ c > 244 then 0 else if c < 224 then 2 else if c < 240 then 3 else 4
/-- so many bytes more, the first one of them from lo to hi, the others 128 to 191 -/
def restOk : Nat → Int → Int → List Int → Bool
 | 0, _, _, _ => true
 | _ + 1, _, _, [] => false
 | n + 1, lo, hi, a :: t => decide (lo ≤ a ∧ a ≤ hi) && restOk n 128 191 t
/-- how many bytes the first sequence has, and whether it is one -/
def takeS : List Int → Int × Bool
 | [] => (0, false)
 | c :: r => if uLong c = 0 then (1, false) else if restOk (uLong c - 1) (uLo c) (uHi c) r then ((uLong c : Int), true) else (1, false)
theorem takeS_cons (c : Int) (r : List Int) : takeS (c :: r) = if uLong c = 0 then (1, false) else if restOk (uLong c - 1) (uLo c) (uHi c) r then ((uLong c : Int), true) else (1, false) := rfl
theorem restOk_cons (n : Nat) (lo hi a : Int) (t : List Int) : restOk (n + 1) lo hi (a :: t) = (decide (lo ≤ a ∧ a ≤ hi) && restOk n 128 191 t) := rfl
theorem restOk_short (n : Nat) : ∀ (lo hi : Int) (r : List Int), r.length < n → restOk n lo hi r = false := by
 induction n with
 | zero => intro _ _ r h; omega
 | succ n ih =>
  intro lo hi r h
  cases r with
  | nil => rfl
  | cons a t => rw [restOk_cons, ih _ _ t (by simp at h; omega)]; simp
def beh (c : Int) : Int × Int × Int := if c < 128 then (0, 0, 0) else if c < 194 ∨ c > 244 then (0, 0, -1) else (uLo c, uHi c, (uLong c : Int) - 1)
theorem behind_eq (k : Nat) (c : Int) : utf_behind.f (k + 1) c = some (beh c) := by
 unfold utf_behind.f beh uLo uHi uLong
 simp only [utf_behind.j0]
 by_cases h1 : c < 128
 ·simp [h1]
 by_cases h2 : c < 194
 ·simp [h1, h2]
 by_cases h3 : c > 244
 ·simp [h1, h2, h3]
 by_cases h4 : c < 224
 ·have : c ≠ 224 := by omega
  have : c ≠ 240 := by omega
  have : c ≠ 237 := by omega
  have : c ≠ 244 := by omega
  simp [*]
 by_cases h5 : c = 224
 ·subst h5; simp
 by_cases h6 : c = 237
 ·subst h6; simp
 by_cases h7 : c < 240
 ·have : c ≠ 240 := by omega
  have : c ≠ 244 := by omega
  simp [*]
 by_cases h8 : c = 240
 ·subst h8; simp
 by_cases h9 : c = 244
 ·subst h9; simp
 simp [*]
theorem w1 {i : Int} (h0 : -1 ≤ i) (h1 : i ≤ 9223372036854775806) : wrap64 (i + 1) = i + 1 := by unfold wrap64; omega
theorem wl0 (k : Nat) (l : List Int) (m i lo hi q : Int) (h : ¬ i < m) (h0 : -1 ≤ q) (h1 : q ≤ 100) : utf_Take.l0 (k + 1) l m i lo hi q = some (q + 1, true) := by
 simp only [utf_Take.l0]; rw [if_neg h, w1 h0 (by omega)]
theorem wl1 (k : Nat) (l : List Int) (m : Int) (i : Nat) (lo hi q : Int) (h : (i : Int) < m) (h2 : i + 1 < l.length) (h3 : i < 10) :
  utf_Take.l0 (k + 1) l m (i : Int) lo hi q = if lo ≤ l.getD (i + 1) 0 ∧ l.getD (i + 1) 0 ≤ hi then utf_Take.l0 k l m ((i + 1 : Nat) : Int) 128 191 q else some (1, false) := by
 have e : wrap64 ((i : Int) + 1) = ((i + 1 : Nat) : Int) := by rw [w1 (by omega) (by omega)]; omega
 simp only [utf_Take.l0]
 rw [if_pos h, e, if_pos (by omega), if_pos (by omega)]
 have er : rd l ((i + 1 : Nat) : Int) = l.getD (i + 1) 0 := rfl
 rw [er]
 by_cases a : l.getD (i + 1) 0 < lo
 ·rw [if_pos a, if_neg (by omega)]
 ·rw [if_neg a]
  by_cases b : l.getD (i + 1) 0 > hi
  ·rw [if_pos b, if_neg (by omega)]
  ·rw [if_neg b, if_pos (by omega)]
theorem wl (d : Nat) : ∀ (k : Nat) (l : List Int) (m : Int) (i : Nat) (lo hi q : Int), m = ((i + d : Nat) : Int) → d < k → i + d < l.length → i + d < 10 → -1 ≤ q → q ≤ 100 →
  utf_Take.l0 k l m (i : Int) lo hi q = some (if restOk d lo hi (l.drop (i + 1)) then (q + 1, true) else (1, false)) := by
 induction d with
 | zero =>
  intro k l m i lo hi q hm hk h1 h2 h3 h4
  obtain ⟨k, rfl⟩ : ∃ j, k = j + 1 := ⟨k - 1, by omega⟩
  rw [wl0 _ _ _ _ _ _ _ (by omega) h3 h4]
  rfl
 | succ d ih =>
  intro k l m i lo hi q hm hk h1 h2 h3 h4
  obtain ⟨k, rfl⟩ : ∃ j, k = j + 1 := ⟨k - 1, by omega⟩
  rw [wl1 _ _ _ _ _ _ _ (by omega) (by omega) (by omega), ih k l m (i + 1) 128 191 q (by omega) (by omega) (by omega) (by omega) h3 h4]
  rw [List.drop_eq_getElem_cons (i := i + 1) (by omega)]
  have e : l.getD (i + 1) 0 = l[i + 1] := by simp [List.getD_eq_getElem?_getD, List.getElem?_eq_getElem (show i + 1 < l.length by omega)]
  rw [e]
  rw [restOk_cons]
  by_cases A : lo ≤ l[i + 1] ∧ l[i + 1] ≤ hi
  ·rw [if_pos A, decide_eq_true A, Bool.true_and]
  ·rw [if_neg A, decide_eq_false A, Bool.false_and]; rfl
theorem uLong_le (c : Int) : uLong c ≤ 4 := by
 unfold uLong
 repeat' split
 all_goals omega
theorem take_ten (l : List Int) : utf_Take.f 10 l = some (takeS l) := by
 unfold utf_Take.f
 cases l with
 | nil => simp [takeS]
 | cons c r =>
  rw [if_neg (by simp; omega), if_pos (by simp)]
  have e0 : rd (c :: r) 0 = c := rfl
  rw [e0, behind_eq]
  simp only [Option.bind_some]
  have go : ∀ (lo hi : Int) (n : Nat), n < 4 → utf_Take.j0 10 (c :: r) (decide (((c :: r).length : Int) ≤ (n : Int))) lo hi (n : Int) = some (if restOk n lo hi r then ((n : Int) + 1, true) else (1, false)) := by
   intro lo hi n hn
   simp only [utf_Take.j0]
   by_cases hs : ((c :: r).length : Int) ≤ (n : Int)
   ·rw [if_pos (decide_eq_true hs), restOk_short n lo hi r (by simp at hs; omega)]
    rfl
   ·rw [if_neg (by rw [decide_eq_false hs]; simp)]
    exact wl n 9 (c :: r) (n : Int) 0 lo hi (n : Int) (by omega) (by omega) (by simp at hs ⊢; omega) (by omega) (by omega) (by omega)
  rw [takeS_cons]
  unfold beh
  by_cases h1 : c < 128
  ·have e : uLong c = 1 := by unfold uLong; rw [if_pos h1]
   rw [e, if_pos h1, if_neg (show ¬ (0 : Int) < 0 by omega)]
   exact go 0 0 0 (by omega)
  by_cases h2 : c < 194 ∨ c > 244
  ·have e : uLong c = 0 := by unfold uLong; rw [if_neg h1, if_pos h2]
   rw [e, if_neg h1, if_pos h2, if_pos (show (-1 : Int) < 0 by omega)]
   simp [utf_Take.j0]
  rw [if_neg h1, if_neg h2]
  have hL : uLong c ≠ 0 := by
   unfold uLong; rw [if_neg h1, if_neg h2]
   repeat' split
   all_goals omega
  obtain ⟨n, hn⟩ : ∃ n, uLong c = n + 1 := ⟨uLong c - 1, by omega⟩
  have hle := uLong_le c
  have e2 : ((n + 1 : Nat) : Int) - 1 = (n : Int) := by omega
  rw [hn, e2, if_neg (show ¬ (n : Int) < 0 by omega), if_neg (show ¬ n + 1 = 0 by omega), Nat.add_sub_cancel]
  exact go _ _ n (by omega)
theorem take_ev (l : List Int) : Ev (fun k => utf_Take.f k l) (takeS l) := Ev.of (fun k => utf_Take.mono l k) (take_ten l)
theorem restOk_len (n : Nat) : ∀ (lo hi : Int) (r : List Int), restOk n lo hi r = true → n ≤ r.length := by
 intro lo hi r h
 rcases Nat.lt_or_ge r.length n with h2 | h2
 ·rw [restOk_short n lo hi r h2] at h; cases h
 ·exact h2
theorem take_pos (c : Int) (r : List Int) : 1 ≤ (takeS (c :: r)).1 ∧ (takeS (c :: r)).1 ≤ ((c :: r).length : Int) ∧ (takeS (c :: r)).1 ≤ 4 ∧ ((takeS (c :: r)).2 = false → (takeS (c :: r)).1 = 1) := by
 have hle := uLong_le c
 simp only [takeS]
 by_cases h0 : uLong c = 0
 ·rw [if_pos h0]; simp; omega
 ·rw [if_neg h0]
  by_cases h1 : restOk (uLong c - 1) (uLo c) (uHi c) r = true
  ·have := restOk_len _ _ _ _ h1
   rw [if_pos h1]; simp; omega
  ·rw [if_neg h1]; simp; omega
end Go.Proofs.YtpkklbdclghcfaaDoor.P
namespace Go.Proofs.YtpkklbdclghcfaaDoor.P
set_option linter.unusedSimpArgs false
set_option linter.unusedVariables false
open Go.RowKit Go.Proofs.YtpkklbdclghcfaaDoor.P Go.Proofs.YtpkklbdclghcfaaDoorW.PrintWords Go.Proofs.YtpkklbdclghcfaaDoorW.PrintLast Go.Proofs.YtpkklbdclghcfaaDoorW.PrintMore
/-- what stands next between the quotes: what it says, how long it is; and 0: go on, -1: its end, else the error -/
def itemQ : List Int → List Int × Nat × Int
 | [] => ([], 0, 12)
 | c :: r =>
  if c = 39 then (if r.headD 0 = 39 then ([39], 2, 0) else ([], 1, -1))
  else if c = 92 then (if r.headD 0 = 92 ∨ r.headD 0 = 39 then ([r.headD 0], 2, 0) else if r.headD 0 = 110 then ([10], 2, 0) else ([], 0, 13))
  else if c = 10 then ([], 0, 12)
  else if c < 32 ∨ c = 127 then ([], 0, 11)
  else if (takeS (c :: r)).2 = true then ((c :: r).take (takeS (c :: r)).1.toNat, (takeS (c :: r)).1.toNat, 0) else ([], 0, 10)
theorem itemQ_le (s : List Int) : (itemQ s).2.1 ≤ s.length ∧ ((itemQ s).2.2 = 0 → 1 ≤ (itemQ s).2.1) ∧ (itemQ s).1.length ≤ (itemQ s).2.1 := by
 match s with
 | [] => simp [itemQ]
 | c :: r =>
  have hd : ∀ x : Int, x ≠ 0 → r.headD 0 = x → 1 ≤ r.length := by
   intro x hx h
   cases r with
   | nil => exact absurd h.symm hx
   | cons a t => simp
  rw [itemQ]
  by_cases h1 : c = 39
  ·rw [if_pos h1]
   by_cases h2 : r.headD 0 = 39
   ·have := hd 39 (by omega) h2
    rw [if_pos h2]; simp; omega
   ·rw [if_neg h2]; simp
  rw [if_neg h1]
  by_cases h2 : c = 92
  ·rw [if_pos h2]
   by_cases h3 : r.headD 0 = 92 ∨ r.headD 0 = 39
   ·have : 1 ≤ r.length := by rcases h3 with h3 | h3 <;> exact hd _ (by omega) h3
    rw [if_pos h3]; simp; omega
   rw [if_neg h3]
   by_cases h4 : r.headD 0 = 110
   ·have := hd 110 (by omega) h4
    rw [if_pos h4]; simp; omega
   ·rw [if_neg h4]; simp
  rw [if_neg h2]
  by_cases h3 : c = 10
  ·rw [if_pos h3]; simp
  rw [if_neg h3]
  by_cases h4 : c < 32 ∨ c = 127
  ·rw [if_pos h4]; simp
  rw [if_neg h4]
  by_cases h5 : (takeS (c :: r)).2 = true
  ·have := take_pos c r
   rw [if_pos h5]
   refine ⟨?_, fun _ => ?_, ?_⟩
   ·simp only; omega
   ·simp only; omega
   ·simp only [List.length_take]; omega
  ·rw [if_neg h5]; simp
/-- what is said up to the end, how much that is, and -1; or how much there is ahead of the error, and that -/
def textQ (s : List Int) : List Int × Nat × Int := if h : (itemQ s).2.2 = 0 then ((itemQ s).1 ++ (textQ (s.drop (itemQ s).2.1)).1, (itemQ s).2.1 + (textQ (s.drop (itemQ s).2.1)).2.1, (textQ (s.drop (itemQ s).2.1)).2.2) else itemQ s
termination_by s.length
decreasing_by all_goals (have := itemQ_le s; have := this.2.1 h; rw [List.length_drop]; omega)
theorem textQ_stop {s : List Int} (h : (itemQ s).2.2 ≠ 0) : textQ s = itemQ s := by rw [textQ, dif_neg h]
theorem textQ_go {s : List Int} (h : (itemQ s).2.2 = 0) : textQ s = ((itemQ s).1 ++ (textQ (s.drop (itemQ s).2.1)).1, (itemQ s).2.1 + (textQ (s.drop (itemQ s).2.1)).2.1, (textQ (s.drop (itemQ s).2.1)).2.2) := by rw [textQ, dif_pos h]
def resQ (acc : List Int) (p : Nat) (t : List Int × Nat × Int) : List Int × Int × Int := if t.2.2 = -1 then (acc ++ t.1, ((p + t.2.1 : Nat) : Int), 0) else ([], ((p + t.2.1 : Nat) : Int), t.2.2)
theorem resQ_go {acc s v : List Int} {p n : Nat} (h : itemQ s = (v, n, 0)) : resQ acc p (textQ s) = resQ (acc ++ v) (p + n) (textQ (s.drop n)) := by
 rw [textQ_go (by rw [h]), h]
 simp only [resQ, List.append_assoc, Nat.add_assoc]
theorem resQ_end {acc s : List Int} {p n : Nat} (h : itemQ s = ([], n, -1)) : resQ acc p (textQ s) = (acc, ((p + n : Nat) : Int), 0) := by
 rw [textQ_stop (by rw [h]; show (-1 : Int) ≠ 0; decide), h]
 simp [resQ]
theorem resQ_bad {acc s : List Int} {p : Nat} {e : Int} (h : itemQ s = ([], 0, e)) (h0 : e ≠ 0) (h1 : e ≠ -1) : resQ acc p (textQ s) = ([], (p : Int), e) := by
 rw [textQ_stop (by rw [h]; exact h0), h]
 simp only [resQ]
 rw [if_neg h1]; rfl
/-- a quoted atom at the beginning: what it says, how long it is, the error -/
def quoteS (l : List Int) : List Int × Int × Int := if l.headD 0 = 39 then resQ [] 1 (textQ (l.drop 1)) else ([], 0, 2)
theorem rd_next {l : List Int} {p : Nat} {c : Int} {r : List Int} (hm : l.drop p = c :: r) (hr : r ≠ []) : rd l ((p + 1 : Nat) : Int) = r.headD 0 := by
 show l.getD (p + 1) 0 = _
 have h1 : l.drop (p + 1) = r := by rw [← List.drop_drop, hm]; rfl
 cases r with
 | nil => exact absurd rfl hr
 | cons a t =>
  have : l[p + 1]? = some a := by rw [← List.head?_drop, h1]; rfl
  simp [List.getD_eq_getElem?_getD, this]
theorem rd_here {l : List Int} {p : Nat} {c : Int} {r : List Int} (hm : l.drop p = c :: r) : rd l (p : Int) = c := by
 show l.getD p 0 = _
 have : l[p]? = some c := by rw [← List.head?_drop, hm]; rfl
 simp [List.getD_eq_getElem?_getD, this]
theorem quote_loop (l : List Int) (hl : Bytes l) (hn : l.length ≤ 1000000) (N : Nat) : ∀ (p : Nat) (acc : List Int), l.length - p < N → p ≤ l.length → acc.length ≤ p →
  Ev (fun k => quote_Take.l0 k l acc (p : Int)) (resQ acc p (textQ (l.drop p))) := by
 induction N with
 | zero => intro p _ h; omega
 | succ N ih =>
  intro p acc hN hp ha
  have hml : (l.drop p).length = l.length - p := List.length_drop
  have w1 : wrap64 ((p : Int) + 1) = ((p + 1 : Nat) : Int) := by rw [w64 (by omega) (by omega)]; omega
  have w2 : wrap64 ((p : Int) + 2) = ((p + 2 : Nat) : Int) := by rw [w64 (by omega) (by omega)]; omega
  refine Ev.step (fun k => quote_Take.l0.eq_2 ..) ?_
  match hm : l.drop p with
  | [] =>
   rw [hm] at hml
   simp only [List.length_nil] at hml
   refine ev_else (by omega) (ev_now ?_)
   rw [resQ_bad (s := []) (e := 12) rfl (by decide) (by decide)]
  | c :: r =>
   rw [hm] at hml
   simp only [List.length_cons] at hml
   have hle := itemQ_le (c :: r)
   have cut : ∀ n : Nat, l.drop (p + n) = (c :: r).drop n := fun n => by rw [← hm, List.drop_drop]
   have key : ∀ {R : List Int × Int × Int}, Ev (fun k => quote_Take.j2 k l acc (p : Int) (r.headD 0)) R → Ev (fun k => if (p : Int) < (l.length : Int) then (if (wrap64 ((p : Int) + 1)) < (l.length : Int) then (if 0 ≤ (wrap64 ((p : Int) + 1)) then (quote_Take.j2 k l acc (p : Int) (rd l (wrap64 ((p : Int) + 1)))) else (none)) else (quote_Take.j2 k l acc (p : Int) 0)) else (some (([] : List Int), (p : Int), 12))) R := by
    intro R h
    refine ev_if (by omega) ?_
    rw [w1]
    cases hr : r with
    | nil =>
     rw [hr] at h hml
     simp only [List.length_nil] at hml
     exact ev_else (by omega) h
    | cons a t =>
     have e := rd_next hm (by rw [hr]; simp)
     rw [e]
     rw [hr] at hml
     simp only [List.length_cons] at hml
     exact ev_if (by omega) (ev_if (by omega) h)
   refine key ?_
   generalize hd : r.headD 0 = d
   have hgo : ∀ (v : List Int) (n : Nat), itemQ (c :: r) = (v, n, 0) → Ev (fun k => quote_Take.l0 k l (acc ++ v) ((p + n : Nat) : Int)) (resQ acc p (textQ (c :: r))) := by
    intro v n h
    rw [h] at hle
    simp only [List.length_cons] at hle
    have h1 := hle.2.1 trivial
    rw [resQ_go h, ← cut]
    refine ih (p + n) (acc ++ v) (by omega) (by omega) ?_
    rw [List.length_append]
    omega
   refine Ev.step (fun k => quote_Take.j2.eq_2 ..) (ev_if (by omega) (ev_if (by omega) ?_))
   rw [rd_here hm]
   by_cases h39 : c = 39
   ·refine ev_if h39 (Ev.step (fun k => quote_Take.j3.eq_2 ..) ?_)
    by_cases hd9 : d = 39
    ·have hi : itemQ (c :: r) = ([39], 2, 0) := by rw [itemQ, if_pos h39, if_pos (by rw [hd]; exact hd9)]
     refine ev_else (by simp [hd9]) (ev_if h39 (Ev.step (fun k => quote_Take.j4.eq_2 ..) (ev_if (by simp [h39]) (ev_if (by omega) ?_))))
     rw [w2, hd9]
     exact hgo _ _ hi
    ·have hi : itemQ (c :: r) = ([], 1, -1) := by rw [itemQ, if_pos h39, if_neg (by rw [hd]; exact hd9)]
     refine ev_if (by simp [hd9]) (ev_now ?_)
     rw [resQ_end hi, w1]
   ·refine ev_else h39 (Ev.step (fun k => quote_Take.j3.eq_2 ..) (ev_else (by simp) (ev_else h39 ?_)))
    by_cases h92 : c = 92
    ·refine ev_if h92 ?_
     by_cases hq : d = 92 ∨ d = 39
     ·have hi : itemQ (c :: r) = ([d], 2, 0) := by rw [itemQ, if_neg h39, if_pos h92, hd, if_pos hq]
      have fin : Ev (fun k => quote_Take.j4 k l acc (p : Int) d c true) (resQ acc p (textQ (c :: r))) := by
       refine Ev.step (fun k => quote_Take.j4.eq_2 ..) (ev_if rfl (ev_if (by omega) ?_))
       rw [w2]
       exact hgo _ _ hi
      by_cases h2 : d = 92
      ·exact ev_if h2 fin
      ·refine ev_else h2 ?_
       rw [show (d == 39) = true by simp; omega]
       exact fin
     ·have n1 : d ≠ 92 := fun h => hq (.inl h)
      have n2 : d ≠ 39 := fun h => hq (.inr h)
      refine ev_else n1 (Ev.step (fun k => quote_Take.j4.eq_2 ..) (ev_else (by simp [n2]) (ev_if h92 (Ev.step (fun k => quote_Take.j5.eq_2 ..) ?_))))
      by_cases hn10 : d = 110
      ·have hi : itemQ (c :: r) = ([10], 2, 0) := by rw [itemQ, if_neg h39, if_pos h92, hd, if_neg hq, if_pos hn10]
       refine ev_if (by simp [hn10]) (ev_if (by omega) ?_)
       rw [w2]
       exact hgo _ _ hi
      ·have hi : itemQ (c :: r) = ([], 0, 13) := by rw [itemQ, if_neg h39, if_pos h92, hd, if_neg hq, if_neg hn10]
       refine ev_else (by simp [hn10]) (ev_if h92 (ev_now ?_))
       rw [resQ_bad hi (by decide) (by decide)]
    ·refine ev_else h92 (Ev.step (fun k => quote_Take.j4.eq_2 ..) (ev_else (by simp) (ev_else h92 (Ev.step (fun k => quote_Take.j5.eq_2 ..) (ev_else (by simp) (ev_else h92 ?_))))))
     by_cases h10 : c = 10
     ·have hi : itemQ (c :: r) = ([], 0, 12) := by rw [itemQ, if_neg h39, if_neg h92, if_pos h10]
      refine ev_if h10 (ev_now ?_)
      rw [resQ_bad hi (by decide) (by decide)]
     ·refine ev_else h10 ?_
      by_cases hc : c < 32 ∨ c = 127
      ·have hi : itemQ (c :: r) = ([], 0, 11) := by rw [itemQ, if_neg h39, if_neg h92, if_neg h10, if_pos hc]
       have fin : Ev (fun k => quote_Take.j6 k l acc (p : Int) true) (resQ acc p (textQ (c :: r))) := by
        refine Ev.step (fun k => quote_Take.j6.eq_2 ..) (ev_if rfl (ev_now ?_))
        rw [resQ_bad hi (by decide) (by decide)]
       by_cases h32 : c < 32
       ·exact ev_if h32 fin
       ·refine ev_else h32 ?_
        rw [show (c == 127) = true by simp; omega]
        exact fin
      ·have n1 : ¬ c < 32 := fun h => hc (.inl h)
       have n2 : c ≠ 127 := fun h => hc (.inr h)
       refine ev_else n1 (Ev.step (fun k => quote_Take.j6.eq_2 ..) (ev_else (by simp [n2]) (ev_if (by omega) (ev_if (by omega) ?_))))
       rw [show l.drop ((p : Int)).toNat = c :: r from hm]
       refine Ev.bind (take_ev _) ?_
       have tp := take_pos c r
       simp only [List.length_cons] at tp
       by_cases ht : (takeS (c :: r)).2 = true
       ·have hi : itemQ (c :: r) = ((c :: r).take (takeS (c :: r)).1.toNat, (takeS (c :: r)).1.toNat, 0) := by rw [itemQ, if_neg h39, if_neg h92, if_neg h10, if_neg hc, if_pos ht]
        generalize (takeS (c :: r)).1 = n at tp hi ⊢
        have wn : wrap64 ((p : Int) + n) = ((p + n.toNat : Nat) : Int) := by rw [w64 (by omega) (by omega)]; omega
        rw [wn]
        have et : (l.take (((p + n.toNat : Nat) : Int)).toNat).drop ((p : Int)).toNat = (c :: r).take n.toNat := by
         show (l.take (p + n.toNat)).drop p = _
         rw [List.drop_take, hm, Nat.add_sub_cancel_left]
        rw [et]
        refine ev_if ht (ev_if (by omega) (ev_if (by omega) (ev_if ?_ ?_)))
        ·rw [List.length_take]; simp only [List.length_cons]; omega
        ·exact hgo _ _ hi
       ·have hi : itemQ (c :: r) = ([], 0, 10) := by rw [itemQ, if_neg h39, if_neg h92, if_neg h10, if_neg hc, if_neg ht]
        refine ev_else ht (ev_now ?_)
        rw [resQ_bad hi (by decide) (by decide)]
theorem quote_ev (l : List Int) (hl : Bytes l) (hn : l.length ≤ 1000000) : Ev (fun k => quote_Take.f k l) (quoteS l) := by
 unfold quote_Take.f quoteS
 cases l with
 | nil => exact ev_if rfl (Ev.step (fun k => quote_Take.j0.eq_2 ..) (ev_if rfl (ev_now rfl)))
 | cons c r =>
  refine ev_else (by simp; omega) (ev_if (by simp) ?_)
  rw [show rd (c :: r) 0 = c from rfl, show (c :: r).headD 0 = c from rfl]
  refine Ev.step (fun k => quote_Take.j0.eq_2 ..) ?_
  by_cases h : c = 39
  ·rw [if_pos h]
   exact ev_else (by simp [h]) (quote_loop _ hl hn ((c :: r).length + 1) 1 [] (by omega) (by simp) (by simp))
  ·rw [if_neg h]
   exact ev_if (by simp [h]) (ev_now rfl)
end Go.Proofs.YtpkklbdclghcfaaDoor.P
namespace Go.Proofs.YtpkklbdclghcfaaDoor.P
set_option linter.unusedSimpArgs false
set_option linter.unusedVariables false
open Go.RowKit Go.Proofs.YtpkklbdclghcfaaDoor.P Go.Proofs.YtpkklbdclghcfaaDoorW.PrintWords Go.Proofs.YtpkklbdclghcfaaDoorW.PrintLast Go.Proofs.YtpkklbdclghcfaaDoorW.PrintMore
/-- how much of a name stands next -/
def stepN : List Int → Nat
 | [] => 0
 | c :: r => if (takeS (c :: r)).2 = true ∧ ((takeS (c :: r)).1 = 1 → nameOf c = true) then (takeS (c :: r)).1.toNat else 0
theorem stepN_le (s : List Int) : stepN s ≤ s.length := by
 match s with
 | [] => exact Nat.le_refl _
 | c :: r =>
  have := take_pos c r
  rw [stepN]
  split
  ·omega
  ·omega
/-- how much of a name stands at the beginning -/
def nameS (s : List Int) : Nat := if h : stepN s = 0 then 0 else stepN s + nameS (s.drop (stepN s))
termination_by s.length
decreasing_by all_goals (have := stepN_le s; rw [List.length_drop]; omega)
theorem nameS_stop {s : List Int} (h : stepN s = 0) : nameS s = 0 := by rw [nameS, dif_pos h]
theorem nameS_go {s : List Int} (h : stepN s ≠ 0) : nameS s = stepN s + nameS (s.drop (stepN s)) := by rw [nameS, dif_neg h]
theorem nameS_le (N : Nat) : ∀ s : List Int, s.length < N → nameS s ≤ s.length := by
 induction N with
 | zero => intro s h; omega
 | succ N ih =>
  intro s h
  have hs := stepN_le s
  by_cases h0 : stepN s = 0
  ·rw [nameS_stop h0]; omega
  ·have e := nameS_go h0
   have := ih (s.drop (stepN s)) (by rw [List.length_drop]; omega)
   rw [List.length_drop] at this
   omega
theorem name_loop (l : List Int) (hl : Bytes l) (hn : l.length ≤ 1000000) (N : Nat) : ∀ p : Nat, l.length - p < N → p ≤ l.length → Ev (fun k => token_name.l0 k l (p : Int)) ((p + nameS (l.drop p) : Nat) : Int) := by
 induction N with
 | zero => intro p h; omega
 | succ N ih =>
  intro p hN hp
  have hml : (l.drop p).length = l.length - p := List.length_drop
  refine Ev.step (fun k => token_name.l0.eq_2 ..) ?_
  match hm : l.drop p with
  | [] =>
   rw [hm] at hml
   simp only [List.length_nil] at hml
   refine ev_else (by omega) (ev_now ?_)
   rw [nameS_stop rfl]
   omega
  | c :: r =>
   rw [hm] at hml
   simp only [List.length_cons] at hml
   have cut : ∀ n : Nat, l.drop (p + n) = (c :: r).drop n := fun n => by rw [← hm, List.drop_drop]
   have tp := take_pos c r
   simp only [List.length_cons] at tp
   have hsl := stepN_le (c :: r)
   simp only [List.length_cons] at hsl
   refine ev_if (by omega) (ev_if (by omega) (ev_if (by omega) ?_))
   (try rw [show l.drop ((p : Int)).toNat = c :: r from hm])
   rw [rd_here hm]
   refine Ev.bind (take_ev _) ?_
   have stop : stepN (c :: r) = 0 → ((p : Nat) : Int) = ((p + nameS (c :: r) : Nat) : Int) := fun h => by rw [nameS_stop h]; rfl
   have go : (takeS (c :: r)).2 = true → ((takeS (c :: r)).1 = 1 → nameOf c = true) → Ev (fun k => token_name.l0 k l (wrap64 ((p : Int) + (takeS (c :: r)).1))) ((p + nameS (c :: r) : Nat) : Int) := by
    intro h1 h2
    have es : stepN (c :: r) = (takeS (c :: r)).1.toNat := by rw [stepN, if_pos ⟨h1, h2⟩]
    have e := nameS_go (s := c :: r) (by omega)
    have wn : wrap64 ((p : Int) + (takeS (c :: r)).1) = ((p + (takeS (c :: r)).1.toNat : Nat) : Int) := by rw [w64 (by omega) (by omega)]; omega
    rw [wn]
    refine ev_eq (ih (p + (takeS (c :: r)).1.toNat) (by omega) (by omega)) ?_
    rw [cut, e, es]
    omega
   by_cases h1 : (takeS (c :: r)).2 = true
   ·refine ev_if h1 ?_
    by_cases h2 : (takeS (c :: r)).1 = 1
    ·refine ev_if h2 (ev_same (name_eq c) ?_)
     by_cases h3 : nameOf c = true
     ·exact ev_if h3 (go h1 (fun _ => h3))
     ·exact ev_else h3 (ev_now (stop (by rw [stepN, if_neg (fun h => h3 (h.2 h2))])))
    ·exact ev_else h2 (go h1 (fun h => absurd h h2))
   ·exact ev_else h1 (ev_now (stop (by rw [stepN, if_neg (fun h => h1 h.1)])))
theorem name_ev (l : List Int) (hl : Bytes l) (hn : l.length ≤ 1000000) : Ev (fun k => token_name.f k l) (nameS l : Int) := by
 refine ev_eq (name_loop l hl hn (l.length + 1) 0 (by omega) (by omega)) ?_
 simp
abbrev Scan := Int × Int × ByteArray × Int
theorem named1_ev (l : List Int) (hl : Bytes l) (hn : l.length ≤ 1000000) (kd : Int) : Ev (fun k => token_named1.f k kd l) (kd, (nameS l : Int), strOfNums (l.take (nameS l)), (0 : Int)) := by
 unfold token_named1.f
 have := nameS_le (l.length + 1) l (by omega)
 exact Ev.bind (name_ev l hl hn) (ev_if (by omega) (ev_if (by omega) (ev_now rfl)))
/-- does a dot, with this behind it, end a clause -/
def endsS (l : List Int) : Bool := match l with
 | [] => true
 | c :: _ => classOf c == 1 || classOf c == 8
/-- symbols -/
def symbolS (l : List Int) : Scan := (if l.take (runS l 5) = [46] ∧ endsS (l.drop (runS l 5)) = true then 7 else 2, (runS l 5 : Int), strOfNums (l.take (runS l 5)), 0)
theorem str_dot {m : List Int} (hm : Bytes m) : ((strOfNums m).toList = ([46] : List UInt8)) ↔ m = [46] := by
 rw [strOf_list]
 match m with
 | [] => simp
 | [c] =>
  have hc := hm c (by simp)
  constructor
  ·intro h
   simp only [List.map_cons, List.map_nil, List.cons.injEq, and_true] at h
   rw [u8_inj hc (y := 46) (by omega) h]
  ·intro h
   rw [List.cons.injEq] at h
   rw [h.1]; rfl
 | c :: d :: r => simp
theorem symbol_ev (l : List Int) (hl : Bytes l) (hn : l.length ≤ 1000000) : Ev (fun k => token_symbol.f k l) (symbolS l) := by
 unfold token_symbol.f symbolS
 have hle := runS_le l 5
 refine Ev.bind (run_ev l 5 (by omega)) (ev_if (by omega) (ev_if (by omega) ?_))
 rw [show ((runS l 5 : Int)).toNat = runS l 5 from rfl]
 by_cases h : l.take (runS l 5) = [46]
 ·refine ev_if ((str_dot (hl.take _)).2 h) ?_
  match hm : l.drop (runS l 5) with
  | [] =>
   have hml : (l.drop (runS l 5)).length = l.length - runS l 5 := List.length_drop
   rw [hm] at hml
   simp only [List.length_nil] at hml
   refine ev_if (by omega) (ev_now ?_)
   rw [if_pos ⟨h, rfl⟩]
  | c :: r =>
   have hml : (l.drop (runS l 5)).length = l.length - runS l 5 := List.length_drop
   rw [hm] at hml
   simp only [List.length_cons] at hml
   refine ev_else (by omega) (ev_if (by omega) ?_)
   rw [rd_here hm]
   refine ev_same (class_of c) ?_
   by_cases h1 : classOf c = 1
   ·refine ev_if h1 (ev_now ?_)
    rw [if_pos ⟨h, by simp [endsS, h1]⟩]
   ·refine ev_else h1 (ev_same (class_of c) ?_)
    by_cases h8 : classOf c = 8
    ·refine ev_if h8 (ev_now ?_)
     rw [if_pos ⟨h, by simp [endsS, h8]⟩]
    ·refine ev_else h8 (ev_now ?_)
     rw [if_neg (by simp [endsS, h1, h8])]
 ·refine ev_else (fun h2 => h ((str_dot (hl.take _)).1 h2)) (ev_now ?_)
  rw [if_neg (fun h2 => h h2.1)]
def numberS (l : List Int) : Scan := (4, (takeD l).2.1, strOfNums (l.take (takeD l).2.1.toNat), (takeD l).2.2)
theorem takeD_le (l : List Int) : (takeD l).2.1 = (runS l 4 : Int) := by
 unfold takeD
 by_cases h : runS l 4 = 0
 ·rw [if_pos h, h]; rfl
 ·rw [if_neg h]
  cases numS 0 (headD l) <;> rfl
theorem number_ev (l : List Int) (hl : Bytes l) (hn : l.length ≤ 1000000) : Ev (fun k => token_number.f k l) (numberS l) := by
 unfold token_number.f numberS
 have hle := runS_le l 4
 have e := takeD_le l
 exact Ev.bind (dtake_ev l hl hn) (ev_if (by omega) (ev_if (by omega) (ev_now rfl)))
def quotedS (l : List Int) : Scan := (5, (quoteS l).2.1, strOfNums (quoteS l).1, (quoteS l).2.2)
theorem quoted_ev (l : List Int) (hl : Bytes l) (hn : l.length ≤ 1000000) : Ev (fun k => token_quoted.f k l) (quotedS l) := by
 unfold token_quoted.f quotedS
 exact Ev.bind (quote_ev l hl hn) (ev_now rfl)
def highS (l : List Int) : Scan := if (takeS l).2 = true then (1, (nameS l : Int), strOfNums (l.take (nameS l)), 0) else (0, 1, ⟨#[]⟩, 10)
theorem high_ev (l : List Int) (hl : Bytes l) (hn : l.length ≤ 1000000) : Ev (fun k => token_high.f k l) (highS l) := by
 unfold token_high.f highS
 refine Ev.bind (take_ev l) ?_
 by_cases h : (takeS l).2 = true
 ·rw [if_pos h]; exact ev_if h (named1_ev l hl hn 1)
 ·rw [if_neg h]; exact ev_else h (ev_now rfl)
/-- a token at the beginning, by its first byte's class: as_ it is scanned -/
def scanS (c : Int) (l : List Int) : Scan :=
 if c = 2 then (1, (nameS l : Int), strOfNums (l.take (nameS l)), 0) else if c = 3 then (3, (nameS l : Int), strOfNums (l.take (nameS l)), 0) else if c = 9 then highS l else if c = 5 then symbolS l else if c = 4 then numberS l
 else if c = 7 then quotedS l else if c = 6 then (6, 1, strOfNums (l.take 1), 0) else (0, 1, ⟨#[]⟩, 11)
theorem class_all : ∀ n : Nat, n < 256 → 0 ≤ classOf (n : Int) ∧ classOf (n : Int) ≤ 9 := by decide +kernel
theorem class_range {c : Int} (h : 0 ≤ c ∧ c < 256) : 0 ≤ classOf c ∧ classOf c ≤ 9 := byte_all (p := fun c => 0 ≤ classOf c ∧ classOf c ≤ 9) class_all h
theorem scan_ev (l : List Int) (h0 : l ≠ []) (hl : Bytes l) (hn : l.length ≤ 1000000) (c : Int) (hc : 0 ≤ c ∧ c ≤ 9) : Ev (fun k => token_scan.f k c l) (scanS c l) := by
 unfold token_scan.f scanS
 by_cases h2 : c = 2
 ·rw [if_pos h2]; exact ev_if h2 (named1_ev l hl hn 1)
 rw [if_neg h2]; refine ev_else h2 ?_
 by_cases h3 : c = 3
 ·rw [if_pos h3]; exact ev_if h3 (named1_ev l hl hn 3)
 rw [if_neg h3]; refine ev_else h3 ?_
 by_cases h9 : c = 9
 ·rw [if_pos h9]; exact ev_if h9 (high_ev l hl hn)
 rw [if_neg h9]; refine ev_else h9 ?_
 by_cases h5 : c = 5
 ·rw [if_pos h5]; exact ev_if h5 (symbol_ev l hl hn)
 rw [if_neg h5]; refine ev_else h5 ?_
 by_cases h4 : c = 4
 ·rw [if_pos h4]; exact ev_if h4 (number_ev l hl hn)
 rw [if_neg h4]; refine ev_else h4 ?_
 by_cases h7 : c = 7
 ·rw [if_pos h7]; exact ev_if h7 (quoted_ev l hl hn)
 rw [if_neg h7]; refine ev_else h7 ?_
 have h1 : 1 ≤ (l.length : Int) := by
  cases l with
  | nil => exact absurd rfl h0
  | cons a t => simp only [List.length_cons]; omega
 by_cases h6 : c = 6
 ·simp only [if_pos h6]
  unfold token_solo.f
  exact ev_if h1 (ev_now rfl)
 simp only [if_neg h6]
 have ho : Ev (fun _ => token_other.f l) ((0, 1, ⟨#[]⟩, 11) : Scan) := Ev.now _
 by_cases e0 : c = 0
 ·simp only [if_pos e0]; exact ho
 simp only [if_neg e0]
 by_cases e1 : c = 1
 ·simp only [if_pos e1]; exact ho
 simp only [if_neg e1]
 have e8 : c = 8 := by omega
 simp only [if_pos e8]; exact ho
/-- a token at the beginning, as_ it is told -/
def tokS (l : List Int) : Scan := if (scanS (classOf (l.headD 0)) l).2.2.2 = 0 then scanS (classOf (l.headD 0)) l else (8, (scanS (classOf (l.headD 0)) l).2.1, ⟨#[]⟩, (scanS (classOf (l.headD 0)) l).2.2.2)
abbrev Tok := Int × Int × Int × ByteArray × Int × Bool
def noTok : Tok := (0, 0, 0, ⟨#[]⟩, 0, false)
/-- the first token behind p -/
def behindS (l : List Int) (p : Nat) : Tok :=
 if (skipS (l.drop p)).2 ≠ 0 then (8, ((p + (skipS (l.drop p)).1 : Nat) : Int), (l.length : Int), ⟨#[]⟩, (skipS (l.drop p)).2, true)
 else if l.drop (p + (skipS (l.drop p)).1) = [] then noTok
 else ((tokS (l.drop (p + (skipS (l.drop p)).1))).1, ((p + (skipS (l.drop p)).1 : Nat) : Int), ((p + (skipS (l.drop p)).1 : Nat) : Int) + (tokS (l.drop (p + (skipS (l.drop p)).1))).2.1, (tokS (l.drop (p + (skipS (l.drop p)).1))).2.2.1, (tokS (l.drop (p + (skipS (l.drop p)).1))).2.2.2, true)
def nextS (l : List Int) (a : Int) : Tok := if a < 0 ∨ a > (l.length : Int) then noTok else behindS l a.toNat
theorem resQ_le {acc s : List Int} {p : Nat} : (resQ acc p (textQ s)).2.1 = ((p + (textQ s).2.1 : Nat) : Int) := by
 unfold resQ
 split <;> rfl
theorem textQ_le (N : Nat) : ∀ s : List Int, s.length < N → (textQ s).2.1 ≤ s.length := by
 induction N with
 | zero => intro s h; omega
 | succ N ih =>
  intro s h
  have hs := itemQ_le s
  by_cases h0 : (itemQ s).2.2 = 0
  ·have e := textQ_go h0
   have h1 := hs.2.1 h0
   have := ih (s.drop (itemQ s).2.1) (by rw [List.length_drop]; omega)
   rw [List.length_drop] at this
   have e1 := congrArg (fun t => t.2.1) e
   simp only at e1
   omega
  ·rw [textQ_stop h0]; exact hs.1
theorem quoteS_le (l : List Int) : 0 ≤ (quoteS l).2.1 ∧ (quoteS l).2.1 ≤ (l.length : Int) := by
 unfold quoteS
 by_cases h : l.headD 0 = 39
 ·rw [if_pos h, resQ_le]
  cases l with
  | nil => exact absurd h (by decide)
  | cons c r =>
   have := textQ_le (r.length + 1) r (by omega)
   simp only [List.drop_succ_cons, List.drop_zero, List.length_cons]
   omega
 ·rw [if_neg h]; simp
theorem scanS_le (c : Int) {l : List Int} (h : l ≠ []) : 0 ≤ (scanS c l).2.1 ∧ (scanS c l).2.1 ≤ (l.length : Int) := by
 have hn := nameS_le (l.length + 1) l (by omega)
 have h1 : 1 ≤ l.length := by
  cases l with
  | nil => exact absurd rfl h
  | cons a t => simp
 unfold scanS
 split
 ·simp only; omega
 split
 ·simp only; omega
 split
 ·unfold highS
  split
  ·simp only; omega
  ·simp only; omega
 split
 ·have := runS_le l 5
  unfold symbolS; simp only; omega
 split
 ·have := runS_le l 4
  have e := takeD_le l
  unfold numberS; simp only; omega
 split
 ·have := quoteS_le l
  unfold quotedS; simp only; omega
 split
 ·simp only; omega
 ·simp only; omega
theorem next_ev (l : List Int) (hl : Bytes l) (hn : l.length ≤ 1000000) (a : Int) : Ev (fun k => token_Next.f k l a) (nextS l a) := by
 unfold token_Next.f nextS
 by_cases h1 : a < 0
 ·rw [if_pos (.inl h1)]; exact ev_if h1 (ev_now rfl)
 refine ev_else h1 ?_
 by_cases h2 : a > (l.length : Int)
 ·rw [if_pos (.inr h2)]; exact ev_if h2 (ev_now rfl)
 refine ev_else h2 ?_
 rw [if_neg (fun h => h.elim h1 h2)]
 obtain ⟨p, rfl⟩ : ∃ p : Nat, a = (p : Int) := ⟨a.toNat, by omega⟩
 rw [show ((p : Int)).toNat = p from rfl]
 have hd := hl.drop p
 have hml : (l.drop p).length = l.length - p := List.length_drop
 refine Ev.bind (skip_ev _ hd (by omega)) ?_
 have hsl := skipS_le ((l.drop p).length + 1) (l.drop p) (by omega)
 unfold behindS
 generalize hS : skipS (l.drop p) = S at hsl
 obtain ⟨n, e⟩ := S
 simp only at hsl ⊢
 have wn : wrap64 ((p : Int) + (n : Int)) = ((p + n : Nat) : Int) := by rw [w64 (by omega) (by omega)]; omega
 rw [wn]
 unfold token_Next.g
 by_cases he : e = 0
 ·refine ev_if he ?_
  rw [if_neg (by simp [he])]
  have hml2 : (l.drop (p + n)).length = l.length - (p + n) := List.length_drop
  match hm : l.drop (p + n) with
  | [] =>
   rw [hm] at hml2
   simp only [List.length_nil] at hml2
   rw [if_pos rfl]
   exact ev_if (by omega) (ev_now rfl)
  | c :: r =>
   rw [hm] at hml2
   simp only [List.length_cons] at hml2
   rw [if_neg (by simp)]
   refine ev_else (by omega) (ev_if (by omega) (ev_if (by omega) ?_))
   rw [rd_here hm]
   have hb : Bytes (c :: r) := by rw [← hm]; exact hl.drop _
   refine ev_same (class_of c) (Ev.bind (scan_ev (c :: r) (by simp) hb (by simp only [List.length_cons]; omega) (classOf c) (class_range hb.cons.1)) ?_)
   have hsz := scanS_le (classOf c) (l := c :: r) (by simp)
   simp only [List.length_cons] at hsz
   have ws : wrap64 (((p + n : Nat) : Int) + (scanS (classOf c) (c :: r)).2.1) = ((p + n : Nat) : Int) + (scanS (classOf c) (c :: r)).2.1 := by rw [w64 (by omega) (by omega)]
   rw [ws]
   unfold tokS
   rw [show (c :: r).headD 0 = c from rfl]
   by_cases h0 : (scanS (classOf c) (c :: r)).2.2.2 = 0
   ·simp only [if_pos h0]
    exact ev_now (by rw [h0])
   ·simp only [if_neg h0]
    exact ev_now rfl
 ·rw [if_pos he]
  exact ev_else he (ev_now rfl)
end Go.Proofs.YtpkklbdclghcfaaDoor.P
namespace Go.Proofs.YtpkklbdclghcfaaDoor.P
set_option linter.unusedSimpArgs false
set_option linter.unusedVariables false
open Go.RowKit Go.Proofs.YtpkklbdclghcfaaDoor.P Go.Proofs.YtpkklbdclghcfaaDoorW.PrintWords Go.Proofs.YtpkklbdclghcfaaDoorW.PrintLast Go.Proofs.YtpkklbdclghcfaaDoorW.PrintMore
theorem flow_all : ∀ n : Nat, n < 256 → nameOf (n : Int) = true → (n : Int) < 128 := by decide +kernel
theorem fname_low {c : Int} (h : 0 ≤ c ∧ c < 256) : nameOf c = true → c < 128 := byte_all (p := fun c => nameOf c = true → c < 128) flow_all h
theorem fhigh_all : ∀ n : Nat, n < 256 → classOf (n : Int) = 9 → 128 ≤ (n : Int) := by decide +kernel
theorem fclass_high {c : Int} (h : 0 ≤ c ∧ c < 256) : classOf c = 9 → 128 ≤ c := byte_all (p := fun c => classOf c = 9 → 128 ≤ c) fhigh_all h
theorem fquote_all : ∀ n : Nat, n < 256 → classOf (n : Int) = 7 → (n : Int) = 39 := by decide +kernel
theorem fclass_quote {c : Int} (h : 0 ≤ c ∧ c < 256) : classOf c = 7 → c = 39 := byte_all (p := fun c => classOf c = 7 → c = 39) fquote_all h
theorem ftake_low {c : Int} (h : c < 128) (r : List Int) : takeS (c :: r) = (1, true) := by
 have e : uLong c = 1 := by unfold uLong; rw [if_pos h]
 rw [takeS_cons, e]; rfl
theorem ftake_high {c : Int} (h : 128 ≤ c) {r : List Int} (ho : (takeS (c :: r)).2 = true) : (takeS (c :: r)).1 > 1 := by
 rw [takeS_cons] at ho ⊢
 by_cases h0 : uLong c = 0
 ·rw [if_pos h0] at ho; cases ho
 rw [if_neg h0] at ho ⊢
 by_cases h1 : restOk (uLong c - 1) (uLo c) (uHi c) r = true
 ·rw [if_pos h1]
  have : uLong c ≠ 1 := by
   unfold uLong
   rw [if_neg (by omega)]
   split
   ·omega
   split
   ·omega
   split <;> omega
  simp only
  omega
 ·rw [if_neg h1] at ho; cases ho
theorem stepN_name {c : Int} (hc : 0 ≤ c ∧ c < 256) (r : List Int) (h : nameOf c = true) : stepN (c :: r) = 1 := by
 rw [stepN, ftake_low (fname_low hc h), if_pos ⟨rfl, fun _ => h⟩]; rfl
/-- what the errors are -/
theorem textQ_code (N : Nat) : ∀ s : List Int, s.length < N → (textQ s).2.2 = -1 ∨ (10 ≤ (textQ s).2.2 ∧ (textQ s).2.2 ≤ 13) := by
 induction N with
 | zero => intro s h; omega
 | succ N ih =>
  intro s h
  have hs := itemQ_le s
  by_cases h0 : (itemQ s).2.2 = 0
  ·have e := textQ_go h0
   have h1 := hs.2.1 h0
   have e2 := congrArg (fun t => t.2.2) e
   simp only at e2
   rw [e2]
   exact ih (s.drop (itemQ s).2.1) (by rw [List.length_drop]; omega)
  ·rw [textQ_stop h0]
   match s with
   | [] => right; simp [itemQ]
   | c :: r =>
    rw [itemQ] at h0 ⊢
    repeat' split
    all_goals simp_all
/-- The seven. -/
theorem tok_cases (c : Int) (r : List Int) (hb : Bytes (c :: r)) :
  (tokS (c :: r) = (1, (nameS (c :: r) : Int), strOfNums ((c :: r).take (nameS (c :: r))), 0) ∧ (classOf c = 2 ∨ classOf c = 9) ∧ 1 ≤ nameS (c :: r)) ∨
  (tokS (c :: r) = (3, (nameS (c :: r) : Int), strOfNums ((c :: r).take (nameS (c :: r))), 0) ∧ classOf c = 3 ∧ 1 ≤ nameS (c :: r)) ∨
  (tokS (c :: r) = symbolS (c :: r) ∧ classOf c = 5 ∧ 1 ≤ runS (c :: r) 5) ∨
  (tokS (c :: r) = (4, (runS (c :: r) 4 : Int), strOfNums ((c :: r).take (runS (c :: r) 4)), 0) ∧ classOf c = 4 ∧ 1 ≤ runS (c :: r) 4) ∨
  (∃ tx, tokS (c :: r) = (5, ((1 + (textQ r).2.1 : Nat) : Int), tx, 0) ∧ c = 39 ∧ classOf c = 7 ∧ (textQ r).2.2 = -1) ∨
  (tokS (c :: r) = (6, 1, strOfNums ((c :: r).take 1), 0) ∧ classOf c = 6) ∨
  (∃ (n : Nat) (e : Int), tokS (c :: r) = (8, (n : Int), ⟨#[]⟩, e) ∧ e ≠ 0 ∧ 1 ≤ n ∧ n ≤ (c :: r).length) := by
 have hcb := hb.cons.1
 have hh : (c :: r).headD 0 = c := rfl
 have good : ∀ {kd sz : Int} {tx : ByteArray}, scanS (classOf c) (c :: r) = (kd, sz, tx, 0) → tokS (c :: r) = (kd, sz, tx, 0) := by
  intro kd sz tx h
  unfold tokS; rw [hh, h]; rfl
 have bad : ∀ {kd sz e : Int} {tx : ByteArray}, scanS (classOf c) (c :: r) = (kd, sz, tx, e) → e ≠ 0 → tokS (c :: r) = (8, sz, ⟨#[]⟩, e) := by
  intro kd sz e tx h he
  unfold tokS; rw [hh, h]; simp only; rw [if_neg he]
 have one : ∀ {s : List Int}, s = c :: r → stepN s ≠ 0 → 1 ≤ nameS s := by
  intro s _ h
  have e := nameS_go h
  omega
 by_cases h2 : classOf c = 2
 ·left
  refine ⟨good (by rw [scanS, if_pos h2]), .inl h2, one rfl ?_⟩
  rw [stepN_name hcb r (by simp [nameOf, h2])]; omega
 by_cases h9o : classOf c = 9 ∧ (takeS (c :: r)).2 = true
 ·left
  have hgt := ftake_high (fclass_high hcb h9o.1) h9o.2
  refine ⟨good (by rw [scanS, if_neg h2, if_neg (by omega), if_pos h9o.1, highS, if_pos h9o.2]), .inr h9o.1, one rfl ?_⟩
  rw [stepN, if_pos ⟨h9o.2, fun h => by omega⟩]
  omega
 right
 by_cases h3 : classOf c = 3
 ·left
  refine ⟨good (by rw [scanS, if_neg h2, if_pos h3]), h3, one rfl ?_⟩
  rw [stepN_name hcb r (by simp [nameOf, h3])]; omega
 by_cases h9 : classOf c = 9
 ·by_cases ho : (takeS (c :: r)).2 = true
  ·exact absurd ⟨h9, ho⟩ h9o
  ·right; right; right; right; right
   exact ⟨1, 10, bad (by rw [scanS, if_neg h2, if_neg h3, if_pos h9, highS, if_neg ho]; rfl) (by decide), by decide, by omega, by simp⟩
 right
 by_cases h5 : classOf c = 5
 ·left
  refine ⟨?_, h5, ?_⟩
  ·have e : scanS (classOf c) (c :: r) = symbolS (c :: r) := by rw [scanS, if_neg h2, if_neg h3, if_neg h9, if_pos h5]
   unfold tokS
   rw [hh, e]; rfl
  ·rw [runS_cons, if_pos h5]; omega
 right
 have hr4 : classOf c = 4 → 1 ≤ runS (c :: r) 4 := fun h => by rw [runS_cons, if_pos h]; omega
 by_cases h4 : classOf c = 4
 ·have e : scanS (classOf c) (c :: r) = numberS (c :: r) := by rw [scanS, if_neg h2, if_neg h3, if_neg h9, if_neg h5, if_pos h4]
  have e1 := takeD_le (c :: r)
  have hle := runS_le (c :: r) 4
  by_cases he : (takeD (c :: r)).2.2 = 0
  ·left
   refine ⟨good (e.trans ?_), h4, hr4 h4⟩
   unfold numberS; rw [e1, he]; rfl
  ·right; right; right
   refine ⟨runS (c :: r) 4, (takeD (c :: r)).2.2, bad (kd := 4) (tx := strOfNums ((c :: r).take ((runS (c :: r) 4 : Int)).toNat)) (e.trans ?_) he, he, hr4 h4, hle⟩
   unfold numberS; rw [e1]
 right
 by_cases h7 : classOf c = 7
 ·have c39 := fclass_quote hcb h7
  have e : scanS (classOf c) (c :: r) = quotedS (c :: r) := by rw [scanS, if_neg h2, if_neg h3, if_neg h9, if_neg h5, if_neg h4, if_pos h7]
  have eq : quoteS (c :: r) = resQ [] 1 (textQ r) := by unfold quoteS; rw [hh, if_pos c39]; rfl
  have hq := textQ_code (r.length + 1) r (by omega)
  have hl := textQ_le (r.length + 1) r (by omega)
  by_cases he : (textQ r).2.2 = -1
  ·left
   refine ⟨strOfNums ([] ++ (textQ r).1), good (e.trans ?_), c39, h7, he⟩
   unfold quotedS; rw [eq]; unfold resQ; rw [if_pos he]
  ·right; right
   refine ⟨1 + (textQ r).2.1, (textQ r).2.2, bad (kd := 5) (tx := strOfNums []) (e.trans ?_) (by omega), by omega, by omega, by simp only [List.length_cons]; omega⟩
   unfold quotedS; rw [eq]; unfold resQ; rw [if_neg he]
 right
 by_cases h6 : classOf c = 6
 ·left
  exact ⟨good (by rw [scanS, if_neg h2, if_neg h3, if_neg h9, if_neg h5, if_neg h4, if_neg h7, if_pos h6]), h6⟩
 ·right
  exact ⟨1, 11, bad (by rw [scanS, if_neg h2, if_neg h3, if_neg h9, if_neg h5, if_neg h4, if_neg h7, if_neg h6]; rfl) (by decide), by decide, by omega, by simp⟩
end Go.Proofs.YtpkklbdclghcfaaDoor.P
namespace Go.Proofs.YtpkklbdclghcfaaDoor.P
set_option linter.unusedSimpArgs false
set_option linter.unusedVariables false
open Go.RowKit Go.Proofs.YtpkklbdclghcfaaDoor.P Go.Proofs.YtpkklbdclghcfaaDoorW.PrintWords Go.Proofs.YtpkklbdclghcfaaDoorW.PrintLast Go.Proofs.YtpkklbdclghcfaaDoorW.PrintMore
abbrev TokR := S38
theorem TokR.same {x y : TokR} (h0 : x.f0 = y.f0) (h1 : x.f1 = y.f1) (h2 : x.f2 = y.f2) (h3 : x.f3 = y.f3) (h4 : x.f4 = y.f4) : x = y := by
 obtain ⟨a, b, c, d, e⟩ := x
 obtain ⟨a', b', c', d', e'⟩ := y
 simp only at h0 h1 h2 h3 h4
 rw [h0, h1, h2, h3, h4]
def shiftT (n : Nat) (t : TokR) : TokR := ⟨t.f0, t.f1 + (n : Int), t.f2 + (n : Int), t.f3, t.f4⟩
theorem shiftT_zero (t : TokR) : shiftT 0 t = t := TokR.same rfl (by show t.f1 + ((0 : Nat) : Int) = t.f1; omega) (by show t.f2 + ((0 : Nat) : Int) = t.f2; omega) rfl rfl
theorem shiftT_two (m n : Nat) (t : TokR) : shiftT m (shiftT n t) = shiftT (m + n) t := TokR.same rfl (by show t.f1 + (n : Int) + (m : Int) = t.f1 + ((m + n : Nat) : Int); omega) (by show t.f2 + (n : Int) + (m : Int) = t.f2 + ((m + n : Nat) : Int); omega) rfl rfl
theorem map_shift (m n : Nat) (l : List TokR) : (l.map (shiftT n)).map (shiftT m) = l.map (shiftT (m + n)) := by rw [List.map_map]; congr 1; funext t; exact shiftT_two m n t
theorem map_zero (l : List TokR) : l.map (shiftT 0) = l := by
 have : shiftT 0 = id := by funext t; exact shiftT_zero t
 rw [this, List.map_id]
/-- the place behind the layout, and the token there; nothing: there is none -/
def headT (s : List Int) : Option (Nat × TokR) :=
 if (skipS s).2 ≠ 0 then some (s.length, ⟨8, ((skipS s).1 : Int), (s.length : Int), ⟨#[]⟩, (skipS s).2⟩)
 else if s.drop (skipS s).1 = [] then none
 else some ((skipS s).1 + (tokS (s.drop (skipS s).1)).2.1.toNat, ⟨(tokS (s.drop (skipS s).1)).1, ((skipS s).1 : Int), ((skipS s).1 : Int) + (tokS (s.drop (skipS s).1)).2.1, (tokS (s.drop (skipS s).1)).2.2.1, (tokS (s.drop (skipS s).1)).2.2.2⟩)
theorem tokS_size (l : List Int) : (tokS l).2.1 = (scanS (classOf (l.headD 0)) l).2.1 := by
 unfold tokS
 split <;> rfl
theorem tok_size {s : List Int} (hb : Bytes s) (h : s ≠ []) : 1 ≤ (tokS s).2.1 ∧ (tokS s).2.1 ≤ (s.length : Int) := by
 have hle := scanS_le (classOf (s.headD 0)) h
 rw [← tokS_size] at hle
 refine ⟨?_, hle.2⟩
 match s, h with
 | c :: r, _ =>
  rcases tok_cases c r hb with ⟨e, _, h1⟩ | ⟨e, _, h1⟩ | ⟨e, _, h1⟩ | ⟨e, _, h1⟩ | ⟨tx, e, _⟩ | ⟨e, _⟩ | ⟨n, e', e, _, h1, _⟩
  ·rw [e]; simp only; omega
  ·rw [e]; simp only; omega
  ·rw [e]; unfold symbolS; simp only; omega
  ·rw [e]; simp only; omega
  ·rw [e]; simp only; omega
  ·rw [e]; simp
  ·rw [e]; simp only; omega
theorem skip_bad {s : List Int} (h : (skipS s).2 ≠ 0) : (skipS s).1 < s.length := by
 have h1 := skipS_end (s.length + 1) s (Nat.lt_succ_self _)
 have h2 := skipS_le (s.length + 1) s (Nat.lt_succ_self _)
 rcases Nat.lt_or_ge (skipS s).1 s.length with h3 | h3
 ·exact h3
 ·rw [List.drop_of_length_le h3] at h1
  have : (0 : Int) = (skipS s).2 := congrArg Prod.snd h1
  exact absurd this.symm h
/-- a token's places -/
theorem headT_bd {s : List Int} (hb : Bytes s) {n : Nat} {t : TokR} (h : headT s = some (n, t)) : 1 ≤ n ∧ n ≤ s.length ∧ t.f1 = ((skipS s).1 : Int) ∧ t.f2 = (n : Int) ∧ t.f1 < t.f2 := by
 have hle := skipS_le (s.length + 1) s (Nat.lt_succ_self _)
 unfold headT at h
 by_cases h1 : (skipS s).2 ≠ 0
 ·rw [if_pos h1] at h
  have := skip_bad h1
  simp only [Option.some.injEq, Prod.mk.injEq] at h
  obtain ⟨rfl, rfl⟩ := h
  refine ⟨by omega, Nat.le_refl _, rfl, rfl, ?_⟩
  simp only
  omega
 ·rw [if_neg h1] at h
  by_cases h2 : s.drop (skipS s).1 = []
  ·rw [if_pos h2] at h; cases h
  ·rw [if_neg h2] at h
   have hs := tok_size (hb.drop (skipS s).1) h2
   have hp : 0 < (s.drop (skipS s).1).length := List.length_pos_iff.2 h2
   rw [List.length_drop] at hs hp
   simp only [Option.some.injEq, Prod.mk.injEq] at h
   obtain ⟨rfl, rfl⟩ := h
   simp only
   generalize (tokS (s.drop (skipS s).1)).2.1 = z at hs
   generalize (skipS s).1 = y at hs hle hp
   exact ⟨by omega, by omega, trivial, by omega, by omega⟩
/-- all tokens -/
def lexS (s : List Int) : List TokR := match headT s with
 | none => []
 | some (n, t) => if h : 1 ≤ n ∧ n ≤ s.length then t :: (lexS (s.drop n)).map (shiftT n) else []
termination_by s.length
decreasing_by rw [List.length_drop]; omega
theorem lexS_none {s : List Int} (h : headT s = none) : lexS s = [] := by rw [lexS, h]
theorem lexS_some {s : List Int} (hb : Bytes s) {n : Nat} {t : TokR} (h : headT s = some (n, t)) : lexS s = t :: (lexS (s.drop n)).map (shiftT n) := by
 have hd := headT_bd hb h
 rw [lexS, h]
 simp only
 rw [dif_pos ⟨hd.1, hd.2.1⟩]
/-- what token.Next tells at a place -/
theorem next_head (l : List Int) (p : Nat) (hp : p ≤ l.length) : nextS l (p : Int) = match headT (l.drop p) with
  | none => noTok
  | some (n, t) => (t.f0, t.f1 + (p : Int), t.f2 + (p : Int), t.f3, t.f4, true) := by
 have b1 : nextS l (p : Int) = behindS l p := by
  unfold nextS
  rw [if_neg (fun h => by omega)]; rfl
 rw [b1]
 unfold behindS headT
 have hml : (l.drop p).length = l.length - p := List.length_drop
 by_cases h1 : (skipS (l.drop p)).2 ≠ 0
 ·rw [if_pos h1, if_pos h1]
  simp only [Prod.mk.injEq, true_and, and_true]
  omega
 ·rw [if_neg h1, if_neg h1, List.drop_drop]
  by_cases h2 : l.drop (p + (skipS (l.drop p)).1) = []
  ·rw [if_pos h2, if_pos h2]
  ·rw [if_neg h2, if_neg h2]
   simp only [Prod.mk.injEq, true_and, and_true]
   omega
theorem lexAll_loop (l : List Int) (hl : Bytes l) (hn : l.length ≤ 1000000) (N : Nat) : ∀ (p : Nat) (acc : List TokR), l.length - p < N → p ≤ l.length → acc.length ≤ p →
  Ev (fun k => lex_All.l0 k l acc (p : Int)) (acc ++ (lexS (l.drop p)).map (shiftT p)) := by
 induction N with
 | zero => intro p acc h; omega
 | succ N ih =>
  intro p acc hN hp ha
  refine Ev.step (fun k => lex_All.l0.eq_2 ..) (Ev.bind (next_ev l hl hn (p : Int)) ?_)
  rw [next_head l p hp]
  cases hh : headT (l.drop p) with
  | none =>
   rw [lexS_none hh]
   exact ev_else (by simp [noTok]) (ev_now (by simp))
  | some q =>
   obtain ⟨n, t⟩ := q
   have hb := headT_bd (hl.drop p) hh
   rw [List.length_drop] at hb
   rw [lexS_some (hl.drop p) hh, List.drop_drop]
   refine ev_if rfl (ev_if (by omega) ?_)
   have e2 : t.f2 + (p : Int) = ((p + n : Nat) : Int) := by omega
   simp only
   rw [e2]
   refine ev_eq (ih (p + n) _ (by omega) (by omega) (by simp; omega)) ?_
   rw [List.append_assoc, List.singleton_append, List.map_cons, map_shift]
   congr 2
   exact TokR.same rfl rfl (by show ((p + n : Nat) : Int) = t.f2 + (p : Int); omega) rfl rfl
theorem lexAll_ev (l : List Int) (hl : Bytes l) (hn : l.length ≤ 1000000) : Ev (fun k => lex_All.f k l) (lexS l) := by
 have h := lexAll_loop l hl hn (l.length + 1) 0 [] (by omega) (by omega) (by simp)
 rw [List.drop_zero, List.nil_append, map_zero] at h
 exact h
theorem lexS_len (N : Nat) : ∀ s : List Int, s.length < N → Bytes s → (lexS s).length ≤ s.length := by
 induction N with
 | zero => intro s h; omega
 | succ N ih =>
  intro s hN hb
  cases hh : headT s with
  | none => rw [lexS_none hh]; simp
  | some q =>
   obtain ⟨n, t⟩ := q
   have hd := headT_bd hb hh
   have := ih (s.drop n) (by rw [List.length_drop]; omega) (hb.drop n)
   rw [List.length_drop] at this
   rw [lexS_some hb hh]
   simp only [List.length_cons, List.length_map]
   omega
end Go.Proofs.YtpkklbdclghcfaaDoor.P
namespace Go.Proofs.YtpkklbdclghcfaaDoor.P
set_option linter.unusedSimpArgs false
set_option linter.unusedVariables false
open Go.RowKit Go.Proofs.YtpkklbdclghcfaaDoor.P Go.Proofs.YtpkklbdclghcfaaDoorW.PrintWords Go.Proofs.YtpkklbdclghcfaaDoorW.PrintLast Go.Proofs.YtpkklbdclghcfaaDoorW.PrintMore
abbrev PieceR := S25
/-- each part ends with an end (kind 7), or with the row -/
def partsS : List TokR → List (List TokR)
 | [] => []
 | t :: r => if t.f0 = 7 then [t] :: partsS r else match partsS r with
  | [] => [[t]]
  | p :: ps => (t :: p) :: ps
theorem parts_end {t : TokR} (h : t.f0 = 7) (r : List TokR) : partsS (t :: r) = [t] :: partsS r := by rw [partsS, if_pos h]
theorem parts_nil {l : List TokR} (h : partsS l = []) : l = [] := by
 cases l with
 | nil => rfl
 | cons t r =>
  rw [partsS] at h
  split at h
  ·cases h
  ·split at h <;> cases h
theorem parts_go {t : TokR} (h : t.f0 ≠ 7) {r : List TokR} {p : List TokR} {ps : List (List TokR)} (hp : partsS r = p :: ps) : partsS (t :: r) = (t :: p) :: ps := by rw [partsS, if_neg h, hp]
theorem parts_flat (l : List TokR) : (partsS l).flatten = l := by
 induction l with
 | nil => rfl
 | cons t r ih =>
  by_cases h : t.f0 = 7
  ·rw [parts_end h, List.flatten_cons, ih]; rfl
  ·cases hp : partsS r with
   | nil => rw [parts_nil hp, partsS, if_neg h]; rfl
   | cons p ps =>
    rw [parts_go h hp, List.flatten_cons, List.cons_append, ← List.flatten_cons, ← hp, ih]
theorem parts_ne (l : List TokR) : ∀ p ∈ partsS l, p ≠ [] := by
 induction l with
 | nil => intro p h; cases h
 | cons t r ih =>
  intro p h
  by_cases h7 : t.f0 = 7
  ·rw [parts_end h7] at h
   rcases List.mem_cons.1 h with rfl | h
   ·simp
   ·exact ih p h
  ·cases hp : partsS r with
   | nil =>
    rw [partsS, if_neg h7, hp] at h
    rcases List.mem_cons.1 h with rfl | h
    ·simp
    ·cases h
   | cons q qs =>
    rw [parts_go h7 hp] at h
    rcases List.mem_cons.1 h with rfl | h
    ·simp
    ·exact ih p (by rw [hp]; exact List.mem_cons_of_mem _ h)
/-- where the first end stands -/
def endAt (l : List TokR) : Option Nat := l.findIdx? fun t => t.f0 == 7
theorem endAt_cons (t : TokR) (r : List TokR) : endAt (t :: r) = if t.f0 = 7 then some 0 else (endAt r).map (· + 1) := by
 unfold endAt
 rw [List.findIdx?_cons]
 by_cases h : t.f0 = 7
 ·rw [if_pos h, if_pos (by simp [h])]
 ·rw [if_neg h, if_neg (by simp [h])]
theorem endAt_lt : ∀ {l : List TokR} {j : Nat}, endAt l = some j → j < l.length
 | [], j, h => by cases h
 | t :: r, j, h => by
  rw [endAt_cons] at h
  by_cases h7 : t.f0 = 7
  ·rw [if_pos h7] at h; obtain rfl := Option.some.inj h; simp
  ·rw [if_neg h7] at h
   obtain ⟨j', hj, rfl⟩ := Option.map_eq_some_iff.1 h
   have := endAt_lt hj
   simp; omega
theorem parts_none : ∀ {l : List TokR}, l ≠ [] → endAt l = none → partsS l = [l]
 | [], h, _ => absurd rfl h
 | [t], _, h => by
  rw [endAt_cons] at h
  by_cases h7 : t.f0 = 7
  ·rw [if_pos h7] at h; cases h
  ·rw [partsS, if_neg h7]; rfl
 | t :: u :: r, _, h => by
  rw [endAt_cons] at h
  by_cases h7 : t.f0 = 7
  ·rw [if_pos h7] at h; cases h
  ·rw [if_neg h7] at h
   have h2 : endAt (u :: r) = none := by cases hh : endAt (u :: r) with | none => rfl | some j => rw [hh] at h; cases h
   exact parts_go h7 (parts_none (by simp) h2)
theorem parts_some : ∀ {l : List TokR} {j : Nat}, endAt l = some j → partsS l = l.take (j + 1) :: partsS (l.drop (j + 1))
 | [], j, h => by cases h
 | t :: r, j, h => by
  rw [endAt_cons] at h
  by_cases h7 : t.f0 = 7
  ·rw [if_pos h7] at h; obtain rfl := Option.some.inj h
   rw [parts_end h7]; rfl
  ·rw [if_neg h7] at h
   obtain ⟨j', hj, rfl⟩ := Option.map_eq_some_iff.1 h
   rw [parts_go h7 (parts_some hj)]
   rfl
theorem rdT_get (l : List TokR) (i : Nat) (h : i < l.length) : rd_T38 l (i : Int) = l[i] := by
 show l.getD i _ = l[i]
 rw [List.getD_eq_getElem?_getD, List.getElem?_eq_getElem h]; rfl
theorem rdT_drop {l r : List TokR} {t : TokR} {i : Nat} (h : l.drop i = t :: r) : i < l.length ∧ rd_T38 l (i : Int) = t ∧ l.drop (i + 1) = r := by
 have hl : (l.drop i).length = r.length + 1 := by rw [h]; rfl
 rw [List.length_drop] at hl
 have h2 : l[i]? = some t := by rw [← List.head?_drop, h]; rfl
 refine ⟨by omega, ?_, by rw [← List.drop_drop, h]; rfl⟩
 show l.getD i _ = t
 rw [List.getD_eq_getElem?_getD, h2]; rfl
theorem w64n {i : Nat} (h : i ≤ 1000000000) : wrap64 ((i : Int) + 1) = ((i + 1 : Nat) : Int) := by rw [w64 (by omega) (by omega)]; omega
/-- slices.IndexFunc of the ends -/
theorem index_loop (l : List TokR) (hn : l.length ≤ 1000000) (r : List TokR) : ∀ i : Nat, l.drop i = r → i ≤ l.length →
  Ev (fun k => api_Token_31.l0 k l (l.length : Int) (i : Int)) (match endAt r with | none => -1 | some j => ((i + j : Nat) : Int)) := by
 induction r with
 | nil =>
  intro i h hi
  have : l.length - i = 0 := by have := congrArg List.length h; simpa using this
  exact Ev.step (fun k => api_Token_31.l0.eq_2 ..) (ev_else (by omega) (Ev.now _))
 | cons t r ih =>
  intro i h hi
  obtain ⟨h1, h2, h3⟩ := rdT_drop h
  refine Ev.step (fun k => api_Token_31.l0.eq_2 ..) (ev_if (by omega) (ev_if (by omega) (ev_if (by omega) ?_)))
  rw [h2]
  refine ev_same (y := (t.f0 == 7)) rfl ?_
  rw [endAt_cons]
  by_cases h7 : t.f0 = 7
  ·rw [if_pos h7]
   exact ev_if (by simpa using h7) (ev_now (by simp))
  ·rw [if_neg h7]
   refine ev_else (by simpa using h7) ?_
   rw [w64n (by omega)]
   refine ev_eq (ih (i + 1) h3 (by omega)) ?_
   cases endAt r with
   | none => rfl
   | some j => show ((i + 1 + j : Nat) : Int) = ((i + (j + 1) : Nat) : Int); omega
theorem index_ev (l : List TokR) (hn : l.length ≤ 1000000) : Ev (fun k => api_Token_31.f k l) (match endAt l with | none => -1 | some j => (j : Int)) := by
 refine ev_eq (index_loop l hn l 0 rfl (Nat.zero_le _)) ?_
 cases endAt l with
 | none => rfl
 | some j => show ((0 + j : Nat) : Int) = (j : Int); omega
theorem parts_loop (N : Nat) : ∀ (x : List TokR) (acc : List (List TokR)), x.length < N → x.length ≤ 1000000 → acc.length + x.length ≤ 1000000 →
  Ev (fun k => api_Token_25.l0 k x acc) (acc ++ partsS x) := by
 induction N with
 | zero => intro x acc h; omega
 | succ N ih =>
  intro x acc hN hx ha
  by_cases h0 : x = []
  ·subst h0
   exact Ev.step (fun k => api_Token_25.l0.eq_2 ..) (ev_else (by simp) (ev_now (by simp [partsS])))
  have hp : 0 < x.length := List.length_pos_iff.2 h0
  refine Ev.step (fun k => api_Token_25.l0.eq_2 ..) (ev_if (by omega) (Ev.bind (index_ev x hx) ?_))
  cases he : endAt x with
  | none =>
   refine ev_if (show wrap64 (-1 + 1) = 0 from by rw [w64 (by omega) (by omega)]; rfl) (ev_if (by omega) (ev_if (by omega) (ev_if (by omega) ?_)))
   rw [show ((x.length : Int)).toNat = x.length from rfl, List.drop_length, List.take_length, parts_none h0 he]
   exact ev_eq (ih [] _ (by simp; omega) (by simp) (by simp; omega)) (by simp [partsS])
  | some j =>
   have hj := endAt_lt he
   simp only
   rw [w64n (by omega)]
   refine ev_else (by omega) (ev_if (by omega) (ev_if (by omega) (ev_if (by omega) ?_)))
   rw [show (((j + 1 : Nat) : Int)).toNat = j + 1 from rfl, parts_some he]
   exact ev_eq (ih (x.drop (j + 1)) _ (by rw [List.length_drop]; omega) (by rw [List.length_drop]; omega) (by rw [List.length_drop]; simp; omega)) (by simp)
theorem parts_ev (x : List TokR) (hx : x.length ≤ 1000000) : Ev (fun k => api_Token_25.f k x) (partsS x) :=
 ev_eq (parts_loop _ x [] (Nat.lt_succ_self _) hx (by simpa using hx)) (by simp)
def pieceOf (n : Nat) (p : List TokR) : PieceR := ⟨(p.headD z38).f1, (p.getLastD z38).f2, (n : Int), p⟩
def piecesG : Nat → List (List TokR) → List PieceR
 | _, [] => []
 | n, p :: ps => pieceOf n p :: piecesG (n + p.length) ps
def piecesT (l : List TokR) : List PieceR := piecesG 0 (partsS l)
def piecesS (s : List Int) : List PieceR := piecesT (lexS s)
theorem rdL_drop {l r : List (List TokR)} {t : List TokR} {i : Nat} (h : l.drop i = t :: r) : i < l.length ∧ rd_L4 l (i : Int) = t ∧ l.drop (i + 1) = r := by
 have hl : (l.drop i).length = r.length + 1 := by rw [h]; rfl
 rw [List.length_drop] at hl
 have h2 : l[i]? = some t := by rw [← List.head?_drop, h]; rfl
 refine ⟨by omega, ?_, by rw [← List.drop_drop, h]; rfl⟩
 show l.getD i _ = t
 rw [List.getD_eq_getElem?_getD, h2]; rfl
theorem rdT_head {p : List TokR} (h : p ≠ []) : rd_T38 p 0 = p.headD z38 := by
 cases p with
 | nil => exact absurd rfl h
 | cons t r => rfl
theorem rdT_last {p : List TokR} (h : p ≠ []) (hn : p.length ≤ 1000000) : rd_T38 p (wrap64 ((p.length : Int) - 1)) = p.getLastD z38 := by
 have hp : 0 < p.length := List.length_pos_iff.2 h
 rw [w64 (by omega) (by omega), show (p.length : Int) - 1 = ((p.length - 1 : Nat) : Int) by omega, rdT_get p (p.length - 1) (by omega)]
 cases p with
 | nil => exact absurd rfl h
 | cons t r => rw [List.getLastD_cons, List.getElem_length_sub_one_eq_getLast, List.getLast_eq_getLastD]
theorem pieces_loop (ps : List (List TokR)) (hne : ∀ p ∈ ps, p ≠ []) (hs : ps.flatten.length ≤ 1000000) (r : List (List TokR)) : ∀ (i n : Nat) (acc : List PieceR), ps.drop i = r → i ≤ ps.length → acc.length ≤ i → n + r.flatten.length ≤ 1000000 → ps.length ≤ 1000000 →
  Ev (fun k => split_Pieces.l0 k acc (n : Int) ps (ps.length : Int) (i : Int)) (acc ++ piecesG n r) := by
 induction r with
 | nil =>
  intro i n acc h hi _ _ hl
  have : ps.length - i = 0 := by have := congrArg List.length h; simpa using this
  exact Ev.step (fun k => split_Pieces.l0.eq_2 ..) (ev_else (by omega) (ev_now (by simp [piecesG])))
 | cons p r ih =>
  intro i n acc h hi ha hn hl
  obtain ⟨h1, h2, h3⟩ := rdL_drop h
  have hp : p ≠ [] := hne p (by rw [← List.take_append_drop i ps, h]; simp)
  have hp0 : 0 < p.length := List.length_pos_iff.2 hp
  rw [List.flatten_cons, List.length_append] at hn
  refine Ev.step (fun k => split_Pieces.l0.eq_2 ..) (ev_if (by omega) (ev_if (by omega) (ev_if (by omega) ?_)))
  rw [h2]
  refine ev_if (by omega) (ev_if (by rw [w64 (by omega) (by omega)]; omega) (ev_if (by rw [w64 (by omega) (by omega)]; omega) (ev_if (by omega) ?_)))
  rw [rdT_head hp, rdT_last hp (by omega), w64n (by omega), w64 (i := (n : Int) + (p.length : Int)) (by omega) (by omega), show (n : Int) + (p.length : Int) = ((n + p.length : Nat) : Int) by omega]
  refine ev_eq (ih (i + 1) (n + p.length) _ h3 (by omega) (by simp; omega) (by omega) hl) ?_
  rw [piecesG, List.append_assoc]; rfl
theorem parts_len (l : List TokR) : (partsS l).length ≤ l.length := by
 induction l with
 | nil => exact Nat.le_refl _
 | cons t r ih =>
  by_cases h : t.f0 = 7
  ·rw [parts_end h]; simp; omega
  ·cases hp : partsS r with
   | nil => rw [partsS, if_neg h, hp]; simp
   | cons p ps => rw [parts_go h hp]; rw [hp] at ih; simp at ih ⊢; omega
theorem pieces_ev (s : List Int) (hb : Bytes s) (hn : s.length ≤ 1000000) : Ev (fun k => split_Pieces.f k s) (piecesS s) := by
 have hl := lexS_len _ s (Nat.lt_succ_self _) hb
 unfold split_Pieces.f
 refine Ev.bind (lexAll_ev s hb hn) (Ev.bind (parts_ev _ (by omega)) ?_)
 have hp := parts_len (lexS s)
 refine ev_eq (pieces_loop (partsS (lexS s)) (parts_ne _) (by rw [parts_flat]; omega) (partsS (lexS s)) 0 0 [] rfl (Nat.zero_le _) (Nat.le_refl _) (by rw [parts_flat]; omega) (by omega)) ?_
 rw [List.nil_append]; rfl
/-- how deep: what is open, and the most -/
def nestN (s : Int × Int) (t : TokR) : Int × Int :=
 if t.f0 = 6 then (if t.f3.toList = ([40] : List UInt8) then (s.1 + 1, mx s.2 (s.1 + 1)) else if t.f3.toList = ([41] : List UInt8) then (mx (s.1 - 1) 0, mx s.2 (mx (s.1 - 1) 0)) else (s.1, mx s.2 s.1)) else s
def nestS (l : List TokR) : Int := (l.foldl nestN (0, 0)).2
theorem mx0 (x : Int) : 0 ≤ mx x 0 := by unfold mx; split <;> omega
theorem nest_loop (l : List TokR) (hn : l.length ≤ 1000000) (r : List TokR) : ∀ (i : Nat) (o m : Int), l.drop i = r → i ≤ l.length → 0 ≤ o → o ≤ i →
  Ev (fun k => split_Nest.l0 k o m l (l.length : Int) (i : Int)) (r.foldl nestN (o, m)).2 := by
 induction r with
 | nil =>
  intro i o m h hi _ _
  have : l.length - i = 0 := by have := congrArg List.length h; simpa using this
  exact Ev.step (fun k => split_Nest.l0.eq_2 ..) (ev_else (by omega) (Ev.now _))
 | cons t r ih =>
  intro i o m h hi h0 ho
  obtain ⟨h1, h2, h3⟩ := rdT_drop h
  refine Ev.step (fun k => split_Nest.l0.eq_2 ..) (ev_if (by omega) (ev_if (by omega) (ev_if (by omega) ?_)))
  rw [h2, w64n (by omega), List.foldl_cons]
  unfold nestN
  by_cases h6 : t.f0 = 6
  ·rw [if_pos h6]
   refine ev_if h6 ?_
   by_cases hp : t.f3.toList = ([40] : List UInt8)
   ·rw [if_pos hp]
    refine ev_if hp ?_
    rw [w64 (i := o + 1) (by omega) (by omega)]
    exact ih (i + 1) _ _ h3 (by omega) (by omega) (by omega)
   ·rw [if_neg hp]
    refine ev_else hp ?_
    by_cases hq : t.f3.toList = ([41] : List UInt8)
    ·rw [if_pos hq]
     refine ev_if hq ?_
     rw [w64 (i := o - 1) (by omega) (by omega)]
     exact ih (i + 1) _ _ h3 (by omega) (mx0 _) (by unfold mx; split <;> omega)
    ·rw [if_neg hq]
     exact ev_else hq (ih (i + 1) _ _ h3 (by omega) (by omega) (by omega))
  ·rw [if_neg h6]
   exact ev_else h6 (ih (i + 1) _ _ h3 (by omega) (by omega) (by omega))
theorem nest_ev (a b c : Int) (l : List TokR) (hn : l.length ≤ 1000000) : Ev (fun k => split_Nest.f k a b c l) (nestS l) := nest_loop l hn l 0 0 0 rfl (Nat.zero_le _) (Int.le_refl _) (Int.le_refl _)
end Go.Proofs.YtpkklbdclghcfaaDoor.P
namespace Go.Proofs.YtpkklbdclghcfaaDoor.P
set_option linter.unusedSimpArgs false
set_option linter.unusedVariables false
open Go.RowKit Go.Proofs.YtpkklbdclghcfaaDoor.P Go.Proofs.YtpkklbdclghcfaaDoorW.PrintWords Go.Proofs.YtpkklbdclghcfaaDoorW.PrintLast Go.Proofs.YtpkklbdclghcfaaDoorW.PrintMore
abbrev U8s := List UInt8
theorem lt_of_le_ne {a b : U8s} (h : a ≤ b) (hn : a ≠ b) : a < b := by
 rcases Classical.em (a < b) with h1 | h1
 ·exact h1
 ·exact absurd (List.le_antisymm h (List.not_lt.1 h1)) hn
theorem cmp_step (zs : List U8s) (hs : zs.Pairwise (· ≤ ·)) : ∀ m, m ≤ zs.length → (Lib.compactUpTo zs.toArray m).Pairwise (· < ·) ∧ ∀ x, x ∈ Lib.compactUpTo zs.toArray m ↔ x ∈ zs.take m
 | 0, _ => ⟨List.Pairwise.nil, fun x => by simp [Lib.compactUpTo]⟩
 | m + 1, hm => by
  obtain ⟨h1, h2⟩ := cmp_step zs hs m (by omega)
  have hlt : m < zs.length := by omega
  have hg : zs.toArray[m]! = zs[m] := by simp [hlt]
  have ht : zs.take (m + 1) = zs.take m ++ [zs[m]] := by rw [List.take_succ_eq_append_getElem hlt]
  have hle : ∀ j, (hj : j < m) → zs[j]'(by omega) ≤ zs[m] := fun j hj => List.pairwise_iff_getElem.1 hs j m (by omega) hlt hj
  rw [Lib.compactUpTo_succ, ht]
  by_cases hk : m = 0
  ·subst hk
   rw [if_pos (by simp [Lib.keeps]), hg]
   have : Lib.compactUpTo zs.toArray 0 = [] := rfl
   rw [this]
   simp
  ·have hg1 : zs.toArray[m - 1]! = zs[m - 1]'(by omega) := by simp [show m - 1 < zs.length by omega]
   by_cases he : zs[m] = zs[m - 1]'(by omega)
   ·rw [Lib.keeps_neg (by omega) (by rw [hg, hg1, he]), if_neg (by simp), List.append_nil]
    refine ⟨h1, fun x => ?_⟩
    rw [h2, List.mem_append, List.mem_singleton]
    refine ⟨.inl, fun h => h.elim id fun h => ?_⟩
    rw [h, he]
    exact List.mem_iff_getElem.2 ⟨m - 1, by rw [List.length_take]; omega, by rw [List.getElem_take]⟩
   ·rw [Lib.keeps_pos (by rw [hg, hg1]; exact he), if_pos rfl, hg]
    refine ⟨List.pairwise_append.2 ⟨h1, by simp, fun x hx y hy => ?_⟩, fun x => by rw [List.mem_append, h2, List.mem_append]⟩
    rw [List.mem_singleton.1 hy]
    obtain ⟨j, hj, e⟩ := List.mem_iff_getElem.1 ((h2 x).1 hx)
    rw [List.length_take] at hj
    rw [List.getElem_take] at e
    have hlast : zs[m - 1]'(by omega) < zs[m] := lt_of_le_ne (hle (m - 1) (by omega)) (fun e2 => he e2.symm)
    rw [← e]
    rcases Nat.lt_or_ge j (m - 1) with hj2 | hj2
    ·exact List.lt_of_le_of_lt (List.pairwise_iff_getElem.1 hs j (m - 1) (by omega) (by omega) hj2) hlast
    ·obtain rfl : j = m - 1 := by omega
     exact hlast
theorem cmp_facts (zs : List U8s) (hs : zs.Pairwise (· ≤ ·)) : (Lib.compact zs).Pairwise (· < ·) ∧ ∀ x, x ∈ Lib.compact zs ↔ x ∈ zs := by
 have h := cmp_step zs hs zs.length (Nat.le_refl _)
 rw [List.take_length] at h
 exact h
theorem sort_facts (zs : List U8s) : (zs.mergeSort fun x y => decide (x ≤ y)).Pairwise (· ≤ ·) := by
 have := List.pairwise_mergeSort (le := fun x y : U8s => decide (x ≤ y)) (fun a b c h1 h2 => by simp only [decide_eq_true_eq] at *; exact List.le_trans h1 h2) (fun a b => by simp only [Bool.or_eq_true, decide_eq_true_eq]; exact List.le_total a b) zs
 exact this.imp (by simp)
/-- rising, each once -/
def Rising (l : List ByteArray) : Prop := (l.map chrs).Pairwise (· < ·)
def isName (t : TokR) : Bool := t.f0 == 1 || t.f0 == 2 || t.f0 == 6
def nameL (l : List TokR) : List ByteArray := (l.filter isName).map (·.f3)
def namesS (l : List TokR) : List ByteArray := cmpS (srtS (nameL l))
theorem map_unch (l : List U8s) : (l.map unch).map chrs = l := by
 rw [List.map_map]
 exact List.map_id _
theorem names_rising (l : List TokR) : Rising (namesS l) := by
 unfold Rising namesS cmpS srtS
 rw [map_unch, map_unch]
 exact (cmp_facts _ (sort_facts _)).1
theorem mem_chrs {s : ByteArray} {l : List ByteArray} : chrs s ∈ l.map chrs ↔ s ∈ l := by
 refine ⟨fun h => ?_, fun h => List.mem_map_of_mem h⟩
 obtain ⟨t, ht, e⟩ := List.mem_map.1 h
 have : t = s := by rw [← unch_chrs t, ← unch_chrs s, e]
 exact this ▸ ht
theorem names_mem (l : List TokR) (s : ByteArray) : s ∈ namesS l ↔ s ∈ nameL l := by
 rw [← mem_chrs]
 unfold namesS cmpS srtS
 rw [map_unch, map_unch, (cmp_facts _ (sort_facts _)).2, List.mem_mergeSort, mem_chrs]
theorem names_len (l : List TokR) : (namesS l).length ≤ l.length := by
 unfold namesS cmpS srtS
 rw [List.length_map, map_unch]
 have h1 := Lib.compact_length_le (((nameL l).map chrs).mergeSort fun x y => decide (x ≤ y))
 rw [List.length_mergeSort, List.length_map] at h1
 have h2 : (nameL l).length ≤ l.length := by
  unfold nameL
  rw [List.length_map]
  exact List.length_filter_le _ _
 omega
/-- two rows that rise and have the same are the same -/
theorem rising_eq : ∀ {a b : List U8s}, a.Pairwise (· < ·) → b.Pairwise (· < ·) → (∀ x, x ∈ a ↔ x ∈ b) → a = b
 | [], [], _, _, _ => rfl
 | [], y :: b, _, _, h => absurd ((h y).2 (by simp)) (by simp)
 | x :: a, [], _, _, h => absurd ((h x).1 (by simp)) (by simp)
 | x :: a, y :: b, ha, hb, h => by
  obtain ⟨ha1, ha2⟩ := List.pairwise_cons.1 ha
  obtain ⟨hb1, hb2⟩ := List.pairwise_cons.1 hb
  have e : x = y := by
   rcases List.mem_cons.1 ((h x).1 (by simp)) with h1 | h1
   ·exact h1
   ·rcases List.mem_cons.1 ((h y).2 (by simp)) with h2 | h2
    ·exact h2.symm
    ·exact absurd (List.lt_trans (ha1 y h2) (hb1 x h1)) (List.lt_irrefl x)
  subst e
  rw [rising_eq ha2 hb2 (fun z => ?_)]
  refine ⟨fun hz => ?_, fun hz => ?_⟩
  ·rcases List.mem_cons.1 ((h z).1 (by simp [hz])) with h1 | h1
   ·subst h1; exact absurd (ha1 z hz) (List.lt_irrefl z)
   ·exact h1
  ·rcases List.mem_cons.1 ((h z).2 (by simp [hz])) with h1 | h1
   ·subst h1; exact absurd (hb1 z hz) (List.lt_irrefl z)
   ·exact h1
theorem rising_eqS {a b : List ByteArray} (ha : Rising a) (hb : Rising b) (h : ∀ x, x ∈ a ↔ x ∈ b) : a = b := by
 have e := rising_eq ha hb (fun x => by
  rw [← chrs_unch x, mem_chrs, mem_chrs]; exact h _)
 have := congrArg (List.map unch) e
 have id_ : ∀ l : List ByteArray, (l.map chrs).map unch = l := fun l => by rw [List.map_map]; exact List.map_id _
 rwa [id_, id_] at this
theorem nameL_cons (t : TokR) (r : List TokR) : nameL (t :: r) = if isName t then t.f3 :: nameL r else nameL r := by
 unfold nameL
 rw [List.filter_cons]
 cases isName t <;> rfl
theorem names_loop (l : List TokR) (hn : l.length ≤ 1000000) (r : List TokR) : ∀ (i : Nat) (acc : List ByteArray), l.drop i = r → i ≤ l.length → acc.length ≤ i →
  Ev (fun k => split_Names.l0 k acc l (l.length : Int) (i : Int)) (cmpS (srtS (acc ++ nameL r))) := by
 induction r with
 | nil =>
  intro i acc h hi ha
  have : l.length - i = 0 := by have := congrArg List.length h; simpa using this
  refine Ev.step (fun k => split_Names.l0.eq_2 ..) (ev_else (by omega) ?_)
  have h1 : slices_Sort_string_string.f acc = some (srtS acc) := by unfold slices_Sort_string_string.f; rw [if_pos (by omega)]
  have h2 : slices_Compact_string_string.f (srtS acc) = some (cmpS (srtS acc)) := by
   unfold slices_Compact_string_string.f
   rw [if_pos]
   unfold srtS
   rw [List.length_map, List.length_mergeSort, List.length_map]
   omega
  refine ev_same h1 (ev_same h2 (ev_now ?_))
  simp [nameL]
 | cons t r ih =>
  intro i acc h hi ha
  obtain ⟨h1, h2, h3⟩ := rdT_drop h
  refine Ev.step (fun k => split_Names.l0.eq_2 ..) (ev_if (by omega) (ev_if (by omega) (ev_if (by omega) ?_)))
  rw [h2, w64n (by omega)]
  have go : isName t = true → Ev (fun k => if acc.length < 8796093022208 then split_Names.l0 k (acc ++ [t.f3]) l (l.length : Int) ((i + 1 : Nat) : Int) else none) (cmpS (srtS (acc ++ nameL (t :: r)))) := fun hi2 => by
   refine ev_if (by omega) (ev_eq (ih (i + 1) _ h3 (by omega) (by simp; omega)) ?_)
   rw [nameL_cons, hi2, if_pos rfl, List.append_assoc]; rfl
  by_cases e1 : t.f0 = 1
  ·exact ev_if e1 (go (by simp [isName, e1]))
  ·refine ev_else e1 ?_
   by_cases e2 : t.f0 = 2
   ·exact ev_if e2 (go (by simp [isName, e2]))
   ·refine ev_else e2 ?_
    by_cases e6 : t.f0 = 6
    ·exact ev_if e6 (go (by simp [isName, e6]))
    ·refine ev_else e6 (ev_eq (ih (i + 1) _ h3 (by omega) (by omega)) ?_)
     rw [nameL_cons, if_neg (by simp [isName, e1, e2, e6])]
theorem names_ev (a b c : Int) (l : List TokR) (hn : l.length ≤ 1000000) : Ev (fun k => split_Names.f k a b c l) (namesS l) :=
 ev_eq (names_loop l hn l 0 [] rfl (Nat.zero_le _) (Nat.le_refl _)) (by rw [List.nil_append]; rfl)
end Go.Proofs.YtpkklbdclghcfaaDoor.P
namespace Go.Proofs.YtpkklbdclghcfaaDoor.P
set_option linter.unusedSimpArgs false
set_option linter.unusedVariables false
open Go.RowKit Go.Proofs.YtpkklbdclghcfaaDoor.P Go.Proofs.YtpkklbdclghcfaaDoorW.PrintWords Go.Proofs.YtpkklbdclghcfaaDoorW.PrintLast Go.Proofs.YtpkklbdclghcfaaDoorW.PrintMore
def shownP : List PieceR := [⟨0, 2, 0, [⟨1, 0, 1, ⟨#[97]⟩, 0⟩, ⟨7, 1, 2, ⟨#[46]⟩, 0⟩]⟩, ⟨3, 5, 2, [⟨6, 3, 4, ⟨#[40]⟩, 0⟩, ⟨1, 4, 5, ⟨#[98]⟩, 0⟩]⟩]
theorem shown_pieces : Ev (fun k => split_Pieces.f k [97, 46, 32, 40, 98]) shownP := Ev.of (fun k => split_Pieces.mono _ k) (k := 40) (by kernel_rfl)
theorem shown_ev : Ev (fun k => tmesislaw10_shown.f k) true := by
 unfold tmesislaw10_shown.f
 refine Ev.bind shown_pieces ?_
 refine ev_if rfl (ev_if (by decide) (ev_if rfl (ev_if (by decide) (ev_if rfl (ev_if rfl ?_)))))
 refine Ev.bind (nest_ev _ _ _ _ (by decide)) (ev_if (by kernel_rfl) (Ev.bind (names_ev _ _ _ _ (by decide)) (ev_now ?_)))
 have h1 : nameL (rd_T25 shownP 0).f3 = [⟨#[97]⟩] := by decide
 unfold namesS
 rw [h1]
 simp [cmpS, srtS, Lib.compact, Lib.compactUpTo, Lib.keeps, List.range_succ]
theorem few_eq (l : List Int) : tmesislaw10_few.f l = some (l.take 200) := by
 unfold tmesislaw10_few.f
 have h1 : 0 ≤ mn (l.length : Int) 200 := by unfold mn; split <;> omega
 have h2 : mn (l.length : Int) 200 ≤ (l.length : Int) := by unfold mn; split <;> omega
 rw [if_pos h1, if_pos h2, mn_le _ _ (by omega)]
 congr 1
 rw [Nat.min_comm, ← List.take_take, List.take_length]
 rfl
theorem short_eq (a b c : Int) (l : List TokR) : tmesislaw10_short.f a b c l = some (a, b, c, l.take 40) := by
 unfold tmesislaw10_short.f
 have h1 : 0 ≤ mn (l.length : Int) 40 := by unfold mn; split <;> omega
 have h2 : mn (l.length : Int) 40 ≤ (l.length : Int) := by unfold mn; split <;> omega
 rw [if_pos h1, if_pos h2, mn_le _ _ (by omega)]
 congr 4
 rw [Nat.min_comm, ← List.take_take, List.take_length]
 rfl
end Go.Proofs.YtpkklbdclghcfaaDoor.P
namespace Go.Proofs.YtpkklbdclghcfaaDoor.P
set_option linter.unusedSimpArgs false
set_option linter.unusedVariables false
open Go.RowKit Go.Proofs.YtpkklbdclghcfaaDoor.P Go.Proofs.YtpkklbdclghcfaaDoorW.PrintWords Go.Proofs.YtpkklbdclghcfaaDoorW.PrintLast Go.Proofs.YtpkklbdclghcfaaDoorW.PrintMore
theorem long_eq (k : Nat) (c : Int) : tmesisref01_long.f (k + 1) c = some (uLong c : Int) := by
 unfold tmesisref01_long.f uLong
 simp only [tmesisref01_long.j0]
 by_cases h1 : c < 128
 ·simp [h1]
 by_cases h2 : c < 194
 ·simp [h1, h2]
 by_cases h3 : c > 244
 ·simp [h1, h2, h3]
 by_cases h4 : c < 224
 ·simp [*]
 by_cases h7 : c < 240
 ·simp [*]
 simp [*]
theorem second_eq (c a : Int) : tmesisref01_second.f c a = some (decide (uLo c ≤ a ∧ a ≤ uHi c)) := by
 unfold tmesisref01_second.f uLo uHi
 by_cases h1 : c = 224
 ·subst h1; by_cases h : a ≥ 160 <;> simp [h]
 by_cases h2 : c = 237
 ·subst h2; by_cases h : a ≥ 128 <;> simp [h]
 by_cases h3 : c = 240
 ·subst h3; by_cases h : a ≥ 144 <;> simp [h]
 by_cases h4 : c = 244
 ·subst h4; by_cases h : a ≥ 128 <;> simp [h]
 by_cases h : a ≥ 128 <;> simp [*]
theorem rl (d : Nat) : ∀ (k : Nat) (l : List Int) (m : Int) (i : Nat), m = ((i + d : Nat) : Int) → d < k → i + d ≤ l.length → i + d < 10 →
  tmesisref01_Take.l0 k l m (i : Int) = some (if restOk d 128 191 (l.drop i) then (m, true) else (1, false)) := by
 induction d with
 | zero =>
  intro k l m i hm hk h1 h2
  obtain ⟨k, rfl⟩ : ∃ j, k = j + 1 := ⟨k - 1, by omega⟩
  simp only [tmesisref01_Take.l0]
  rw [if_neg (by omega)]
  rfl
 | succ d ih =>
  intro k l m i hm hk h1 h2
  obtain ⟨k, rfl⟩ : ∃ j, k = j + 1 := ⟨k - 1, by omega⟩
  have e : wrap64 ((i : Int) + 1) = ((i + 1 : Nat) : Int) := by rw [w64 (by omega) (by omega)]; omega
  have er : rd l (i : Int) = l[i] := by
   show l.getD i 0 = _
   simp [List.getD_eq_getElem?_getD, List.getElem?_eq_getElem (show i < l.length by omega)]
  simp only [tmesisref01_Take.l0]
  rw [if_pos (by omega), if_pos (by omega), if_pos (by omega), e, er, ih k l m (i + 1) (by omega) (by omega) (by omega) (by omega), List.drop_eq_getElem_cons (i := i) (by omega), restOk_cons]
  by_cases a : l[i] < 128
  ·rw [if_pos a, decide_eq_false (by omega), Bool.false_and]; rfl
  ·rw [if_neg a]
   by_cases b : l[i] > 191
   ·rw [if_pos b, decide_eq_false (by omega), Bool.false_and]; rfl
   ·rw [if_neg b, decide_eq_true (by omega), Bool.true_and]
theorem urtake_ten (l : List Int) : tmesisref01_Take.f 10 l = some (takeS l) := by
 unfold tmesisref01_Take.f
 cases l with
 | nil => simp [takeS]
 | cons c r =>
  rw [if_neg (by simp; omega), if_pos (by simp)]
  have e0 : rd (c :: r) 0 = c := rfl
  rw [e0, long_eq, takeS_cons]
  simp only [Option.bind_some]
  have hle := uLong_le c
  by_cases h0 : uLong c = 0
  ·rw [h0]
   simp [tmesisref01_Take.j0]
  rw [if_neg (by omega), if_neg h0]
  by_cases h1 : ((c :: r).length : Int) < (uLong c : Int)
  ·rw [if_pos h1, restOk_short _ _ _ r (by simp at h1; omega)]
   simp [tmesisref01_Take.j0]
  rw [if_neg h1]
  by_cases h2 : uLong c = 1
  ·rw [h2]
   have := rl 0 9 (c :: r) 1 1 (by omega) (by omega) (by simp) (by omega)
   simp [tmesisref01_Take.j0, restOk]
   simp only [tmesisref01_Take.l0]
   rw [if_neg (by omega)]
  ·rw [if_pos (by omega)]
   cases r with
   | nil => simp at h1; omega
   | cons a t =>
    have e1 : rd (c :: a :: t) 1 = a := rfl
    rw [if_pos (by simp; omega), e1, second_eq]
    simp only [Option.bind_some, tmesisref01_Take.j0]
    obtain ⟨n, hn⟩ : ∃ n, uLong c = n + 2 := ⟨uLong c - 2, by omega⟩
    rw [hn, show n + 2 - 1 = n + 1 from rfl, restOk_cons]
    have := rl n 9 (c :: a :: t) ((n + 2 : Nat) : Int) 2 (by omega) (by omega) (by simp at h1 ⊢; omega) (by omega)
    by_cases A : uLo c ≤ a ∧ a ≤ uHi c
    ·rw [decide_eq_true A, Bool.true_and, if_neg (by simp)]
     exact this
    ·rw [decide_eq_false A, Bool.false_and, if_pos (by simp)]
     rfl
theorem urtake_ev (l : List Int) : Ev (fun k => tmesisref01_Take.f k l) (takeS l) := Ev.of (fun k => tmesisref01_Take.mono l k) (urtake_ten l)
end Go.Proofs.YtpkklbdclghcfaaDoor.P
namespace Go.Proofs.YtpkklbdclghcfaaDoor.P
set_option linter.unusedSimpArgs false
set_option linter.unusedVariables false
open Go.RowKit Go.Proofs.YtpkklbdclghcfaaDoor.P Go.Proofs.YtpkklbdclghcfaaDoorW.PrintWords Go.Proofs.YtpkklbdclghcfaaDoorW.PrintLast Go.Proofs.YtpkklbdclghcfaaDoorW.PrintMore
theorem at_next {l : List Int} (hn : l.length ≤ 1000000) {p : Nat} {c : Int} {r : List Int} (hm : l.drop p = c :: r) : tmesisref04_at.f l ((p + 1 : Nat) : Int) = some (r.headD 0) := by
 have hml : (l.drop p).length = l.length - p := List.length_drop
 rw [hm] at hml
 simp only [List.length_cons] at hml
 unfold tmesisref04_at.f
 cases hr : r with
 | nil =>
  rw [hr] at hml
  simp only [List.length_nil] at hml
  rw [if_neg (by omega)]; rfl
 | cons a t =>
  rw [← hr]
  have e := rd_next hm (by rw [hr]; simp)
  rw [hr] at hml
  simp only [List.length_cons] at hml
  rw [if_pos (by omega), if_pos (by omega), e]
theorem rquote_loop (l : List Int) (hl : Bytes l) (hn : l.length ≤ 1000000) (N : Nat) : ∀ (p : Nat) (acc : List Int), l.length - p < N → p ≤ l.length → acc.length ≤ p →
  Ev (fun k => tmesisref04_Take.l0 k l acc (p : Int)) (resQ acc p (textQ (l.drop p))) := by
 induction N with
 | zero => intro p _ h; omega
 | succ N ih =>
  intro p acc hN hp ha
  have hml : (l.drop p).length = l.length - p := List.length_drop
  have w1 : wrap64 ((p : Int) + 1) = ((p + 1 : Nat) : Int) := by rw [w64 (by omega) (by omega)]; omega
  have w2 : wrap64 ((p : Int) + 2) = ((p + 2 : Nat) : Int) := by rw [w64 (by omega) (by omega)]; omega
  refine Ev.step (fun k => tmesisref04_Take.l0.eq_2 ..) ?_
  match hm : l.drop p with
  | [] =>
   rw [hm] at hml
   simp only [List.length_nil] at hml
   refine ev_else (by omega) (Ev.step (fun k => tmesisref04_Take.j1.eq_2 ..) (ev_else (by simp) (ev_now ?_)))
   rw [resQ_bad (s := []) (e := 12) rfl (by decide) (by decide)]
  | c :: r =>
   rw [hm] at hml
   simp only [List.length_cons] at hml
   have hle := itemQ_le (c :: r)
   have cut : ∀ n : Nat, l.drop (p + n) = (c :: r).drop n := fun n => by rw [← hm, List.drop_drop]
   have hat := at_next hn hm
   generalize hd : r.headD 0 = d at hat
   have hgo : ∀ (v : List Int) (n : Nat), itemQ (c :: r) = (v, n, 0) → Ev (fun k => tmesisref04_Take.l0 k l (acc ++ v) ((p + n : Nat) : Int)) (resQ acc p (textQ (c :: r))) := by
    intro v n h
    rw [h] at hle
    simp only [List.length_cons] at hle
    have h1 := hle.2.1 trivial
    rw [resQ_go h, ← cut]
    refine ih (p + n) (acc ++ v) (by omega) (by omega) ?_
    rw [List.length_append]
    omega
   refine ev_if (by omega) (ev_if (by omega) (Ev.step (fun k => tmesisref04_Take.j1.eq_2 ..) ?_))
   rw [rd_here hm, w1, w2]
   by_cases h10 : c = 10
   ·have hi : itemQ (c :: r) = ([], 0, 12) := by rw [itemQ, if_neg (by omega), if_neg (by omega), if_pos h10]
    refine ev_else (by simp [h10]) (ev_now ?_)
    rw [resQ_bad hi (by decide) (by decide)]
   refine ev_if (by simp [h10]) (ev_if (by omega) (ev_if (by omega) (ev_same hat ?_)))
   by_cases h39 : c = 39
   ·refine ev_if h39 ?_
    by_cases hd9 : d = 39
    ·have hi : itemQ (c :: r) = ([39], 2, 0) := by rw [itemQ, if_pos h39, if_pos (by rw [hd]; exact hd9)]
     exact ev_if hd9 (ev_if (by omega) (hgo _ _ hi))
    ·have hi : itemQ (c :: r) = ([], 1, -1) := by rw [itemQ, if_pos h39, if_neg (by rw [hd]; exact hd9)]
     refine ev_else hd9 (ev_now ?_)
     rw [resQ_end hi]
   refine ev_else h39 ?_
   by_cases h92 : c = 92
   ·refine ev_if h92 ?_
    by_cases hq : d = 92 ∨ d = 39
    ·have hi : itemQ (c :: r) = ([d], 2, 0) := by rw [itemQ, if_neg h39, if_pos h92, hd, if_pos hq]
     have fin : Ev (fun k => tmesisref04_Take.j2 k l acc (p : Int) d false) (resQ acc p (textQ (c :: r))) := by
      refine Ev.step (fun k => tmesisref04_Take.j2.eq_2 ..) (ev_else (by simp) (ev_else (by omega) (ev_if (by omega) ?_)))
      rw [w2]
      exact hgo _ _ hi
     refine ev_else (by omega) ?_
     by_cases h2 : d = 92
     ·exact ev_if h2 fin
     ·refine ev_else h2 ?_
      rw [show (d != 39) = false by simp; omega]
      exact fin
    ·have n1 : d ≠ 92 := fun h => hq (.inl h)
     have n2 : d ≠ 39 := fun h => hq (.inr h)
     by_cases hn10 : d = 110
     ·have hi : itemQ (c :: r) = ([10], 2, 0) := by rw [itemQ, if_neg h39, if_pos h92, hd, if_neg hq, if_pos hn10]
      refine ev_if hn10 (Ev.step (fun k => tmesisref04_Take.j2.eq_2 ..) (ev_else (by simp) (ev_if hn10 (ev_if (by omega) ?_))))
      rw [w2]
      exact hgo _ _ hi
     ·have hi : itemQ (c :: r) = ([], 0, 13) := by rw [itemQ, if_neg h39, if_pos h92, hd, if_neg hq, if_neg hn10]
      refine ev_else hn10 (ev_else n1 (Ev.step (fun k => tmesisref04_Take.j2.eq_2 ..) (ev_if (by simp [n2]) (ev_now ?_))))
      rw [resQ_bad hi (by decide) (by decide)]
   refine ev_else h92 ?_
   by_cases hc : c < 32 ∨ c = 127
   ·have hi : itemQ (c :: r) = ([], 0, 11) := by rw [itemQ, if_neg h39, if_neg h92, if_neg h10, if_pos hc]
    have fin : Ev (fun k => tmesisref04_Take.j3 k l acc (p : Int) true) (resQ acc p (textQ (c :: r))) := by
     refine Ev.step (fun k => tmesisref04_Take.j3.eq_2 ..) (ev_if rfl (ev_now ?_))
     rw [resQ_bad hi (by decide) (by decide)]
    by_cases h32 : c < 32
    ·exact ev_if h32 fin
    ·refine ev_else h32 ?_
     rw [show (c == 127) = true by simp; omega]
     exact fin
   ·have n1 : ¬ c < 32 := fun h => hc (.inl h)
    have n2 : c ≠ 127 := fun h => hc (.inr h)
    refine ev_else n1 (Ev.step (fun k => tmesisref04_Take.j3.eq_2 ..) (ev_else (by simp [n2]) (ev_if (by omega) (ev_if (by omega) ?_))))
    rw [show l.drop ((p : Int)).toNat = c :: r from hm]
    refine Ev.bind (urtake_ev _) ?_
    have tp := take_pos c r
    simp only [List.length_cons] at tp
    by_cases ht : (takeS (c :: r)).2 = true
    ·have hi : itemQ (c :: r) = ((c :: r).take (takeS (c :: r)).1.toNat, (takeS (c :: r)).1.toNat, 0) := by rw [itemQ, if_neg h39, if_neg h92, if_neg h10, if_neg hc, if_pos ht]
     generalize (takeS (c :: r)).1 = n at tp hi ⊢
     have wn : wrap64 ((p : Int) + n) = ((p + n.toNat : Nat) : Int) := by rw [w64 (by omega) (by omega)]; omega
     rw [wn]
     have et : (l.take (((p + n.toNat : Nat) : Int)).toNat).drop ((p : Int)).toNat = (c :: r).take n.toNat := by
      show (l.take (p + n.toNat)).drop p = _
      rw [List.drop_take, hm, Nat.add_sub_cancel_left]
     rw [et]
     refine ev_if ht (ev_if (by omega) (ev_if (by omega) (ev_if ?_ ?_)))
     ·rw [List.length_take]; simp only [List.length_cons]; omega
     ·exact hgo _ _ hi
    ·have hi : itemQ (c :: r) = ([], 0, 10) := by rw [itemQ, if_neg h39, if_neg h92, if_neg h10, if_neg hc, if_neg ht]
     refine ev_else ht (ev_now ?_)
     rw [resQ_bad hi (by decide) (by decide)]
theorem rquote_ev (l : List Int) (hl : Bytes l) (hn : l.length ≤ 1000000) : Ev (fun k => tmesisref04_Take.f k l) (quoteS l) := by
 unfold tmesisref04_Take.f quoteS
 cases l with
 | nil => exact ev_same (y := 0) rfl (ev_else (by omega) (ev_now rfl))
 | cons c r =>
  refine ev_same (y := c) (by unfold tmesisref04_at.f; rw [if_pos (by simp), if_pos (by omega)]; rfl) ?_
  rw [show (c :: r).headD 0 = c from rfl]
  by_cases h : c = 39
  ·rw [if_pos h]
   exact ev_if h (rquote_loop _ hl hn ((c :: r).length + 1) 1 [] (by omega) (by simp) (by simp))
  ·rw [if_neg h]
   exact ev_else h (ev_now rfl)
end Go.Proofs.YtpkklbdclghcfaaDoor.P
namespace Go.Proofs.YtpkklbdclghcfaaDoor.P
set_option linter.unusedSimpArgs false
set_option linter.unusedVariables false
open Go.RowKit Go.Proofs.YtpkklbdclghcfaaDoor.P Go.Proofs.YtpkklbdclghcfaaDoorW.PrintWords Go.Proofs.YtpkklbdclghcfaaDoorW.PrintLast Go.Proofs.YtpkklbdclghcfaaDoorW.PrintMore
set_option maxRecDepth 100000 in
theorem of_all : ∀ n : Nat, n < 256 → tmesisref02_Of.f 40 (n : Int) = some (classOf (n : Int)) := by decide +kernel
theorem rof_ev {c : Int} (hc : 0 ≤ c ∧ c < 256) : Ev (fun k => tmesisref02_Of.f k c) (classOf c) := Ev.of (fun k => tmesisref02_Of.mono c k) (k := 40) (byte_all (p := fun c => tmesisref02_Of.f 40 c = some (classOf c)) of_all hc)
theorem rrun_loop (l : List Int) (cl : Int) (hl : l.length ≤ 9223372036854775806) (hb : Bytes l) (d : Nat) : ∀ i : Nat, d + i = l.length →
  Ev (fun k => tmesisref02_Run.l0 k l cl (i : Int)) ((i + runS (l.drop i) cl : Nat) : Int) := by
 induction d with
 | zero =>
  intro i hi
  refine Ev.step (fun k => tmesisref02_Run.l0.eq_2 ..) (ev_else (by omega) (ev_now ?_))
  rw [List.drop_of_length_le (by omega), runS_nil]
  omega
 | succ d ih =>
  intro i hi
  have hlt : i < l.length := by omega
  refine Ev.step (fun k => tmesisref02_Run.l0.eq_2 ..) (ev_if (by omega) (ev_if (by omega) ?_))
  rw [rd_at l i hlt, List.drop_eq_getElem_cons hlt, runS_cons]
  refine Ev.bind (rof_ev (hb _ (List.getElem_mem hlt))) ?_
  by_cases h : classOf l[i] = cl
  ·rw [if_pos h]
   refine ev_if h ?_
   rw [show wrap64 ((i : Int) + 1) = ((i + 1 : Nat) : Int) by rw [w64 (by omega) (by omega)]; omega]
   refine ev_eq (ih (i + 1) (by omega)) ?_
   omega
  ·rw [if_neg h]
   exact ev_else h (ev_now (by omega))
theorem rrun_ev (l : List Int) (cl : Int) (hl : l.length ≤ 9223372036854775806) (hb : Bytes l) : Ev (fun k => tmesisref02_Run.f k l cl) (runS l cl : Int) := by
 refine ev_eq (rrun_loop l cl hl hb l.length 0 (by omega)) ?_
 simp
end Go.Proofs.YtpkklbdclghcfaaDoor.P
namespace Go.Proofs.YtpkklbdclghcfaaDoor.P
set_option linter.unusedSimpArgs false
set_option linter.unusedVariables false
open Go.RowKit Go.Proofs.YtpkklbdclghcfaaDoor.P Go.Proofs.YtpkklbdclghcfaaDoorW.PrintWords Go.Proofs.YtpkklbdclghcfaaDoorW.PrintLast Go.Proofs.YtpkklbdclghcfaaDoorW.PrintMore
theorem rdigit_loop (l : List Int) (hb : Bytes l) (hl : l.length ≤ 1000000) (d : Nat) : ∀ (i : Nat) (n : Int), d + i = runS l 4 → 0 ≤ n → n ≤ 2147483647 →
  Ev (fun k => tmesisref03_Take.l0 k l (runS l 4 : Int) n (i : Int)) (resD (runS l 4 : Int) (numS n ((headD l).drop i))) := by
 have hle := runS_le l 4
 have hh := headD_len l
 have hd := headD_digs hb
 induction d with
 | zero =>
  intro i n hi h0 h1
  refine Ev.step (fun k => tmesisref03_Take.l0.eq_2 ..) (ev_else (by omega) (ev_now ?_))
  rw [List.drop_of_length_le (by omega)]
  rfl
 | succ d ih =>
  intro i n hi h0 h1
  have hlt : i < (headD l).length := by omega
  have hc := hd _ (List.getElem_mem hlt)
  have eg : (headD l)[i] = l[i] := by simp [headD, List.getElem_take]
  refine Ev.step (fun k => tmesisref03_Take.l0.eq_2 ..) (ev_if (by omega) (ev_if (by omega) (ev_if (by omega) ?_)))
  rw [rd_at l i (by omega), List.drop_eq_getElem_cons hlt, eg]
  rw [eg] at hc
  have e : wrap64 (wrap64 (n * 10) + (l[i] - 48) % 256) = n * 10 + (l[i] - 48) := by
   rw [w64 (i := n * 10) (by omega) (by omega), show (l[i] - 48) % 256 = l[i] - 48 by omega, w64 (by omega) (by omega)]
  rw [e, numS_cons]
  by_cases h : n * 10 + (l[i] - 48) > 2147483647
  ·rw [if_pos h]
   exact ev_if h (ev_now rfl)
  ·rw [if_neg h]
   refine ev_else h ?_
   rw [show wrap64 ((i : Int) + 1) = ((i + 1 : Nat) : Int) by rw [w64 (by omega) (by omega)]; omega]
   exact ih (i + 1) _ (by omega) (by omega) (by omega)
theorem drtake_ev (l : List Int) (hb : Bytes l) (hl : l.length ≤ 1000000) : Ev (fun k => tmesisref03_Take.f k l) (takeD l) := by
 unfold tmesisref03_Take.f takeD
 refine Ev.bind (rrun_ev l 4 (by omega) hb) ?_
 by_cases h : runS l 4 = 0
 ·rw [h]
  exact ev_if rfl (ev_now rfl)
 ·rw [if_neg h]
  exact ev_else (by omega) (rdigit_loop l hb hl (runS l 4) 0 0 (by omega) (by omega) (by omega))
end Go.Proofs.YtpkklbdclghcfaaDoor.P
namespace Go.Proofs.YtpkklbdclghcfaaDoor.P
set_option linter.unusedSimpArgs false
set_option linter.unusedVariables false
open Go.RowKit Go.Proofs.YtpkklbdclghcfaaDoor.P Go.Proofs.YtpkklbdclghcfaaDoorW.PrintWords Go.Proofs.YtpkklbdclghcfaaDoorW.PrintLast Go.Proofs.YtpkklbdclghcfaaDoorW.PrintMore
theorem pair_eq {l : List Int} (hl : Bytes l) (hn : l.length ≤ 1000000) (p : Nat) (hp : p ≤ l.length) {a b : Int} (ha : 0 ≤ a ∧ a < 256) (hb : 0 ≤ b ∧ b < 256) (s : ByteArray) (hs : s.toList = [UInt8.ofNat a.toNat, UInt8.ofNat b.toNat]) : tmesisref05_pair.f l (p : Int) s = some (two a b (l.drop p)) := by
 unfold tmesisref05_pair.f
 rw [show wrap64 ((p : Int) + 2) = ((p + 2 : Nat) : Int) by rw [w64 (by omega) (by omega)]; omega]
 by_cases h : p + 2 ≤ l.length
 ·rw [if_pos (by omega), if_pos (by omega), if_pos (by omega), hs]
  show some ((strOfNums ((l.take (p + 2)).drop p)).toList == _) = _
  congr 1
  rw [strOf_list, List.drop_take, show p + 2 - p = 2 by omega]
  have hb2 := hl.drop p
  match hm : l.drop p with
  | [] => have := congrArg List.length hm; simp at this; omega
  | [x] => have := congrArg List.length hm; simp at this; omega
  | x :: y :: r =>
   rw [hm] at hb2
   have hx := hb2 x (by simp)
   have hy := hb2 y (by simp)
   show (([UInt8.ofNat x.toNat, UInt8.ofNat y.toNat] : List UInt8) == [UInt8.ofNat a.toNat, UInt8.ofNat b.toNat]) = (x == a && y == b)
   rw [Bool.eq_iff_iff, beq_iff_eq, Bool.and_eq_true, beq_iff_eq, beq_iff_eq, List.cons.injEq, List.cons.injEq]
   constructor
   ·rintro ⟨h1, h2, _⟩
    exact ⟨u8_inj hx ha h1, u8_inj hy hb h2⟩
   ·rintro ⟨rfl, rfl⟩
    exact ⟨rfl, rfl, rfl⟩
 ·rw [if_neg (by omega)]
  congr 1
  match hm : l.drop p with
  | [] => rfl
  | [x] => rfl
  | x :: y :: r => have := congrArg List.length hm; simp at this; omega
def optM (p : Nat) : Option Nat → Int
 | some n => ((p + n : Nat) : Int)
 | none => -1
theorem optM_map (p k : Nat) (o : Option Nat) : optM p (o.map (· + k)) = optM (p + k) o := by
 cases o with
 | none => rfl
 | some n => show ((p + (n + k) : Nat) : Int) = ((p + k + n : Nat) : Int); congr 1; omega
theorem com1_ev (l : List Int) (hl : Bytes l) (hn : l.length ≤ 1000000) (N : Nat) : ∀ (d p : Nat), l.length - p < N → 1 ≤ d → d ≤ p → p ≤ l.length →
  Ev (fun k => tmesisref05_comment.l0 k l (p : Int) (d : Int)) (optM p (comL d (l.drop p))) := by
 induction N with
 | zero => intro d p h; omega
 | succ N ih =>
  intro d p hN hd hdp hp
  have hml : (l.drop p).length = l.length - p := List.length_drop
  refine Ev.step (fun k => tmesisref05_comment.l0.eq_2 ..) ?_
  have w2 : wrap64 ((p : Int) + 2) = ((p + 2 : Nat) : Int) := by rw [w64 (by omega) (by omega)]; omega
  have w1 : wrap64 ((p : Int) + 1) = ((p + 1 : Nat) : Int) := by rw [w64 (by omega) (by omega)]; omega
  have w3 : wrap64 ((d : Int) + 1) = ((d + 1 : Nat) : Int) := by rw [w64 (by omega) (by omega)]; omega
  have w4 : wrap64 ((d : Int) - 1) = ((d - 1 : Nat) : Int) := by rw [w64 (by omega) (by omega)]; omega
  rw [w1, w2, w3, w4]
  match hm : l.drop p with
  | [] =>
   rw [hm] at hml
   simp only [List.length_nil] at hml
   exact ev_else (by omega) (ev_now rfl)
  | [x] =>
   rw [hm] at hml
   simp only [List.length_cons, List.length_nil] at hml
   have e := ih d (p + 1) (by omega) hd (by omega) (by omega)
   rw [List.drop_of_length_le (by omega)] at e
   refine ev_if (by omega) (ev_same (pair_eq hl hn p hp (a := 47) (b := 42) (by omega) (by omega) _ (by decide +kernel)) ?_)
   rw [hm]
   refine ev_else (by simp [two]) (ev_same (pair_eq hl hn p hp (a := 42) (b := 47) (by omega) (by omega) _ (by decide +kernel)) ?_)
   rw [hm]
   exact ev_else (by simp [two]) e
  | x :: y :: r =>
   obtain ⟨e2, e1⟩ := drop_two hm
   rw [hm] at hml
   simp only [List.length_cons] at hml
   rw [comL]
   refine ev_if (by omega) (ev_same (pair_eq hl hn p hp (a := 47) (b := 42) (by omega) (by omega) _ (by decide +kernel)) ?_)
   rw [hm]
   by_cases h1 : x = 47 ∧ y = 42
   ·have t : two 47 42 (x :: y :: r) = true := by simp [two, h1.1, h1.2]
    rw [if_pos h1, optM_map, ← e2]
    exact ev_if t (ih (d + 1) (p + 2) (by omega) (by omega) (by omega) (by omega))
   ·have t : ¬ two 47 42 (x :: y :: r) = true := by simpa [two] using h1
    rw [if_neg h1]
    refine ev_else t (ev_same (pair_eq hl hn p hp (a := 42) (b := 47) (by omega) (by omega) _ (by decide +kernel)) ?_)
    rw [hm]
    by_cases h2 : x = 42 ∧ y = 47
    ·have t : two 42 47 (x :: y :: r) = true := by simp [two, h2.1, h2.2]
     rw [if_pos h2]
     refine ev_if t ?_
     by_cases h3 : d = 1
     ·rw [if_pos h3]
      exact ev_if (by omega) (ev_now rfl)
     ·rw [if_neg h3, optM_map, ← e2]
      exact ev_else (by omega) (ih (d - 1) (p + 2) (by omega) (by omega) (by omega) (by omega))
    ·have t : ¬ two 42 47 (x :: y :: r) = true := by simpa [two] using h2
     have e3 := ih d (p + 1) (by omega) hd (by omega) (by omega)
     rw [e1] at e3
     rw [if_neg h2, optM_map]
     exact ev_else t e3
theorem rcom_ev (l : List Int) (hl : Bytes l) (hn : l.length ≤ 1000000) (p : Nat) (hp : p ≤ l.length) (h : two 47 42 (l.drop p) = true) : Ev (fun k => tmesisref05_comment.f k l (p : Int)) (optM p (comS (l.drop p))) := by
 unfold tmesisref05_comment.f
 have hml : (l.drop p).length = l.length - p := List.length_drop
 refine Ev.step (fun k => tmesisref05_comment.l0.eq_2 ..) ?_
 match hm : l.drop p, h with
 | x :: y :: r, h =>
  obtain ⟨e2, e1⟩ := drop_two hm
  rw [hm] at hml
  simp only [List.length_cons] at hml
  refine ev_if (by omega) (ev_same (pair_eq hl hn p hp (a := 47) (b := 42) (by omega) (by omega) _ (by decide +kernel)) ?_)
  rw [hm]
  refine ev_if h ?_
  rw [show wrap64 ((p : Int) + 2) = ((p + 2 : Nat) : Int) by rw [w64 (by omega) (by omega)]; omega, show wrap64 ((0 : Int) + 1) = ((1 : Nat) : Int) by rw [w64 (by omega) (by omega)]; rfl]
  refine ev_eq (com1_ev l hl hn (l.length + 1) 1 (p + 2) (by omega) (by omega) (by omega) (by omega)) ?_
  unfold comS
  rw [optM_map, e2]
  rfl
theorem rskip_loop (l : List Int) (hl : Bytes l) (hn : l.length ≤ 1000000) (N : Nat) : ∀ p : Nat, l.length - p < N → p ≤ l.length →
  Ev (fun k => tmesisref05_Skip.l0 k l (p : Int)) (((p + (skipS (l.drop p)).1 : Nat) : Int), (skipS (l.drop p)).2) := by
 induction N with
 | zero => intro p h; omega
 | succ N ih =>
  intro p hN hp
  have hb := hl.drop p
  have hml : (l.drop p).length = l.length - p := List.length_drop
  refine Ev.step (fun k => tmesisref05_Skip.l0.eq_2 ..) ?_
  match hm : l.drop p with
  | [] =>
   rw [hm] at hml
   simp only [List.length_nil] at hml
   refine ev_else (by omega) (ev_now ?_)
   rw [skipS_stop rfl]; rfl
  | c :: r =>
   rw [hm] at hml hb
   simp only [List.length_cons] at hml
   have hcb := hb.cons.1
   have cut : ∀ n : Nat, l.drop (p + n) = (c :: r).drop n := fun n => by rw [← hm, List.drop_drop]
   have erd : rd l (p : Int) = c := by
    rw [rd_at l p (by omega)]
    have : (l.drop p)[0]? = some c := by rw [hm]; rfl
    rw [List.getElem?_drop, List.getElem?_eq_getElem (by omega)] at this
    exact Option.some.inj this
   have next : ∀ n : Nat, 1 ≤ n → p + n ≤ l.length → stepS (c :: r) = (n, 0) → Ev (fun k => tmesisref05_Skip.l0 k l ((p + n : Nat) : Int)) (((p + (skipS (c :: r)).1 : Nat) : Int), (skipS (c :: r)).2) := by
    intro n h1 h2 es
    have eg := skipS_go (l := c :: r) (by rw [es]; simp only; omega)
    rw [es] at eg
    refine ev_eq (ih (p + n) (by omega) h2) ?_
    rw [cut, eg]
    simp only [Prod.mk.injEq, and_true]
    omega
   rw [erd]
   refine ev_if (by omega) (ev_if (by omega) (Ev.bind (rof_ev hcb) ?_))
   by_cases h1 : classOf c = 1
   ·refine ev_if h1 ?_
    rw [show wrap64 ((p : Int) + 1) = ((p + 1 : Nat) : Int) by rw [w64 (by omega) (by omega)]; omega]
    exact next 1 (by omega) (by omega) (by rw [stepS, if_pos h1])
   ·refine ev_else h1 ?_
    by_cases h2 : c = 37
    ·refine ev_if h2 ?_
     have hls := lineS_le (c :: r)
     simp only [List.length_cons] at hls
     have h1l : 1 ≤ lineS (c :: r) := by rw [lineS_cons, if_neg (by omega)]; omega
     have es : stepS (c :: r) = (lineS (c :: r), 0) := by rw [stepS, if_neg h1, if_pos h2]
     have line : ∀ (d q : Nat), d + q = p + lineS (c :: r) → p ≤ q → lineS (l.drop q) = d → Ev (fun k => tmesisref05_Skip.l1 k l (q : Int)) (((p + (skipS (c :: r)).1 : Nat) : Int), (skipS (c :: r)).2) := by
      intro d
      induction d with
      | zero =>
       intro q hq hpq hd
       refine Ev.step (fun k => tmesisref05_Skip.l1.eq_2 ..) ?_
       have nx := next (lineS (c :: r)) h1l (by omega) es
       rw [show p + lineS (c :: r) = q by omega] at nx
       by_cases hql : q < l.length
       ·have e10 : rd l (q : Int) = 10 := by
         rw [rd_at l q hql]
         rw [List.drop_eq_getElem_cons hql, lineS_cons] at hd
         by_cases h10 : l[q] = 10
         ·exact h10
         ·rw [if_neg h10] at hd; omega
        exact ev_if (by omega) (ev_if (by omega) (ev_if e10 nx))
       ·exact ev_else (by omega) nx
      | succ d ihd =>
       intro q hq hpq hd
       have hql : q < l.length := by omega
       rw [List.drop_eq_getElem_cons hql, lineS_cons] at hd
       refine Ev.step (fun k => tmesisref05_Skip.l1.eq_2 ..) ?_
       have n10 : l[q] ≠ 10 := by
        intro h10
        rw [if_pos h10] at hd; omega
       rw [if_neg n10] at hd
       rw [rd_at l q hql]
       refine ev_if (by omega) (ev_if (by omega) (ev_else n10 ?_))
       rw [show wrap64 ((q : Int) + 1) = ((q + 1 : Nat) : Int) by rw [w64 (by omega) (by omega)]; omega]
       exact ihd (q + 1) (by omega) (by omega) (by omega)
     exact line (lineS (c :: r)) p (by omega) (by omega) (by rw [hm])
    ·refine ev_else h2 (ev_same (pair_eq hl hn p hp (a := 47) (b := 42) (by omega) (by omega) _ (by decide +kernel)) ?_)
     rw [hm]
     by_cases ht : two 47 42 (c :: r) = true
     ·refine ev_if ht ?_
      have rc := rcom_ev l hl hn p hp (by rw [hm]; exact ht)
      rw [hm] at rc
      refine Ev.bind rc ?_
      cases h4 : comS (c :: r) with
      | none =>
       have es : stepS (c :: r) = (0, 14) := by rw [stepS, if_neg h1, if_neg h2, if_pos ht, h4]
       refine ev_if (by show (-1 : Int) < 0; omega) (ev_now ?_)
       rw [skipS_stop (by rw [es]), es]; rfl
      | some n =>
       have es : stepS (c :: r) = (n, 0) := by rw [stepS, if_neg h1, if_neg h2, if_pos ht, h4]
       have hsl := stepS_le (c :: r)
       rw [es] at hsl
       simp only [List.length_cons] at hsl
       have h1n : 1 ≤ n := by
        obtain ⟨m, hm2, rfl⟩ := Option.map_eq_some_iff.1 h4
        omega
       exact ev_else (by show ¬ ((p + n : Nat) : Int) < 0; omega) (next n h1n (by omega) es)
     ·have es : stepS (c :: r) = (0, 0) := by rw [stepS, if_neg h1, if_neg h2, if_neg ht]
      refine ev_else ht (ev_now ?_)
      rw [skipS_stop (by rw [es]), es]; rfl
theorem rskip_ev (l : List Int) (hl : Bytes l) (hn : l.length ≤ 1000000) : Ev (fun k => tmesisref05_Skip.f k l) (((skipS l).1 : Int), (skipS l).2) := by
 refine ev_eq (rskip_loop l hl hn (l.length + 1) 0 (by omega) (by omega)) ?_
 simp
end Go.Proofs.YtpkklbdclghcfaaDoor.P
namespace Go.Proofs.YtpkklbdclghcfaaDoor.P
set_option linter.unusedSimpArgs false
set_option linter.unusedVariables false
open Go.RowKit Go.Proofs.YtpkklbdclghcfaaDoor.P Go.Proofs.YtpkklbdclghcfaaDoorW.PrintWords Go.Proofs.YtpkklbdclghcfaaDoorW.PrintLast Go.Proofs.YtpkklbdclghcfaaDoorW.PrintMore
theorem rnamec_ev {c : Int} (hc : 0 ≤ c ∧ c < 256) : Ev (fun k => tmesisref02_Name.f k c) (nameOf c) := by
 unfold tmesisref02_Name.f nameOf
 refine Ev.bind (rof_ev hc) ?_
 by_cases h2 : classOf c = 2
 ·exact ev_if h2 (ev_now (by simp [h2]))
 refine ev_else h2 (Ev.bind (rof_ev hc) ?_)
 by_cases h3 : classOf c = 3
 ·exact ev_if h3 (ev_now (by simp [h3]))
 exact ev_else h3 (Ev.bind (rof_ev hc) (ev_now (by simp [h2, h3])))
theorem low_all : ∀ n : Nat, n < 256 → nameOf (n : Int) = true → (n : Int) < 128 := by decide +kernel
theorem name_low {c : Int} (h : 0 ≤ c ∧ c < 256) : nameOf c = true → c < 128 := byte_all (p := fun c => nameOf c = true → c < 128) low_all h
theorem high_all : ∀ n : Nat, n < 256 → classOf (n : Int) = 9 → 128 ≤ (n : Int) := by decide +kernel
theorem class_high {c : Int} (h : 0 ≤ c ∧ c < 256) : classOf c = 9 → 128 ≤ c := byte_all (p := fun c => classOf c = 9 → 128 ≤ c) high_all h
theorem take_low {c : Int} (h : c < 128) (r : List Int) : takeS (c :: r) = (1, true) := by
 have e : uLong c = 1 := by unfold uLong; rw [if_pos h]
 rw [takeS_cons, e]; rfl
theorem take_high {c : Int} (h : 128 ≤ c) {r : List Int} (ho : (takeS (c :: r)).2 = true) : (takeS (c :: r)).1 > 1 := by
 rw [takeS_cons] at ho ⊢
 by_cases h0 : uLong c = 0
 ·rw [if_pos h0] at ho; cases ho
 rw [if_neg h0] at ho ⊢
 by_cases h1 : restOk (uLong c - 1) (uLo c) (uHi c) r = true
 ·rw [if_pos h1]
  have : uLong c ≠ 1 := by
   unfold uLong
   rw [if_neg (by omega)]
   split
   ·omega
   split
   ·omega
   split <;> omega
  simp only
  omega
 ·rw [if_neg h1] at ho; cases ho
theorem rname_loop (l : List Int) (hl : Bytes l) (hn : l.length ≤ 1000000) (N : Nat) : ∀ p : Nat, l.length - p < N → p ≤ l.length → Ev (fun k => tmesisref06_name.l0 k l (p : Int)) ((p + nameS (l.drop p) : Nat) : Int) := by
 induction N with
 | zero => intro p h; omega
 | succ N ih =>
  intro p hN hp
  have hml : (l.drop p).length = l.length - p := List.length_drop
  refine Ev.step (fun k => tmesisref06_name.l0.eq_2 ..) ?_
  have w1 : wrap64 ((p : Int) + 1) = ((p + 1 : Nat) : Int) := by rw [w64 (by omega) (by omega)]; omega
  match hm : l.drop p with
  | [] =>
   rw [hm] at hml
   simp only [List.length_nil] at hml
   refine ev_else (by omega) (ev_now ?_)
   rw [nameS_stop rfl]
   rfl
  | c :: r =>
   have hb : Bytes (c :: r) := by rw [← hm]; exact hl.drop _
   rw [hm] at hml
   simp only [List.length_cons] at hml
   have cut : ∀ n : Nat, l.drop (p + n) = (c :: r).drop n := fun n => by rw [← hm, List.drop_drop]
   have tp := take_pos c r
   simp only [List.length_cons] at tp
   refine ev_if (by omega) (ev_if (by omega) ?_)
   rw [rd_here hm, w1]
   refine Ev.bind (rnamec_ev hb.cons.1) ?_
   by_cases h3 : nameOf c = true
   ·refine ev_if h3 (ev_eq (ih (p + 1) (by omega) (by omega)) ?_)
    have es : stepN (c :: r) = 1 := by rw [stepN, take_low (name_low hb.cons.1 h3), if_pos ⟨rfl, fun _ => h3⟩]; rfl
    have e := nameS_go (s := c :: r) (by omega)
    rw [cut, e, es]
    omega
   refine ev_else h3 (ev_if (by omega) ?_)
   (try rw [show l.drop ((p : Int)).toNat = c :: r from hm])
   refine Ev.bind (urtake_ev _) ?_
   have stop : stepN (c :: r) = 0 → ((p : Nat) : Int) = ((p + nameS (c :: r) : Nat) : Int) := fun h => by rw [nameS_stop h]; rfl
   by_cases h1 : (takeS (c :: r)).2 = true
   ·refine ev_if h1 ?_
    by_cases h2 : (takeS (c :: r)).1 = 1
    ·exact ev_if h2 (ev_now (stop (by rw [stepN, if_neg (fun h => h3 (h.2 h2))])))
    ·refine ev_else h2 ?_
     have es : stepN (c :: r) = (takeS (c :: r)).1.toNat := by rw [stepN, if_pos ⟨h1, fun h => absurd h h2⟩]
     have e := nameS_go (s := c :: r) (by omega)
     have wn : wrap64 ((p : Int) + (takeS (c :: r)).1) = ((p + (takeS (c :: r)).1.toNat : Nat) : Int) := by rw [w64 (by omega) (by omega)]; omega
     rw [wn]
     refine ev_eq (ih (p + (takeS (c :: r)).1.toNat) (by omega) (by omega)) ?_
     rw [cut, e, es]
     omega
   ·exact ev_else h1 (ev_now (stop (by rw [stepN, if_neg (fun h => h1 h.1)])))
theorem rname_ev (l : List Int) (hl : Bytes l) (hn : l.length ≤ 1000000) : Ev (fun k => tmesisref06_name.f k l) (nameS l : Int) := by
 refine ev_eq (rname_loop l hl hn (l.length + 1) 0 (by omega) (by omega)) ?_
 simp
theorem ends_ev (c : Int) (r : List Int) (hb : Bytes (c :: r)) : Ev (fun k => tmesisref06_ends.f k (c :: r)) (endsS r) := by
 unfold tmesisref06_ends.f
 cases r with
 | nil => exact ev_if rfl (ev_now rfl)
 | cons d t =>
  refine ev_else (by simp only [List.length_cons]; omega) (ev_if (by simp only [List.length_cons]; omega) ?_)
  rw [show rd (c :: d :: t) 1 = d from rfl]
  refine Ev.bind (rof_ev hb.cons.2.cons.1) ?_
  by_cases h : classOf d = 1
  ·exact ev_if h (ev_now (by simp [endsS, h]))
  ·exact ev_else h (Ev.bind (rof_ev hb.cons.2.cons.1) (ev_now (by simp [endsS, h])))
/-- as_ the reference's 'first' tells it -/
def firstS (l : List Int) : Int × Int × Int × ByteArray × Int := ((tokS l).1, 0, (tokS l).2.1, (tokS l).2.2.1, (tokS l).2.2.2)
theorem tok_good {l : List Int} {kd sz : Int} {tx : ByteArray} (h : scanS (classOf (l.headD 0)) l = (kd, sz, tx, 0)) : firstS l = (kd, 0, sz, tx, 0) := by
 unfold firstS tokS; rw [h]; rfl
theorem tok_bad {l : List Int} {kd sz e : Int} {tx : ByteArray} (h : scanS (classOf (l.headD 0)) l = (kd, sz, tx, e)) (he : e ≠ 0) : firstS l = (8, 0, sz, ⟨#[]⟩, e) := by
 unfold firstS tokS; rw [h]; simp only; rw [if_neg he]
theorem first_ev (c : Int) (r : List Int) (hb : Bytes (c :: r)) (hn : (c :: r).length ≤ 1000000) : Ev (fun k => tmesisref06_first.f k (c :: r)) (firstS (c :: r)) := by
 unfold tmesisref06_first.f
 have hcb := hb.cons.1
 refine ev_if (by simp) ?_
 rw [show rd (c :: r) 0 = c from rfl]
 refine Ev.bind (rof_ev hcb) (Ev.bind (urtake_ev _) ?_)
 have hh : (c :: r).headD 0 = c := rfl
 have hnl := nameS_le ((c :: r).length + 1) (c :: r) (by omega)
 by_cases h2 : classOf c = 2
 ·refine ev_if h2 (Ev.step (fun k => tmesisref06_first.j0.eq_2 ..) (ev_if (by simp [h2]) (Ev.bind (rname_ev _ hb hn) (ev_else (by omega) (ev_if (by omega) (ev_if (by omega) (ev_now ?_)))))))
  rw [tok_good (kd := 1) (sz := (nameS (c :: r) : Int)) (tx := strOfNums ((c :: r).take (nameS (c :: r)))) (by rw [hh, scanS, if_pos h2])]
  rfl
 refine ev_else h2 (Ev.step (fun k => tmesisref06_first.j0.eq_2 ..) ?_)
 by_cases h3 : classOf c = 3
 ·refine ev_if (by simp [h3]) (Ev.bind (rname_ev _ hb hn) (ev_if h3 (ev_if (by omega) (ev_if (by omega) (ev_now ?_)))))
  rw [tok_good (kd := 3) (sz := (nameS (c :: r) : Int)) (tx := strOfNums ((c :: r).take (nameS (c :: r)))) (by rw [hh, scanS, if_neg h2, if_pos h3])]
  rfl
 refine ev_else (by simp [h3]) ?_
 by_cases h9 : classOf c = 9
 ·refine ev_if h9 ?_
  by_cases ho : (takeS (c :: r)).2 = true
  ·refine ev_if ho (ev_if (take_high (class_high hcb h9) ho) (Ev.bind (rname_ev _ hb hn) (ev_if (by omega) (ev_if (by omega) (ev_now ?_)))))
   rw [tok_good (kd := 1) (sz := (nameS (c :: r) : Int)) (tx := strOfNums ((c :: r).take (nameS (c :: r)))) (by rw [hh, scanS, if_neg h2, if_neg h3, if_pos h9, highS, if_pos ho])]
   rfl
  ·refine ev_else ho (ev_now ?_)
   rw [tok_bad (kd := 0) (sz := 1) (tx := ⟨#[]⟩) (e := 10) (by rw [hh, scanS, if_neg h2, if_neg h3, if_pos h9, highS, if_neg ho]) (by decide)]
 refine ev_else h9 ?_
 by_cases h5 : classOf c = 5
 ·refine ev_if h5 (Ev.bind (rrun_ev _ 5 (by omega) hb) ?_)
  have hrl := runS_le (c :: r) 5
  have hsc : scanS (classOf ((c :: r).headD 0)) (c :: r) = symbolS (c :: r) := by rw [hh, scanS, if_neg h2, if_neg h3, if_neg h9, if_pos h5]
  have two : ¬ ((c :: r).take (runS (c :: r) 5) = [46] ∧ endsS ((c :: r).drop (runS (c :: r) 5)) = true) → firstS (c :: r) = (2, 0, (runS (c :: r) 5 : Int), strOfNums ((c :: r).take (runS (c :: r) 5)), 0) := by
   intro h
   exact tok_good (by rw [hsc, symbolS, if_neg h])
  have fin : ¬ ((c :: r).take (runS (c :: r) 5) = [46] ∧ endsS ((c :: r).drop (runS (c :: r) 5)) = true) → Ev (fun _ => if 0 ≤ (runS (c :: r) 5 : Int) then (if (runS (c :: r) 5 : Int) ≤ ((c :: r).length : Int) then (some ((2 : Int), (0 : Int), (runS (c :: r) 5 : Int), strOfNums ((c :: r).take ((runS (c :: r) 5 : Int)).toNat), (0 : Int))) else none) else none) (firstS (c :: r)) := by
   intro h
   rw [two h]
   exact ev_if (by omega) (ev_if (by omega) (ev_now rfl))
  by_cases hr : runS (c :: r) 5 = 1
  ·refine ev_if (by omega) (ev_if (by simp) ?_)
   by_cases h46 : c = 46
   ·refine ev_if h46 (Ev.bind (ends_ev c r hb) ?_)
    by_cases he : endsS r = true
    ·refine ev_if he (ev_if (by omega) (ev_if (by omega) (ev_now ?_)))
     rw [tok_good (kd := 7) (sz := (runS (c :: r) 5 : Int)) (tx := strOfNums ((c :: r).take (runS (c :: r) 5))) (by rw [hsc, symbolS, if_pos ⟨by rw [hr, h46]; rfl, by rw [hr]; exact he⟩])]
     rfl
    ·exact ev_else he (fin (fun h => he (by have := h.2; rw [hr] at this; exact this)))
   ·refine ev_else h46 (fin (fun h => h46 ?_))
    have := h.1
    rw [hr] at this
    simpa using this
  ·refine ev_else (by omega) (fin (fun h => hr ?_))
   have := congrArg List.length h.1
   rw [List.length_take] at this
   simp only [List.length_cons, List.length_nil] at this hrl
   omega
 refine ev_else h5 ?_
 by_cases h4 : classOf c = 4
 ·refine ev_if h4 (Ev.bind (drtake_ev _ hb hn) ?_)
  have hrl := runS_le (c :: r) 4
  have e := takeD_le (c :: r)
  have hsc : scanS (classOf ((c :: r).headD 0)) (c :: r) = numberS (c :: r) := by rw [hh, scanS, if_neg h2, if_neg h3, if_neg h9, if_neg h5, if_pos h4]
  by_cases he : (takeD (c :: r)).2.2 = 0
  ·refine ev_if he (ev_if (by omega) (ev_if (by omega) (ev_now ?_)))
   rw [tok_good (hsc.trans (by rw [numberS, he]))]
  ·refine ev_else he (ev_now ?_)
   rw [tok_bad (hsc.trans (by rw [numberS])) he]
 refine ev_else h4 ?_
 by_cases h7 : classOf c = 7
 ·refine ev_if h7 (Ev.bind (rquote_ev _ hb hn) ?_)
  have hsc : scanS (classOf ((c :: r).headD 0)) (c :: r) = quotedS (c :: r) := by rw [hh, scanS, if_neg h2, if_neg h3, if_neg h9, if_neg h5, if_neg h4, if_pos h7]
  by_cases he : (quoteS (c :: r)).2.2 = 0
  ·refine ev_if he (ev_now ?_)
   rw [tok_good (hsc.trans (by rw [quotedS, he]))]
  ·refine ev_else he (ev_now ?_)
   rw [tok_bad (hsc.trans (by rw [quotedS])) he]
 refine ev_else h7 ?_
 by_cases h6 : classOf c = 6
 ·refine ev_if h6 (ev_if (by simp only [List.length_cons]; omega) (ev_now ?_))
  rw [tok_good (kd := 6) (sz := 1) (tx := strOfNums ((c :: r).take 1)) (by rw [hh, scanS, if_neg h2, if_neg h3, if_neg h9, if_neg h5, if_neg h4, if_neg h7, if_pos h6])]
 ·refine ev_else h6 (ev_now ?_)
  rw [tok_bad (kd := 0) (sz := 1) (tx := ⟨#[]⟩) (e := 11) (by rw [hh, scanS, if_neg h2, if_neg h3, if_neg h9, if_neg h5, if_neg h4, if_neg h7, if_neg h6]) (by decide)]
theorem tokS_le (l : List Int) : (tokS l).2.1 = (scanS (classOf (l.headD 0)) l).2.1 := by
 unfold tokS
 split <;> rfl
theorem rnext_ev (l : List Int) (hl : Bytes l) (hn : l.length ≤ 1000000) (a : Int) : Ev (fun k => tmesisref06_Next.f k l a) (nextS l a) := by
 unfold tmesisref06_Next.f nextS
 by_cases h1 : a < 0
 ·rw [if_pos (.inl h1)]; exact ev_if h1 (Ev.step (fun k => tmesisref06_Next.j0.eq_2 ..) (ev_if rfl (ev_now rfl)))
 refine ev_else h1 (Ev.step (fun k => tmesisref06_Next.j0.eq_2 ..) ?_)
 by_cases h2 : a > (l.length : Int)
 ·rw [if_pos (.inr h2)]; exact ev_if (decide_eq_true h2) (ev_now rfl)
 refine ev_else (by rw [decide_eq_false h2]; simp) (ev_if (by omega) (ev_if (by omega) ?_))
 rw [if_neg (fun h => h.elim h1 h2)]
 obtain ⟨p, rfl⟩ : ∃ p : Nat, a = (p : Int) := ⟨a.toNat, by omega⟩
 rw [show ((p : Int)).toNat = p from rfl]
 have hd := hl.drop p
 have hml : (l.drop p).length = l.length - p := List.length_drop
 refine Ev.bind (rskip_ev _ hd (by omega)) ?_
 have hsl := skipS_le ((l.drop p).length + 1) (l.drop p) (by omega)
 unfold behindS
 generalize hS : skipS (l.drop p) = S at hsl
 obtain ⟨n, e⟩ := S
 simp only at hsl ⊢
 have wn : wrap64 ((p : Int) + (n : Int)) = ((p + n : Nat) : Int) := by rw [w64 (by omega) (by omega)]; omega
 rw [wn]
 by_cases he : e = 0
 ·refine ev_if he ?_
  rw [if_neg (by simp [he])]
  have hml2 : (l.drop (p + n)).length = l.length - (p + n) := List.length_drop
  match hm : l.drop (p + n) with
  | [] =>
   rw [hm] at hml2
   simp only [List.length_nil] at hml2
   rw [if_pos rfl]
   exact ev_if (by omega) (ev_now rfl)
  | c :: r =>
   rw [hm] at hml2
   simp only [List.length_cons] at hml2
   rw [if_neg (by simp)]
   refine ev_else (by omega) (ev_if (by omega) (ev_if (by omega) ?_))
   (try rw [show l.drop (((p + n : Nat) : Int)).toNat = c :: r from hm])
   have hb : Bytes (c :: r) := by rw [← hm]; exact hl.drop _
   refine Ev.bind (first_ev c r hb (by simp only [List.length_cons]; omega)) ?_
   have hsz := scanS_le (classOf ((c :: r).headD 0)) (l := c :: r) (by simp)
   rw [← tokS_le] at hsz
   simp only [List.length_cons] at hsz
   have ws : wrap64 (((p + n : Nat) : Int) + (tokS (c :: r)).2.1) = ((p + n : Nat) : Int) + (tokS (c :: r)).2.1 := by rw [w64 (by omega) (by omega)]
   unfold firstS
   simp only
   rw [ws]
   exact ev_now rfl
 ·rw [if_pos he]
  exact ev_else he (ev_now rfl)
end Go.Proofs.YtpkklbdclghcfaaDoor.P
namespace Go.Proofs.YtpkklbdclghcfaaDoor.P
set_option linter.unusedSimpArgs false
set_option linter.unusedVariables false
open Go.RowKit Go.Proofs.YtpkklbdclghcfaaDoor.P Go.Proofs.YtpkklbdclghcfaaDoorW.PrintWords Go.Proofs.YtpkklbdclghcfaaDoorW.PrintLast Go.Proofs.YtpkklbdclghcfaaDoorW.PrintMore
theorem rlexAll_loop (l : List Int) (hl : Bytes l) (hn : l.length ≤ 1000000) (N : Nat) : ∀ (p : Nat) (acc : List TokR), l.length - p < N → p ≤ l.length → acc.length ≤ p →
  Ev (fun k => tmesisref07_All.l0 k l acc (p : Int)) (acc ++ (lexS (l.drop p)).map (shiftT p)) := by
 induction N with
 | zero => intro p acc h; omega
 | succ N ih =>
  intro p acc hN hp ha
  refine Ev.step (fun k => tmesisref07_All.l0.eq_2 ..) (Ev.bind (rnext_ev l hl hn (p : Int)) ?_)
  rw [next_head l p hp]
  cases hh : headT (l.drop p) with
  | none =>
   rw [lexS_none hh]
   exact ev_else (by simp [noTok]) (ev_now (by simp))
  | some q =>
   obtain ⟨n, t⟩ := q
   have hb := headT_bd (hl.drop p) hh
   rw [List.length_drop] at hb
   rw [lexS_some (hl.drop p) hh, List.drop_drop]
   refine ev_if rfl (ev_if (by omega) ?_)
   have e2 : t.f2 + (p : Int) = ((p + n : Nat) : Int) := by omega
   simp only
   rw [e2]
   refine ev_eq (ih (p + n) _ (by omega) (by omega) (by simp; omega)) ?_
   rw [List.append_assoc, List.singleton_append, List.map_cons, map_shift]
   congr 2
   exact TokR.same rfl rfl (by show ((p + n : Nat) : Int) = t.f2 + (p : Int); omega) rfl rfl
theorem rlexAll_ev (l : List Int) (hl : Bytes l) (hn : l.length ≤ 1000000) : Ev (fun k => tmesisref07_All.f k l) (lexS l) := by
 have h := rlexAll_loop l hl hn (l.length + 1) 0 [] (by omega) (by omega) (by simp)
 rw [List.drop_zero, List.nil_append, map_zero] at h
 exact h
theorem parts_upto {t : TokR} (h : t.f0 = 7) (r : List TokR) : ∀ a : List TokR, (∀ u ∈ a, u.f0 ≠ 7) → partsS (a ++ t :: r) = (a ++ [t]) :: partsS r
 | [], _ => parts_end h r
 | u :: a, hu => parts_go (hu u (by simp)) (parts_upto h r a (fun x hx => hu x (by simp [hx])))
theorem parts_all {t : TokR} : ∀ a : List TokR, (∀ u ∈ a, u.f0 ≠ 7) → t.f0 ≠ 7 → partsS (a ++ [t]) = [a ++ [t]]
 | [], _, h => by rw [List.nil_append, partsS, if_neg h]; rfl
 | u :: a, hu, h => parts_go (hu u (by simp)) (parts_all a (fun x hx => hu x (by simp [hx])) h)
theorem pieceOf_snoc (n : Nat) (a : List TokR) (t : TokR) : pieceOf n (a ++ [t]) = ⟨((a ++ [t]).headD z38).f1, t.f2, (n : Int), a ++ [t]⟩ := by
 unfold pieceOf
 rw [List.getLastD_concat]
theorem rpieces_loop (L : List TokR) (hn : L.length ≤ 1000000) (r : List TokR) : ∀ (i fr : Nat) (a : List TokR) (acc : List PieceR), L.drop fr = a ++ r → L.drop i = r → i = fr + a.length → i ≤ L.length → (∀ u ∈ a, u.f0 ≠ 7) → (r = [] → a = []) → acc.length ≤ i →
  Ev (fun k => tmesisref10_Pieces.l0 k acc L (fr : Int) (i : Int)) (acc ++ piecesG fr (partsS (a ++ r))) := by
 induction r with
 | nil =>
  intro i fr a acc h1 h2 h3 h4 h5 h6 h7
  have : L.length - i = 0 := by have := congrArg List.length h2; simpa using this
  rw [h6 rfl]
  exact Ev.step (fun k => tmesisref10_Pieces.l0.eq_2 ..) (ev_else (by omega) (ev_now (by simp [partsS, piecesG])))
 | cons t r ih =>
  intro i fr a acc h1 h2 h3 h4 h5 h6 h7
  obtain ⟨g1, g2, g3⟩ := rdT_drop h2
  have hfl : fr < L.length := by omega
  have hhead : rd_T38 L (fr : Int) = (a ++ [t]).headD z38 := by
   cases a with
   | nil => exact (rdT_drop h1).2.1
   | cons u a => exact (rdT_drop (by rw [h1]; rfl)).2.1
  have hcut : ((L.take (i + 1)).drop fr) = a ++ [t] := by
   rw [List.drop_take, h1, show i + 1 - fr = a.length + 1 by omega]
   rw [List.take_append, List.take_of_length_le (by omega), show a.length + 1 - a.length = 1 by omega]; rfl
  refine Ev.step (fun k => tmesisref10_Pieces.l0.eq_2 ..) (ev_if (by omega) (ev_if (by omega) ?_))
  rw [g2, w64n (by omega)]
  have make : ∀ hp : partsS (a ++ t :: r) = (a ++ [t]) :: partsS r, Ev (fun k => if 0 ≤ (fr : Int) then (if (fr : Int) < (L.length : Int) then ((some (([] : List TokR) : List TokR)).bind fun y456 => (if (fr : Int) ≤ ((i + 1 : Nat) : Int) then (if ((i + 1 : Nat) : Int) ≤ (L.length : Int) then ((some ((L.take ((((i + 1 : Nat) : Int)) : Int).toNat).drop (fr : Int).toNat : List TokR)).bind fun y459 => (if y456.length + y459.length < 2932031007402 then (if acc.length < 2932031007402 then (tmesisref10_Pieces.l0 k (acc ++ [(⟨(rd_T38 L (fr : Int)).f1, t.f2, (fr : Int), (y456 ++ y459)⟩ : PieceR)]) L ((i + 1 : Nat) : Int) ((i + 1 : Nat) : Int)) else (none)) else (none))) else (none)) else (none))) else (none)) else (none)) (acc ++ piecesG fr (partsS (a ++ t :: r))) := fun hp => by
   refine ev_if (by omega) (ev_if (by omega) (ev_let (ev_if (by omega) (ev_if (by omega) (ev_let ?_)))))
   rw [show (((i + 1 : Nat) : Int)).toNat = i + 1 from rfl, show ((fr : Int)).toNat = fr from rfl, hcut, hhead]
   refine ev_if (by simp; omega) (ev_if (by omega) ?_)
   refine ev_eq (ih (i + 1) (i + 1) [] _ (by rw [g3]; rfl) g3 (by simp) (by omega) (by simp) (fun _ => rfl) (by simp; omega)) ?_
   rw [hp, piecesG, pieceOf_snoc, List.append_assoc, List.nil_append, List.length_append, List.length_singleton, show fr + (a.length + 1) = i + 1 by omega]; rfl
  by_cases h7' : t.f0 = 7
  ·exact ev_if h7' (make (parts_upto h7' r a h5))
  ·refine ev_else h7' ?_
   by_cases hr : r = []
   ·subst hr
    have hlen : L.length = i + 1 := by
     have := congrArg List.length g3
     simp at this
     omega
    refine ev_if (by rw [w64 (by omega) (by omega)]; omega) (make ?_)
    rw [parts_all a h5 h7']; rfl
   ·have hlen : i + 1 < L.length := by
     have := congrArg List.length g3
     rw [List.length_drop] at this
     have := List.length_pos_iff.2 hr
     omega
    refine ev_else (by rw [w64 (by omega) (by omega)]; omega) ?_
    refine ev_eq (ih (i + 1) fr (a ++ [t]) acc (by rw [h1]; simp) g3 (by simp; omega) (by omega) ?_ (fun h => absurd h hr) (by omega)) (by simp)
    intro u hu
    rcases List.mem_append.1 hu with h | h
    ·exact h5 u h
    ·rw [List.mem_singleton.1 h]; exact h7'
theorem rpieces_ev (s : List Int) (hb : Bytes s) (hn : s.length ≤ 1000000) : Ev (fun k => tmesisref10_Pieces.f k s) (piecesS s) := by
 have hl := lexS_len _ s (Nat.lt_succ_self _) hb
 unfold tmesisref10_Pieces.f
 refine Ev.bind (rlexAll_ev s hb hn) ?_
 exact ev_eq (rpieces_loop (lexS s) (by omega) (lexS s) 0 0 [] [] rfl rfl rfl (Nat.zero_le _) (by simp) (fun _ => rfl) (Nat.le_refl _)) (by simp [piecesS, piecesT])
theorem rnest_loop (a b c : Int) (l : List TokR) (hn : l.length ≤ 1000000) (r : List TokR) : ∀ (i : Nat) (o m : Int), l.drop i = r → i ≤ l.length → 0 ≤ o → o ≤ i → o ≤ m →
  Ev (fun k => tmesisref10_Nest.l0 k o m (i : Int) a b c l) (r.foldl nestN (o, m)).2 := by
 induction r with
 | nil =>
  intro i o m h hi _ _ _
  have : l.length - i = 0 := by have := congrArg List.length h; simpa using this
  exact Ev.step (fun k => tmesisref10_Nest.l0.eq_2 ..) (ev_else (by omega) (Ev.now _))
 | cons t r ih =>
  intro i o m h hi h0 ho hm
  obtain ⟨h1, h2, h3⟩ := rdT_drop h
  refine Ev.step (fun k => tmesisref10_Nest.l0.eq_2 ..) (ev_if (by omega) (ev_if (by omega) ?_))
  rw [h2, List.foldl_cons]
  by_cases h6 : t.f0 = 6
  ·refine ev_if h6 (Ev.step (fun k => tmesisref10_Nest.j1.eq_2 ..) ?_)
   by_cases hp : t.f3.toList = ([40] : List UInt8)
   ·have hq : ¬ t.f3.toList = ([41] : List UInt8) := by rw [hp]; decide
    refine ev_if (by simp [hp]) (ev_if h6 (ev_else hq ?_))
    rw [w64 (i := o + 1) (by omega) (by omega), w64n (by omega)]
    have e : nestN (o, m) t = (o + 1, mx m (o + 1)) := by unfold nestN; rw [if_pos h6, if_pos hp]
    rw [e]
    exact ih (i + 1) _ _ h3 (by omega) (by omega) (by omega) (by unfold mx; split <;> omega)
   ·refine ev_else (by simp [hp]) (ev_if h6 ?_)
    by_cases hq : t.f3.toList = ([41] : List UInt8)
    ·refine ev_if hq ?_
     have e : nestN (o, m) t = (mx (o - 1) 0, mx m (mx (o - 1) 0)) := by unfold nestN; rw [if_pos h6, if_neg hp, if_pos hq]
     rw [e]
     by_cases ho0 : o > 0
     ·refine ev_if ho0 ?_
      rw [w64 (i := o - 1) (by omega) (by omega), w64n (by omega), show mx (o - 1) 0 = o - 1 by unfold mx; rw [if_neg (by omega)]]
      exact ih (i + 1) _ _ h3 (by omega) (by omega) (by omega) (by unfold mx; split <;> omega)
     ·refine ev_else ho0 ?_
      rw [w64n (by omega), show mx (o - 1) 0 = o by unfold mx; rw [if_pos (by omega)]; omega]
      exact ih (i + 1) _ _ h3 (by omega) (by omega) (by omega) (by unfold mx; split <;> omega)
    ·refine ev_else hq ?_
     have e : nestN (o, m) t = (o, mx m o) := by unfold nestN; rw [if_pos h6, if_neg hp, if_neg hq]
     rw [e, w64n (by omega)]
     exact ih (i + 1) _ _ h3 (by omega) (by omega) (by omega) (by unfold mx; split <;> omega)
  ·refine ev_else h6 (Ev.step (fun k => tmesisref10_Nest.j1.eq_2 ..) (ev_else (by simp) (ev_else h6 ?_)))
   have e : nestN (o, m) t = (o, m) := by unfold nestN; rw [if_neg h6]
   rw [e, w64n (by omega), show mx m o = m by unfold mx; rw [if_neg (by omega)]]
   exact ih (i + 1) _ _ h3 (by omega) (by omega) (by omega) hm
theorem rnest_ev (a b c : Int) (l : List TokR) (hn : l.length ≤ 1000000) : Ev (fun k => tmesisref10_Nest.f k a b c l) (nestS l) := rnest_loop a b c l hn l 0 0 0 rfl (Nat.zero_le _) (Int.le_refl _) (Int.le_refl _) (Int.le_refl _)
/-- a text put in its place -/
def insS (s : ByteArray) : List ByteArray → List ByteArray
 | [] => [s]
 | x :: r => if chrs x < chrs s then x :: insS s r else if x = s then x :: r else s :: x :: r
theorem ins_mem (s y : ByteArray) : ∀ l : List ByteArray, y ∈ insS s l ↔ y = s ∨ y ∈ l
 | [] => by simp [insS]
 | x :: r => by
  unfold insS
  by_cases h : chrs x < chrs s
  ·rw [if_pos h, List.mem_cons, ins_mem s y r, List.mem_cons]
   constructor
   ·rintro (h | h | h)
    ·exact .inr (.inl h)
    ·exact .inl h
    ·exact .inr (.inr h)
   ·rintro (h | h | h)
    ·exact .inr (.inl h)
    ·exact .inl h
    ·exact .inr (.inr h)
  ·rw [if_neg h]
   by_cases e : x = s
   ·subst e; rw [if_pos rfl]; simp
   ·rw [if_neg e]; simp
theorem ins_rising (s : ByteArray) : ∀ l : List ByteArray, Rising l → Rising (insS s l)
 | [], _ => List.pairwise_singleton _ _
 | x :: r, h => by
  obtain ⟨h1, h2⟩ := List.pairwise_cons.1 (show ((x :: r).map chrs).Pairwise (· < ·) from h)
  unfold insS
  by_cases hl : chrs x < chrs s
  ·rw [if_pos hl]
   refine List.pairwise_cons.2 ⟨fun y hy => ?_, ins_rising s r h2⟩
   obtain ⟨z, hz, rfl⟩ := List.mem_map.1 hy
   rcases (ins_mem s z r).1 hz with rfl | hz
   ·exact hl
   ·exact h1 _ (List.mem_map_of_mem hz)
  ·rw [if_neg hl]
   by_cases e : x = s
   ·rw [if_pos e]; exact h
   ·rw [if_neg e]
    have hsx : chrs s < chrs x := lt_of_le_ne (List.not_lt.1 hl) (fun h3 => e (by rw [← unch_chrs x, ← h3, unch_chrs]))
    refine List.pairwise_cons.2 ⟨fun y hy => ?_, h⟩
    rcases List.mem_cons.1 hy with rfl | hy
    ·exact hsx
    ·exact List.lt_trans hsx (h1 y hy)
theorem ins_app (s : ByteArray) : ∀ (p q : List ByteArray), (∀ x ∈ p, chrs x < chrs s) → insS s (p ++ q) = p ++ insS s q
 | [], _, _ => rfl
 | x :: p, q, h => by
  rw [List.cons_append, insS, if_pos (h x (by simp)), ins_app s p q (fun y hy => h y (by simp [hy])), List.cons_append]
theorem ins_len (s : ByteArray) : ∀ l : List ByteArray, (insS s l).length ≤ l.length + 1
 | [] => by simp [insS]
 | x :: r => by
  have := ins_len s r
  unfold insS
  split
  ·simp; omega
  ·split <;> simp
theorem tl_iff {a b : ByteArray} : a.toList = b.toList ↔ a = b := by
 rw [Lib.toList_data, Lib.toList_data]
 exact ⟨fun h => by rw [← unch_chrs a, ← unch_chrs b]; exact congrArg unch h, fun h => by rw [h]⟩
theorem less_iff (a b : ByteArray) : (Op.bytesLess a.toList b.toList = true) ↔ chrs a < chrs b := by
 rw [bytesLess_eq, Lib.toList_data, Lib.toList_data]; simp [chrs]
theorem rdS_drop {l r : List ByteArray} {t : ByteArray} {i : Nat} (h : l.drop i = t :: r) : i < l.length ∧ rdOf ByteArray.empty l (i : Int) = t := by
 have hl : (l.drop i).length = r.length + 1 := by rw [h]; rfl
 rw [List.length_drop] at hl
 have h2 : l[i]? = some t := by rw [← List.head?_drop, h]; rfl
 refine ⟨by omega, ?_⟩
 show l.getD i _ = t
 rw [List.getD_eq_getElem?_getD, h2]; rfl
theorem rins_loop (a b c : Int) (l : List TokR) (i : Nat) (t0 t1 t2 t4 : Int) (s : ByteArray) (out : List ByteArray) (hn : out.length ≤ 1000) {res : List ByteArray} (h : Ev (fun k => tmesisref10_Names.l0 k (insS s out) (wrap64 ((i : Int) + 1)) a b c l) res) (q : List ByteArray) :
  ∀ p : List ByteArray, out = p ++ q → (∀ x ∈ p, chrs x < chrs s) → Ev (fun k => tmesisref10_Names.l1 k out (i : Int) (p.length : Int) a b c l t0 t1 t2 s t4) res := by
 induction q with
 | nil =>
  intro p hp hlt
  rw [List.append_nil] at hp
  subst hp
  have hI : insS s out = out ++ [s] := by have := ins_app s out [] hlt; simpa [insS] using this
  refine Ev.step (fun k => tmesisref10_Names.l1.eq_2 ..) (ev_else (by omega) (ev_if rfl (ev_let (ev_if (by omega) (ev_if (by omega) (ev_let ?_))))))
  rw [show ((out.length : Int)).toNat = out.length from rfl, List.drop_length, List.take_length]
  refine ev_if (by simp) (ev_let (ev_let (ev_if (by omega) (ev_let (ev_if (by simp; omega) ?_)))))
  rw [hI] at h
  simpa using h
 | cons x q ih =>
  intro p hp hlt
  have hd : out.drop p.length = x :: q := by rw [hp, List.drop_left]
  have ht : out.take p.length = p := by rw [hp, List.take_left]
  obtain ⟨h1, h2⟩ := rdS_drop hd
  refine Ev.step (fun k => tmesisref10_Names.l1.eq_2 ..) (ev_if (by omega) (ev_if (by omega) ?_))
  rw [h2]
  have hI : insS s out = p ++ insS s (x :: q) := by rw [hp]; exact ins_app s p _ hlt
  by_cases hx : chrs x < chrs s
  ·refine ev_if ((less_iff x s).2 hx) ?_
   rw [show wrap64 ((p.length : Int) + 1) = ((p ++ [x]).length : Int) by rw [w64n (by omega)]; simp]
   refine ih (p ++ [x]) (by rw [hp]; simp) (fun y hy => ?_)
   rcases List.mem_append.1 hy with hy | hy
   ·exact hlt y hy
   ·rw [List.mem_singleton.1 hy]; exact hx
  ·refine ev_else (fun hh => hx ((less_iff x s).1 hh)) (ev_else (by omega) ?_)
   by_cases e : x = s
   ·refine ev_if (tl_iff.2 e) ?_
    have : insS s out = out := by rw [hI, insS, if_neg hx, if_pos e, ← hp]
    rw [this] at h
    exact h
   ·refine ev_else (fun hh => e (tl_iff.1 hh)) (ev_let (ev_if (by omega) (ev_let ?_)))
    rw [show ((p.length : Int)).toNat = p.length from rfl, hd, ht]
    refine ev_if (by rw [← hd]; simp; omega) (ev_let (ev_let (ev_if (by omega) (ev_let (ev_if (by rw [← hd]; simp; omega) ?_)))))
    rw [hI, insS, if_neg hx, if_neg e] at h
    simpa using h
theorem rnames_loop (a b c : Int) (l : List TokR) (hn : l.length ≤ 1000) (r : List TokR) : ∀ (i : Nat) (out : List ByteArray), l.drop i = r → i ≤ l.length → out.length ≤ i →
  Ev (fun k => tmesisref10_Names.l0 k out (i : Int) a b c l) ((nameL r).foldl (fun o s => insS s o) out) := by
 induction r with
 | nil =>
  intro i out h hi ho
  have : l.length - i = 0 := by have := congrArg List.length h; simpa using this
  exact Ev.step (fun k => tmesisref10_Names.l0.eq_2 ..) (ev_else (by omega) (ev_now rfl))
 | cons t r ih =>
  intro i out h hi ho
  obtain ⟨h1, h2, h3⟩ := rdT_drop h
  refine Ev.step (fun k => tmesisref10_Names.l0.eq_2 ..) (ev_if (by omega) (ev_if (by omega) ?_))
  rw [h2, nameL_cons]
  have yes : isName t = true → Ev (fun k => tmesisref10_Names.j1 k out (i : Int) false a b c l t.f0 t.f1 t.f2 t.f3 t.f4) ((if isName t = true then t.f3 :: nameL r else nameL r).foldl (fun o s => insS s o) out) := fun hN => by
   rw [if_pos hN, List.foldl_cons]
   refine Ev.step (fun k => tmesisref10_Names.j1.eq_2 ..) (ev_else (by simp) ?_)
   refine rins_loop a b c l i t.f0 t.f1 t.f2 t.f4 t.f3 out (by omega) ?_ out [] rfl (by simp)
   rw [w64n (by omega)]
   have := ins_len t.f3 out
   exact ih (i + 1) _ h3 (by omega) (by omega)
  by_cases e1 : t.f0 = 1
  ·exact ev_if e1 (yes (by simp [isName, e1]))
  ·refine ev_else e1 ?_
   by_cases e2 : t.f0 = 2
   ·exact ev_if e2 (yes (by simp [isName, e2]))
   ·refine ev_else e2 ?_
    by_cases e6 : t.f0 = 6
    ·rw [show (t.f0 != 6) = false by simp [e6]]
     exact yes (by simp [isName, e6])
    ·rw [show (t.f0 != 6) = true by simp [e6], if_neg (by simp [isName, e1, e2, e6])]
     refine Ev.step (fun k => tmesisref10_Names.j1.eq_2 ..) (ev_if rfl ?_)
     rw [w64n (by omega)]
     exact ih (i + 1) _ h3 (by omega) (by omega)
theorem fold_facts : ∀ (n : List ByteArray) (out : List ByteArray), Rising out → Rising (n.foldl (fun o s => insS s o) out) ∧ ∀ y, y ∈ n.foldl (fun o s => insS s o) out ↔ y ∈ out ∨ y ∈ n
 | [], out, h => ⟨h, fun y => by simp⟩
 | s :: n, out, h => by
  obtain ⟨h1, h2⟩ := fold_facts n (insS s out) (ins_rising s out h)
  refine ⟨h1, fun y => ?_⟩
  rw [List.foldl_cons, h2, ins_mem, List.mem_cons]
  constructor
  ·rintro ((h | h) | h)
   ·exact .inr (.inl h)
   ·exact .inl h
   ·exact .inr (.inr h)
  ·rintro (h | h | h)
   ·exact .inl (.inr h)
   ·exact .inl (.inl h)
   ·exact .inr h
theorem rnames_ev (a b c : Int) (l : List TokR) (hn : l.length ≤ 1000) : Ev (fun k => tmesisref10_Names.f k a b c l) (namesS l) := by
 refine ev_eq (rnames_loop a b c l hn l 0 [] rfl (Nat.zero_le _) (Nat.le_refl _)) ?_
 obtain ⟨h1, h2⟩ := fold_facts (nameL l) [] List.Pairwise.nil
 exact rising_eqS h1 (names_rising l) (fun x => by rw [h2, names_mem]; simp)
theorem same_loop (a : List TokR) (hn : a.length ≤ 1000000) (d : Nat) : ∀ i : Nat, i + d = a.length → Ev (fun k => tmesisref07_Same.l0 k a a (i : Int)) true := by
 induction d with
 | zero => intro i h; exact Ev.step (fun k => tmesisref07_Same.l0.eq_2 ..) (ev_else (by omega) (Ev.now _))
 | succ d ih =>
  intro i h
  refine Ev.step (fun k => tmesisref07_Same.l0.eq_2 ..) (ev_if (by omega) (ev_if (by omega) (ev_if (by omega) (ev_else (by simp) ?_))))
  rw [w64n (by omega)]
  exact ih (i + 1) (by omega)
theorem same_ev (a : List TokR) (hn : a.length ≤ 1000000) : Ev (fun k => tmesisref07_Same.f k a a) true := by
 unfold tmesisref07_Same.f
 exact ev_if rfl (same_loop a hn a.length 0 (by omega))
theorem rdP_get (l : List PieceR) (i : Nat) (h : i < l.length) : rd_T25 l (i : Int) = l[i] := by
 show l.getD i _ = l[i]
 rw [List.getD_eq_getElem?_getD, List.getElem?_eq_getElem h]; rfl
theorem sameP_loop (a : List PieceR) (hn : a.length ≤ 1000000) (hp : ∀ p ∈ a, p.f3.length ≤ 1000000) (d : Nat) : ∀ i : Nat, i + d = a.length → Ev (fun k => tmesisref10_Same.l0 k a a (i : Int)) true := by
 induction d with
 | zero => intro i h; exact Ev.step (fun k => tmesisref10_Same.l0.eq_2 ..) (ev_else (by omega) (Ev.now _))
 | succ d ih =>
  intro i h
  refine Ev.step (fun k => tmesisref10_Same.l0.eq_2 ..) (ev_if (by omega) (ev_if (by omega) (ev_if (by omega) ?_)))
  rw [rdP_get a i (by omega)]
  refine Ev.bind (same_ev _ (hp _ (List.getElem_mem _))) (ev_if rfl (ev_if rfl (ev_if rfl (ev_if rfl ?_))))
  rw [w64n (by omega)]
  exact ih (i + 1) (by omega)
theorem sameP_ev (a : List PieceR) (hn : a.length ≤ 1000000) (hp : ∀ p ∈ a, p.f3.length ≤ 1000000) : Ev (fun k => tmesisref10_Same.f k a a) true := by
 unfold tmesisref10_Same.f
 exact ev_if rfl (sameP_loop a hn hp a.length 0 (by omega))
theorem piecesG_len (ps : List (List TokR)) : ∀ n, (piecesG n ps).length = ps.length := by
 induction ps with
 | nil => intro n; rfl
 | cons p ps ih => intro n; simp [piecesG, ih]
theorem piecesG_part (ps : List (List TokR)) : ∀ n, ∀ p ∈ piecesG n ps, p.f3 ∈ ps := by
 induction ps with
 | nil => intro n p h; cases h
 | cons q ps ih =>
  intro n p h
  rw [piecesG] at h
  rcases List.mem_cons.1 h with rfl | h
  ·exact List.mem_cons_self
  ·exact List.mem_cons_of_mem _ (ih _ p h)
theorem part_len (l p : List TokR) (h : p ∈ partsS l) : p.length ≤ l.length := by
 have h1 := congrArg List.length (parts_flat l)
 have h2 := List.sublist_flatten_of_mem h
 have := h2.length_le
 omega
end Go.Proofs.YtpkklbdclghcfaaDoor.P
namespace Go.Proofs.YtpkklbdclghcfaaDoor.Pure
set_option linter.unusedSimpArgs false
set_option linter.unusedVariables false
open Go.RowKit Go.Proofs.YtpkklbdclghcfaaDoor.P Go.Proofs.YtpkklbdclghcfaaDoorW.PrintWords Go.Proofs.YtpkklbdclghcfaaDoorW.PrintLast
theorem cmp_loop (l : List Int) (hb : Bytes (l.take 200)) (x : List ByteArray) (hx : x.length ≤ 1000) (a b c : Int) (t : List TokR) (d : Nat) : ∀ i : Nat, i + d = x.length → Ev (fun k => tmesislaw10_SplitAll.l0 k l true x x (i : Int) a b c t) true := by
 have hl : (l.take 200).length ≤ 200 := by rw [List.length_take]; omega
 have hll := lexS_len _ (l.take 200) (Nat.lt_succ_self _) hb
 induction d with
 | zero =>
  intro i h
  refine Ev.step (fun k => tmesislaw10_SplitAll.l0.eq_2 ..) (ev_else (by omega) (ev_if rfl (ev_same (few_eq l) ?_)))
  refine Ev.bind (pieces_ev _ hb (by omega)) (ev_same (few_eq l) (Ev.bind (rpieces_ev _ hb (by omega)) (Ev.bind (sameP_ev _ ?_ ?_) (ev_if rfl ?_))))
  ·unfold piecesS piecesT
   rw [piecesG_len]
   have := parts_len (lexS (l.take 200))
   omega
  ·intro p hp
   have := part_len _ _ (piecesG_part _ _ p hp)
   omega
  ·refine ev_same (short_eq a b c t) (Ev.bind (nest_ev _ _ _ _ (by rw [List.length_take]; omega)) (ev_same (short_eq a b c t) (Ev.bind (rnest_ev _ _ _ _ (by rw [List.length_take]; omega)) ?_)))
   exact Ev.step (fun k => tmesislaw10_SplitAll.j1.eq_2 ..) (ev_now (by simp))
 | succ d ih =>
  intro i h
  refine Ev.step (fun k => tmesislaw10_SplitAll.l0.eq_2 ..) (ev_if (by omega) (ev_if (by omega) (ev_if (by omega) (ev_if rfl ?_))))
  rw [w64n (by omega)]
  exact ih (i + 1) (by omega)
theorem SplitAll : tmesislaw10_SplitAll.Pure := by
 intro l a b c t hl _ _ _ _
 have hb := (bytes_wf hl.2.2).take 200
 have ht : (t.take 40).length ≤ 40 := by rw [List.length_take]; omega
 have hxn := names_len (t.take 40)
 apply Ev.rounds
 unfold tmesislaw10_SplitAll.f
 refine Ev.bind shown_ev (ev_same (short_eq a b c t) (Ev.bind (names_ev a b c (t.take 40) (by omega)) (ev_same (short_eq a b c t) (Ev.bind (rnames_ev a b c (t.take 40) (by omega)) (ev_if rfl ?_)))))
 exact cmp_loop l hb (namesS (t.take 40)) (by omega) a b c t _ 0 (Nat.zero_add _)
end Go.Proofs.YtpkklbdclghcfaaDoor.Pure
