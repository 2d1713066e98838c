/- Part of the proof: what the theorem needs of this text. -/
import Derived.Test.YtflekegjmjjdmaaDoorKHCM
import Derived.Test.YtflekegjmjjdmaaDoorKHG
import Derived.Test.YtflekegjmjjdmaaDoorKHIB
import Derived.Test.YtflekegjmjjdmaaDoorKHTX
import Derived.Test.YtflekegjmjjdmaaDoorKPx2
import Derived.Test.YtflekegjmjjdmaaDoorKPx3
import Derived.Test.YtflekegjmjjdmaaDoorKPx4
import Derived.Test.YtflekegjmjjdmaaDoorKPx5
import Derived.Test.YtflekegjmjjdmaaDoorKPx6
import Derived.Test.YtflekegjmjjdmaaDoorKPx7
import Derived.Test.YtflekegjmjjdmaaDoorKPx8
import Derived.Test.YtflekegjmjjdmaaDoorKPx9
import Derived.Test.YtflekegjmjjdmaaDoorMW1
namespace Go.Proofs.YtflekegjmjjdmaaDoor.P
set_option linter.unusedSimpArgs false
set_option linter.unusedVariables false
open Go.RowKit Go.Proofs.YtflekegjmjjdmaaDoorW.PrintWords Go.Proofs.YtflekegjmjjdmaaDoorW.PrintLast Go.Proofs.YtflekegjmjjdmaaDoorW.PrintMore
section
variable {α β : Type}
theorem ev_if {c : Prop} [Decidable c] {a b : Nat → Option α} {r : α} (hc : c) (h : Ev a r) : Ev (fun k => if c then a k else b k) r := by simpa only [if_pos hc] using h
theorem ev_else {c : Prop} [Decidable c] {a b : Nat → Option α} {r : α} (hc : ¬ c) (h : Ev b r) : Ev (fun k => if c then a k else b k) r := by simpa only [if_neg hc] using h
theorem ev_let {y : β} {f : Nat → β → Option α} {r : α} (h : Ev (fun k => f k y) r) : Ev (fun k => (some y).bind (f k)) r := h
theorem ev_same {o : Option β} {y : β} {f : Nat → β → Option α} {r : α} (ho : o = some y) (h : Ev (fun k => f k y) r) : Ev (fun k => o.bind (f k)) r := by subst ho; exact h
theorem ev_eq {g : Nat → Option α} {r r' : α} (h : Ev g r) (e : r = r') : Ev g r' := e ▸ h
theorem ev_now {r r' : α} (e : r = r') : Ev (fun _ => some r) r' := e ▸ Ev.now r
end
theorem w64 {i : Int} (h0 : -9223372036854775808 ≤ i) (h1 : i ≤ 9223372036854775807) : wrap64 i = i := by unfold wrap64; omega
end Go.Proofs.YtflekegjmjjdmaaDoor.P
namespace Go.Proofs.YtflekegjmjjdmaaDoor.P
set_option linter.unusedSimpArgs false
set_option linter.unusedVariables false
open Go.RowKit Go.Proofs.YtflekegjmjjdmaaDoorW.PrintWords Go.Proofs.YtflekegjmjjdmaaDoorW.PrintLast Go.Proofs.YtflekegjmjjdmaaDoorW.PrintMore
/-- what may stand in a name -/
def nameOf (c : Int) : Bool := classOf c == 2 || classOf c == 3 || classOf c == 4
theorem class_of (c : Int) : class_Of.f c = some (classOf c) := rfl
/-- how many first bytes are of a class -/
def runS (l : List Int) (cl : Int) : Nat := (l.takeWhile fun c => classOf c == cl).length
theorem runS_nil (cl : Int) : runS [] cl = 0 := rfl
theorem runS_cons (c : Int) (l : List Int) (cl : Int) : runS (c :: l) cl = if classOf c = cl then runS l cl + 1 else 0 := by
 unfold runS
 by_cases h : classOf c = cl <;> simp [List.takeWhile_cons, h]
theorem runS_le (l : List Int) (cl : Int) : runS l cl ≤ l.length := by
 unfold runS
 exact List.Sublist.length_le (List.takeWhile_sublist _)
theorem rd_at (l : List Int) (i : Nat) (h : i < l.length) : rd l (i : Int) = l[i] := by
 show l.getD i 0 = _
 simp [List.getD_eq_getElem?_getD, List.getElem?_eq_getElem h]
theorem run_loop (l : List Int) (cl : Int) (hl : l.length ≤ 9223372036854775806) (d : Nat) : ∀ i : Nat, d + i = l.length →
  Ev (fun k => class_Run.l0 k l cl l (l.length : Int) (i : Int)) ((i + runS (l.drop i) cl : Nat) : Int) := by
 induction d with
 | zero =>
  intro i hi
  refine Ev.step (fun k => class_Run.l0.eq_2 ..) (ev_else (by omega) (ev_now ?_))
  rw [List.drop_of_length_le (by omega), runS_nil]
  omega
 | succ d ih =>
  intro i hi
  have hlt : i < l.length := by omega
  refine Ev.step (fun k => class_Run.l0.eq_2 ..) (ev_if (by omega) (ev_if (by omega) (ev_if (by omega) ?_)))
  rw [rd_at l i hlt, class_of, List.drop_eq_getElem_cons hlt, runS_cons]
  refine ev_let ?_
  by_cases h : classOf l[i] = cl
  ·rw [if_pos h]
   refine ev_if h ?_
   rw [show wrap64 ((i : Int) + 1) = ((i + 1 : Nat) : Int) by rw [w64 (by omega) (by omega)]; omega]
   refine ev_eq (ih (i + 1) (by omega)) ?_
   omega
  ·rw [if_neg h]
   exact ev_else h (ev_now (by omega))
theorem run_ev (l : List Int) (cl : Int) (hl : l.length ≤ 9223372036854775806) : Ev (fun k => class_Run.f k l cl) (runS l cl : Int) := by
 refine ev_eq (run_loop l cl hl l.length 0 (by omega)) ?_
 simp
theorem u8_wf {x : Int} (h : (Lit.int .u8 x).wf = true) : 0 ≤ x ∧ x < 256 := by
 simp [Lit.wf, IntKind.min, IntKind.max, IntKind.signed, IntKind.bits] at h
 omega
def Bytes (l : List Int) : Prop := ∀ x ∈ l, 0 ≤ x ∧ x < 256
theorem Bytes.take {l : List Int} (h : Bytes l) (n : Nat) : Bytes (l.take n) := fun x hx => h x (List.mem_of_mem_take hx)
theorem Bytes.drop {l : List Int} (h : Bytes l) (n : Nat) : Bytes (l.drop n) := fun x hx => h x (List.mem_of_mem_drop hx)
/-- a fact on each byte, asked one by one -/
theorem byte_all {p : Int → Prop} (h : ∀ n : Nat, n < 256 → p (n : Int)) {c : Int} (hc : 0 ≤ c ∧ c < 256) : p c := by
 have := h c.toNat (by omega)
 rwa [Int.toNat_of_nonneg hc.1] at this
end Go.Proofs.YtflekegjmjjdmaaDoor.P
namespace Go.Proofs.YtflekegjmjjdmaaDoor.P
set_option linter.unusedSimpArgs false
set_option linter.unusedVariables false
open Go.RowKit Go.Proofs.YtflekegjmjjdmaaDoorW.PrintWords Go.Proofs.YtflekegjmjjdmaaDoorW.PrintLast Go.Proofs.YtflekegjmjjdmaaDoorW.PrintMore
theorem name_eq (c : Int) : class_Name.f c = some (nameOf c) := by
 unfold class_Name.f nameOf
 rw [class_of, Option.bind_some]
 by_cases h2 : classOf c = 2
 ·simp [h2]
 by_cases h3 : classOf c = 3
 ·simp [h3]
 by_cases h4 : classOf c = 4
 ·simp [h4]
 simp [h2, h3, h4]
end Go.Proofs.YtflekegjmjjdmaaDoor.P
namespace Go.Proofs.YtflekegjmjjdmaaDoor.P
set_option linter.unusedSimpArgs false
set_option linter.unusedVariables false
open Go.RowKit Go.Proofs.YtflekegjmjjdmaaDoorW.PrintWords Go.Proofs.YtflekegjmjjdmaaDoorW.PrintLast Go.Proofs.YtflekegjmjjdmaaDoorW.PrintMore
theorem digit_all : ∀ n : Nat, n < 256 → (classOf (n : Int) = 4 ↔ 48 ≤ (n : Int) ∧ (n : Int) ≤ 57) := by decide +kernel
theorem digit_iff {c : Int} (h : 0 ≤ c ∧ c < 256) : classOf c = 4 ↔ 48 ≤ c ∧ c ≤ 57 := byte_all (p := fun c => classOf c = 4 ↔ 48 ≤ c ∧ c ≤ 57) digit_all h
/-- a number with digits more behind it; none, as_ soon as_ it is too great -/
def numS : Int → List Int → Option Int
 | n, [] => some n
 | n, c :: r => if n * 10 + (c - 48) > 2147483647 then none else numS (n * 10 + (c - 48)) r
theorem numS_cons (n c : Int) (r : List Int) : numS n (c :: r) = if n * 10 + (c - 48) > 2147483647 then none else numS (n * 10 + (c - 48)) r := rfl
def resD (q : Int) : Option Int → Int × Int × Int
 | some m => (m, q, 0)
 | none => (0, q, 4)
/-- the digits at the beginning -/
def headD (l : List Int) : List Int := l.take (runS l 4)
def takeD (l : List Int) : Int × Int × Int :=
 if runS l 4 = 0 then (0, 0, 2) else resD (runS l 4 : Int) (numS 0 (headD l))
def Digs (l : List Int) : Prop := ∀ c ∈ l, 48 ≤ c ∧ c ≤ 57
theorem digit_loop (l : List Int) (hd : Digs l) (hl : l.length ≤ 9223372036854775806) (q : Int) (d : Nat) : ∀ (i : Nat) (n : Int), d + i = l.length → 0 ≤ n → n ≤ 2147483647 →
  Ev (fun k => digits_Take.l0 k n q 0 l (l.length : Int) (i : Int)) (resD q (numS n (l.drop i))) := by
 induction d with
 | zero =>
  intro i n hi h0 h1
  refine Ev.step (fun k => digits_Take.l0.eq_2 ..) (ev_else (by omega) (ev_now ?_))
  rw [List.drop_of_length_le (by omega)]
  rfl
 | succ d ih =>
  intro i n hi h0 h1
  have hlt : i < l.length := by omega
  have hc := hd _ (List.getElem_mem hlt)
  refine Ev.step (fun k => digits_Take.l0.eq_2 ..) (ev_if (by omega) (ev_if (by omega) (ev_if (by omega) ?_)))
  rw [rd_at l i hlt, List.drop_eq_getElem_cons hlt]
  have e : wrap64 (wrap64 (n * 10) + (l[i] - 48) % 256) = n * 10 + (l[i] - 48) := by
   rw [w64 (i := n * 10) (by omega) (by omega), show (l[i] - 48) % 256 = l[i] - 48 by omega, w64 (by omega) (by omega)]
  rw [e]
  rw [numS_cons]
  by_cases h : n * 10 + (l[i] - 48) > 2147483647
  ·rw [if_pos h]
   exact ev_if h (ev_now rfl)
  ·rw [if_neg h]
   refine ev_else h ?_
   rw [show wrap64 ((i : Int) + 1) = ((i + 1 : Nat) : Int) by rw [w64 (by omega) (by omega)]; omega]
   exact ih (i + 1) _ (by omega) (by omega) (by omega)
theorem headD_len (l : List Int) : (headD l).length = runS l 4 := by
 unfold headD
 rw [List.length_take]
 have := runS_le l 4
 omega
theorem headD_digs {l : List Int} (hb : Bytes l) : Digs (headD l) := by
 unfold headD
 induction l with
 | nil => intro c hc; simp [runS_nil] at hc
 | cons a l ih =>
  rw [runS_cons]
  by_cases h : classOf a = 4
  ·rw [if_pos h, List.take_succ_cons]
   intro c hc
   rcases List.mem_cons.1 hc with rfl | hc
   ·exact (digit_iff (hb _ (by simp))).1 h
   ·exact ih (fun x hx => hb x (by simp [hx])) c hc
  ·rw [if_neg h]
   intro c hc
   simp at hc
theorem dtake_ev (l : List Int) (hb : Bytes l) (hl : l.length ≤ 1000000) : Ev (fun k => digits_Take.f k l) (takeD l) := by
 unfold digits_Take.f takeD
 have hle := runS_le l 4
 refine Ev.bind (run_ev l 4 (by omega)) ?_
 by_cases h : runS l 4 = 0
 ·rw [h]
  exact ev_if rfl (ev_now rfl)
 ·rw [if_neg h]
  refine ev_else (by omega) (ev_if (by omega) (ev_if (by omega) ?_))
  have e : ((runS l 4 : Int)).toNat = runS l 4 := rfl
  rw [e]
  have hh := headD_len l
  exact digit_loop (headD l) (headD_digs hb) (by omega) _ (headD l).length 0 0 (by omega) (by omega) (by omega)
end Go.Proofs.YtflekegjmjjdmaaDoor.P
namespace Go.Proofs.YtflekegjmjjdmaaDoor.P
set_option linter.unusedSimpArgs false
set_option linter.unusedVariables false
open Go.RowKit Go.Proofs.YtflekegjmjjdmaaDoor.P Go.Proofs.YtflekegjmjjdmaaDoorW.PrintWords Go.Proofs.YtflekegjmjjdmaaDoorW.PrintLast Go.Proofs.YtflekegjmjjdmaaDoorW.PrintMore
theorem u8_inj {x y : Int} (hx : 0 ≤ x ∧ x < 256) (hy : 0 ≤ y ∧ y < 256) (h : UInt8.ofNat x.toNat = UInt8.ofNat y.toNat) : x = y := by
 have := congrArg UInt8.toNat h
 rw [UInt8.toNat_ofNat', UInt8.toNat_ofNat'] at this
 omega
theorem Bytes.cons {c : Int} {r : List Int} (h : Bytes (c :: r)) : (0 ≤ c ∧ c < 256) ∧ Bytes r := ⟨h c (by simp), fun x hx => h x (by simp [hx])⟩
theorem strOf_list (l : List Int) : (strOfNums l).toList = l.map fun n => UInt8.ofNat n.toNat := by
 have := Lib.strOfNums_toList l
 rw [this]; rfl
/-- whether two bytes begin some -/
def two (a b : Int) : List Int → Bool
 | x :: y :: _ => x == a && y == b
 | _ => false
theorem hasP_two {l : List Int} (hl : Bytes l) {a b : Int} (ha : 0 ≤ a ∧ a < 256) (hb : 0 ≤ b ∧ b < 256) : hasP l [a, b] = two a b l := by
 unfold hasP
 match l with
 | [] => rfl
 | [x] => rfl
 | x :: y :: r =>
  have hx := hl x (by simp)
  have hy := hl y (by simp)
  rw [decide_eq_true (by simp), Bool.true_and, strOf_list, strOf_list]
  show (([UInt8.ofNat x.toNat, UInt8.ofNat y.toNat] : List UInt8) == [UInt8.ofNat a.toNat, UInt8.ofNat b.toNat]) = (x == a && y == b)
  rw [Bool.eq_iff_iff, beq_iff_eq, Bool.and_eq_true, beq_iff_eq, beq_iff_eq, List.cons.injEq, List.cons.injEq]
  constructor
  ·rintro ⟨h1, h2, _⟩
   exact ⟨u8_inj hx ha h1, u8_inj hy hb h2⟩
  ·rintro ⟨rfl, rfl⟩
   exact ⟨rfl, rfl, rfl⟩
/-- how much, inside a comment so deep, stands up to its end, with it -/
def comL : Nat → List Int → Option Nat
 | _, [] => none
 | _, [_] => none
 | d, x :: y :: r =>
  if x = 47 ∧ y = 42 then (comL (d + 1) r).map (· + 2)
  else if x = 42 ∧ y = 47 then (if d = 1 then some 2 else (comL (d - 1) r).map (· + 2))
  else (comL d (y :: r)).map (· + 1)
theorem comL_le (l : List Int) : ∀ (d n : Nat), comL d l = some n → 2 ≤ n ∧ n ≤ l.length := by
 induction h : l.length using Nat.strongRecOn generalizing l with
 | _ N ih =>
  intro d n hn
  match l with
  | [] => cases hn
  | [_] => cases hn
  | x :: y :: r =>
   simp only [List.length_cons] at h
   rw [comL] at hn
   by_cases h1 : x = 47 ∧ y = 42
   ·rw [if_pos h1] at hn
    obtain ⟨m, hm, rfl⟩ := Option.map_eq_some_iff.1 hn
    have := ih r.length (by omega) r rfl _ _ hm
    omega
   ·rw [if_neg h1] at hn
    by_cases h2 : x = 42 ∧ y = 47
    ·rw [if_pos h2] at hn
     by_cases h3 : d = 1
     ·rw [if_pos h3] at hn
      obtain rfl := Option.some.inj hn
      omega
     ·rw [if_neg h3] at hn
      obtain ⟨m, hm, rfl⟩ := Option.map_eq_some_iff.1 hn
      have := ih r.length (by omega) r rfl _ _ hm
      omega
    ·rw [if_neg h2] at hn
     obtain ⟨m, hm, rfl⟩ := Option.map_eq_some_iff.1 hn
     have := ih (r.length + 1) (by omega) (y :: r) rfl _ _ hm
     (try simp only [List.length_cons] at this)
     (try simp only [List.length_cons])
     omega
def optP (p : Nat) : Option Nat → Int
 | some n => ((p + n : Nat) : Int)
 | none => 0
theorem optP_map (p k : Nat) (o : Option Nat) : optP p (o.map (· + k)) = optP (p + k) o := by
 cases o with
 | none => rfl
 | some n => show ((p + (n + k) : Nat) : Int) = ((p + k + n : Nat) : Int); congr 1; omega
theorem drop_two {l : List Int} {p : Nat} {x y : Int} {r : List Int} (h : l.drop p = x :: y :: r) : l.drop (p + 2) = r ∧ l.drop (p + 1) = y :: r := by
 have h1 : l.drop (p + 1) = (l.drop p).drop 1 := by rw [List.drop_drop]
 have h2 : l.drop (p + 2) = (l.drop p).drop 2 := by rw [List.drop_drop]
 rw [h] at h1 h2
 exact ⟨h2, h1⟩
theorem comGo_eq (l : List Int) (hl : Bytes l) (f : Nat) : ∀ (d p : Nat), 1 ≤ d → p ≤ l.length → l.length + 1 ≤ p + f → comGo f l (d : Int) p = optP p (comL d (l.drop p)) := by
 induction f with
 | zero => intro d p _ hp hf; omega
 | succ f ih =>
  intro d p hd hp hf
  by_cases hend : l.length ≤ p
  ·rw [List.drop_of_length_le hend, comGo, if_pos hend]; rfl
  rw [comGo_step f l d p hend, hasP_two (hl.drop p) (by omega) (by omega), hasP_two (hl.drop p) (by omega) (by omega)]
  match hm : l.drop p with
  | [] => have := congrArg List.length hm; simp at this; omega
  | [x] =>
   have h1 : p + 1 = l.length := by have := congrArg List.length hm; simp at this; omega
   have e := ih d (p + 1) hd (by omega) (by omega)
   rw [List.drop_of_length_le (by omega)] at e
   show (if (d : Int) > 0 then comGo f l d (p + 1) else ((p + 1 : Nat) : Int)) = _
   rw [if_pos (by omega), e]; rfl
  | x :: y :: r =>
   have hlen : p + 2 ≤ l.length := by have := congrArg List.length hm; simp at this; omega
   obtain ⟨e2, e1⟩ := drop_two hm
   rw [comL]
   by_cases h1 : x = 47 ∧ y = 42
   ·have t : two 47 42 (x :: y :: r) = true := by simp [two, h1.1, h1.2]
    rw [if_pos t, if_pos h1, if_pos (by omega), show (d : Int) + 1 = ((d + 1 : Nat) : Int) by omega, ih (d + 1) (p + 2) (by omega) hlen (by omega), e2, optP_map]
   ·have t : ¬ two 47 42 (x :: y :: r) = true := by simpa [two] using h1
    rw [if_neg t, if_neg h1]
    by_cases h2 : x = 42 ∧ y = 47
    ·have t : two 42 47 (x :: y :: r) = true := by simp [two, h2.1, h2.2]
     rw [if_pos t, if_pos h2]
     by_cases h3 : d = 1
     ·subst h3
      rw [if_neg (by omega), if_pos rfl]; rfl
     ·rw [if_pos (by omega), if_neg h3, show (d : Int) - 1 = ((d - 1 : Nat) : Int) by omega, ih (d - 1) (p + 2) (by omega) hlen (by omega), e2, optP_map]
    ·have t : ¬ two 42 47 (x :: y :: r) = true := by simpa [two] using h2
     rw [if_neg t, if_neg h2, if_pos (by omega), ih d (p + 1) hd (by omega) (by omega), e1, optP_map]
/-- how long the comment at the beginning is -/
def comS (l : List Int) : Option Nat := (comL 1 (l.drop 2)).map (· + 2)
theorem comment_eq {l : List Int} (hl : Bytes l) (h : two 47 42 l = true) : layout_comment.f l = some (optP 0 (comS l)) := by
 match l, h with
 | x :: y :: r, h =>
  unfold layout_comment.f
  rw [comGo_step _ _ _ _ (by simp), hasP_two (hl.drop 0) (by omega) (by omega)]
  rw [if_pos (show two 47 42 ((x :: y :: r).drop 0) = true from h), if_pos (by omega)]
  rw [show (0 : Int) + 1 = ((1 : Nat) : Int) from rfl, comGo_eq _ hl _ 1 (0 + 2) (by omega) (by simp) (by simp; omega)]
  unfold comS
  rw [optP_map]
/-- how long the rest of the line is -/
def lineS (l : List Int) : Nat := (l.takeWhile fun c => c != 10).length
theorem lineS_cons (c : Int) (r : List Int) : lineS (c :: r) = if c = 10 then 0 else lineS r + 1 := by
 unfold lineS
 by_cases h : c = 10 <;> simp [List.takeWhile_cons, h]
theorem lineS_le (l : List Int) : lineS l ≤ l.length := List.Sublist.length_le (List.takeWhile_sublist _)
theorem index_line (l : List Int) (hl : Bytes l) : (Lib.indexByte (Lib.bytesOf l) (10 : Int).toNat.toUInt8 = -1 ∧ lineS l = l.length) ∨ (Lib.indexByte (Lib.bytesOf l) (10 : Int).toNat.toUInt8 = (lineS l : Int) ∧ lineS l < l.length) := by
 induction l with
 | nil => left; exact ⟨rfl, rfl⟩
 | cons c r ih =>
  obtain ⟨hc, hr⟩ := hl.cons
  have e : Lib.indexByte (Lib.bytesOf (c :: r)) (10 : Int).toNat.toUInt8 = if (c.toNat.toUInt8 == (10 : Int).toNat.toUInt8) = true then 0 else if (Lib.indexByte (Lib.bytesOf r) (10 : Int).toNat.toUInt8 == -1) = true then -1 else Lib.indexByte (Lib.bytesOf r) (10 : Int).toNat.toUInt8 + 1 := rfl
  rw [e, lineS_cons]
  by_cases h : c = 10
  ·subst h
   right
   rw [if_pos rfl, if_pos (by decide)]
   exact ⟨rfl, by simp⟩
  ·have hne : ¬ (c.toNat.toUInt8 == (10 : Int).toNat.toUInt8) = true := by
    rw [beq_iff_eq]
    exact fun hh => h (u8_inj hc (by omega) hh)
   rw [if_neg h, if_neg hne]
   rcases ih hr with ⟨h1, h2⟩ | ⟨h1, h2⟩
   ·left
    rw [h1, if_pos (by decide)]
    exact ⟨rfl, by simp [h2]⟩
   ·right
    rw [h1, if_neg (by rw [beq_iff_eq]; omega)]
    exact ⟨by omega, by simp; omega⟩
theorem line_eq {l : List Int} (hl : Bytes l) : layout_line.f l = some (lineS l : Int) := by
 unfold layout_line.f bytes_IndexByte.f
 rw [Option.bind_some]
 rcases index_line l hl with ⟨h1, h2⟩ | ⟨h1, h2⟩
 ·rw [h1, if_neg (by omega), h2]
 ·rw [h1, if_pos (by omega)]
/-- what is skipped next: so much; or it ends there, with an error or none -/
def stepS : List Int → Nat × Int
 | [] => (0, 0)
 | c :: r => if classOf c = 1 then (1, 0) else if c = 37 then (lineS (c :: r), 0) else if two 47 42 (c :: r) = true then (match comS (c :: r) with | some n => (n, 0) | none => (0, 14)) else (0, 0)
theorem stepS_le (l : List Int) : (stepS l).1 ≤ l.length := by
 match l with
 | [] => exact Nat.le_refl _
 | c :: r =>
  rw [stepS]
  by_cases h1 : classOf c = 1
  ·rw [if_pos h1]; simp
  rw [if_neg h1]
  by_cases h2 : c = 37
  ·rw [if_pos h2]; exact lineS_le _
  rw [if_neg h2]
  by_cases h3 : two 47 42 (c :: r) = true
  ·rw [if_pos h3]
   cases h4 : comS (c :: r) with
   | none => simp
   | some n =>
    match r, h3 with
    | y :: r, h3 =>
     obtain ⟨m, hm, rfl⟩ := Option.map_eq_some_iff.1 h4
     have := comL_le _ _ _ hm
     simp at this ⊢; omega
  ·rw [if_neg h3]; simp
/-- how much is skipped, and the error -/
def skipS (l : List Int) : Nat × Int := if h : (stepS l).1 = 0 then stepS l else ((stepS l).1 + (skipS (l.drop (stepS l).1)).1, (skipS (l.drop (stepS l).1)).2)
termination_by l.length
decreasing_by all_goals (have := stepS_le l; rw [List.length_drop]; omega)
theorem skipS_stop {l : List Int} (h : (stepS l).1 = 0) : skipS l = stepS l := by rw [skipS, dif_pos h]
theorem skipS_go {l : List Int} (h : (stepS l).1 ≠ 0) : skipS l = ((stepS l).1 + (skipS (l.drop (stepS l).1)).1, (skipS (l.drop (stepS l).1)).2) := by rw [skipS, dif_neg h]
theorem skipS_run (l : List Int) : skipS l = (runS l 1 + (skipS (l.drop (runS l 1))).1, (skipS (l.drop (runS l 1))).2) := by
 induction l with
 | nil => rw [runS_nil]; simp
 | cons c r ih =>
  rw [runS_cons]
  by_cases h : classOf c = 1
  ·have e : stepS (c :: r) = (1, 0) := by rw [stepS, if_pos h]
   rw [if_pos h, skipS_go (by rw [e]; simp), e]
   simp only [List.drop_succ_cons, List.drop_zero]
   rw [ih]
   simp; omega
  ·rw [if_neg h]; simp
theorem runS_first {c : Int} {r : List Int} (h : runS (c :: r) 1 = 0) : classOf c ≠ 1 := by
 intro hc
 rw [runS_cons, if_pos hc] at h
 omega
theorem percent_all : ∀ n : Nat, n < 256 → (classOf (n : Int) = 8 ↔ (n : Int) = 37) := by decide +kernel
theorem percent_iff {c : Int} (h : 0 ≤ c ∧ c < 256) : classOf c = 8 ↔ c = 37 := byte_all (p := fun c => classOf c = 8 ↔ c = 37) percent_all h
theorem skip_loop (l : List Int) (hl : Bytes l) (hn : l.length ≤ 1000000) (N : Nat) : ∀ p : Nat, l.length - p < N → p ≤ l.length →
  Ev (fun k => layout_Skip.l0 k l (p : Int)) (((p + (skipS (l.drop p)).1 : Nat) : Int), (skipS (l.drop p)).2) := by
 induction N with
 | zero => intro p h; omega
 | succ N ih =>
  intro p hN hp
  have hb := hl.drop p
  have hml : (l.drop p).length = l.length - p := List.length_drop
  have hrun := skipS_run (l.drop p)
  have hle := runS_le (l.drop p) 1
  have next : ∀ n : Nat, 1 ≤ n → p + n ≤ l.length → Ev (fun k => layout_Skip.l0 k l (wrap64 ((p : Int) + (n : Int)))) (((p + n + (skipS (l.drop (p + n))).1 : Nat) : Int), (skipS (l.drop (p + n))).2) := by
   intro n h1 h2
   rw [show wrap64 ((p : Int) + (n : Int)) = ((p + n : Nat) : Int) by rw [w64 (by omega) (by omega)]; omega]
   exact ih (p + n) (by omega) h2
  refine Ev.step (fun k => layout_Skip.l0.eq_2 ..) (ev_if (by omega) (ev_if (by omega) ?_))
  rw [show l.drop ((p : Int)).toNat = l.drop p from rfl]
  refine Ev.bind (run_ev _ 1 (by omega)) ?_
  by_cases h : runS (l.drop p) 1 = 0
  ·refine ev_else (by omega) ?_
   match hm : l.drop p with
   | [] =>
    refine ev_else (by simp) (Ev.step (fun k => layout_Skip.j1.eq_2 ..) (ev_else (by simp) ?_))
    refine ev_same (hasP_eq _ _) (ev_else (by simp [hasP]) (ev_now ?_))
    rw [skipS_stop rfl]; rfl
   | c :: r =>
    rw [hm] at h hb hml
    have hc := runS_first h
    have hcb := hb.cons.1
    refine ev_if (by simp) (ev_if (by simp) ?_)
    rw [show rd (c :: r) 0 = c from rfl, class_of]
    refine ev_let (Ev.step (fun k => layout_Skip.j1.eq_2 ..) ?_)
    have cut : ∀ n : Nat, l.drop (p + n) = (c :: r).drop n := fun n => by rw [← hm, List.drop_drop]
    by_cases h8 : c = 37
    ·have hls := lineS_le (c :: r)
     have h1 : 1 ≤ lineS (c :: r) := by rw [lineS_cons, if_neg (by omega)]; omega
     have es : stepS (c :: r) = (lineS (c :: r), 0) := by rw [stepS, if_neg hc, if_pos h8]
     refine ev_if (by rw [(percent_iff hcb).2 h8]; rfl) (ev_same (line_eq hb) ?_)
     refine ev_eq (next _ h1 (by omega)) ?_
     have eg := skipS_go (l := c :: r) (by rw [es]; simp only; omega)
     rw [es] at eg
     rw [cut, eg]
     simp only [Prod.mk.injEq, and_true]
     omega
    ·refine ev_else (by rw [beq_iff_eq, percent_iff hcb]; exact h8) (ev_same (hasP_eq _ _) ?_)
     rw [hasP_two hb (by omega) (by omega)]
     by_cases ht : two 47 42 (c :: r) = true
     ·refine ev_if ht (ev_same (comment_eq hb ht) ?_)
      cases h4 : comS (c :: r) with
      | none =>
       have es : stepS (c :: r) = (0, 14) := by rw [stepS, if_neg hc, if_neg h8, if_pos ht, h4]
       refine ev_if rfl (ev_now ?_)
       rw [skipS_stop (by rw [es]), es]; rfl
      | some n =>
       have es : stepS (c :: r) = (n, 0) := by rw [stepS, if_neg hc, if_neg h8, if_pos ht, h4]
       have hsl := stepS_le (c :: r)
       rw [es] at hsl
       have h1 : 1 ≤ n := by
        obtain ⟨m, hm2, rfl⟩ := Option.map_eq_some_iff.1 h4
        omega
       have e0 : optP 0 (some n) = (n : Int) := by show ((0 + n : Nat) : Int) = n; omega
       rw [e0]
       refine ev_else (by omega) ?_
       simp only at hsl
       refine ev_eq (next n h1 (by omega)) ?_
       have eg := skipS_go (l := c :: r) (by rw [es]; simp only; omega)
       rw [es] at eg
       rw [cut, eg]
       simp only [Prod.mk.injEq, and_true]
       omega
     ·have es : stepS (c :: r) = (0, 0) := by rw [stepS, if_neg hc, if_neg h8, if_neg ht]
      refine ev_else ht (ev_now ?_)
      rw [skipS_stop (by rw [es]), es]; rfl
  ·refine ev_if (by omega) ?_
   refine ev_eq (next _ (by omega) (by omega)) ?_
   rw [hrun, List.drop_drop]
   simp only [Prod.mk.injEq, and_true]
   omega
theorem skip_ev (l : List Int) (hl : Bytes l) (hn : l.length ≤ 1000000) : Ev (fun k => layout_Skip.f k l) (((skipS l).1 : Int), (skipS l).2) := by
 refine ev_eq (skip_loop l hl hn (l.length + 1) 0 (by omega) (by omega)) ?_
 simp
end Go.Proofs.YtflekegjmjjdmaaDoor.P
namespace Go.Proofs.YtflekegjmjjdmaaDoor.P
set_option linter.unusedSimpArgs false
set_option linter.unusedVariables false
open Go.RowKit Go.Proofs.YtflekegjmjjdmaaDoor.P Go.Proofs.YtflekegjmjjdmaaDoorW.PrintWords Go.Proofs.YtflekegjmjjdmaaDoorW.PrintLast Go.Proofs.YtflekegjmjjdmaaDoorW.PrintMore
theorem skipS_le (N : Nat) : ∀ l : List Int, l.length < N → (skipS l).1 ≤ l.length := by
 induction N with
 | zero => intro l h; omega
 | succ N ih =>
  intro l h
  have hs := stepS_le l
  by_cases h0 : (stepS l).1 = 0
  ·rw [skipS_stop h0]; exact hs
  ·have e := skipS_go h0
   have := ih (l.drop (stepS l).1) (by rw [List.length_drop]; omega)
   rw [List.length_drop] at this
   have e1 := congrArg Prod.fst e
   simp only at e1
   omega
end Go.Proofs.YtflekegjmjjdmaaDoor.P
namespace Go.Proofs.YtflekegjmjjdmaaDoor.P
set_option linter.unusedSimpArgs false
set_option linter.unusedVariables false
open Go.RowKit Go.Proofs.YtflekegjmjjdmaaDoorW.PrintWords Go.Proofs.YtflekegjmjjdmaaDoorW.PrintLast Go.Proofs.YtflekegjmjjdmaaDoorW.PrintMore
def uLo (c : Int) : Int := if c = 224 then 160 else if c = 240 then 144 else 128
def uHi (c : Int) : Int := if c = 237 then 159 else if c = 244 then 143 else 191
/-- how many bytes a sequence with a first byte has; 0: none -/
def uLong (c : Int) : Nat := if c < 128 then 1 else if c < 194 ∨ c > 244 then 0 else if c < 224 then 2 else if c < 240 then 3 else 4
/-- so many bytes more, the first one of them from lo to hi, the others 128 to 191 -/
def restOk : Nat → Int → Int → List Int → Bool
 | 0, _, _, _ => true
 | _ + 1, _, _, [] => false
 | n + 1, lo, hi, a :: t => decide (lo ≤ a ∧ a ≤ hi) && restOk n 128 191 t
/-- how many bytes the first sequence has, and whether it is one -/
def takeS : List Int → Int × Bool
 | [] => (0, false)
 | c :: r => if uLong c = 0 then (1, false) else if restOk (uLong c - 1) (uLo c) (uHi c) r then ((uLong c : Int), true) else (1, false)
theorem takeS_cons (c : Int) (r : List Int) : takeS (c :: r) = if uLong c = 0 then (1, false) else if restOk (uLong c - 1) (uLo c) (uHi c) r then ((uLong c : Int), true) else (1, false) := rfl
theorem restOk_cons (n : Nat) (lo hi a : Int) (t : List Int) : restOk (n + 1) lo hi (a :: t) = (decide (lo ≤ a ∧ a ≤ hi) && restOk n 128 191 t) := rfl
theorem restOk_short (n : Nat) : ∀ (lo hi : Int) (r : List Int), r.length < n → restOk n lo hi r = false := by
 induction n with
 | zero => intro _ _ r h; omega
 | succ n ih =>
  intro lo hi r h
  cases r with
  | nil => rfl
  | cons a t => rw [restOk_cons, ih _ _ t (by simp at h; omega)]; simp
def beh (c : Int) : Int × Int × Int := if c < 128 then (0, 0, 0) else if c < 194 ∨ c > 244 then (0, 0, -1) else (uLo c, uHi c, (uLong c : Int) - 1)
theorem behind_eq (k : Nat) (c : Int) : utf_behind.f (k + 1) c = some (beh c) := by
 unfold utf_behind.f beh uLo uHi uLong
 simp only [utf_behind.j0]
 by_cases h1 : c < 128
 ·simp [h1]
 by_cases h2 : c < 194
 ·simp [h1, h2]
 by_cases h3 : c > 244
 ·simp [h1, h2, h3]
 by_cases h4 : c < 224
 ·have : c ≠ 224 := by omega
  have : c ≠ 240 := by omega
  have : c ≠ 237 := by omega
  have : c ≠ 244 := by omega
  simp [*]
 by_cases h5 : c = 224
 ·subst h5; simp
 by_cases h6 : c = 237
 ·subst h6; simp
 by_cases h7 : c < 240
 ·have : c ≠ 240 := by omega
  have : c ≠ 244 := by omega
  simp [*]
 by_cases h8 : c = 240
 ·subst h8; simp
 by_cases h9 : c = 244
 ·subst h9; simp
 simp [*]
theorem w1 {i : Int} (h0 : -1 ≤ i) (h1 : i ≤ 9223372036854775806) : wrap64 (i + 1) = i + 1 := by unfold wrap64; omega
theorem wl0 (k : Nat) (l : List Int) (m i lo hi q : Int) (h : ¬ i < m) (h0 : -1 ≤ q) (h1 : q ≤ 100) : utf_Take.l0 (k + 1) l m i lo hi q = some (q + 1, true) := by
 simp only [utf_Take.l0]; rw [if_neg h, w1 h0 (by omega)]
theorem wl1 (k : Nat) (l : List Int) (m : Int) (i : Nat) (lo hi q : Int) (h : (i : Int) < m) (h2 : i + 1 < l.length) (h3 : i < 10) :
  utf_Take.l0 (k + 1) l m (i : Int) lo hi q = if lo ≤ l.getD (i + 1) 0 ∧ l.getD (i + 1) 0 ≤ hi then utf_Take.l0 k l m ((i + 1 : Nat) : Int) 128 191 q else some (1, false) := by
 have e : wrap64 ((i : Int) + 1) = ((i + 1 : Nat) : Int) := by rw [w1 (by omega) (by omega)]; omega
 simp only [utf_Take.l0]
 rw [if_pos h, e, if_pos (by omega), if_pos (by omega)]
 have er : rd l ((i + 1 : Nat) : Int) = l.getD (i + 1) 0 := rfl
 rw [er]
 by_cases a : l.getD (i + 1) 0 < lo
 ·rw [if_pos a, if_neg (by omega)]
 ·rw [if_neg a]
  by_cases b : l.getD (i + 1) 0 > hi
  ·rw [if_pos b, if_neg (by omega)]
  ·rw [if_neg b, if_pos (by omega)]
theorem wl (d : Nat) : ∀ (k : Nat) (l : List Int) (m : Int) (i : Nat) (lo hi q : Int), m = ((i + d : Nat) : Int) → d < k → i + d < l.length → i + d < 10 → -1 ≤ q → q ≤ 100 →
  utf_Take.l0 k l m (i : Int) lo hi q = some (if restOk d lo hi (l.drop (i + 1)) then (q + 1, true) else (1, false)) := by
 induction d with
 | zero =>
  intro k l m i lo hi q hm hk h1 h2 h3 h4
  obtain ⟨k, rfl⟩ : ∃ j, k = j + 1 := ⟨k - 1, by omega⟩
  rw [wl0 _ _ _ _ _ _ _ (by omega) h3 h4]
  rfl
 | succ d ih =>
  intro k l m i lo hi q hm hk h1 h2 h3 h4
  obtain ⟨k, rfl⟩ : ∃ j, k = j + 1 := ⟨k - 1, by omega⟩
  rw [wl1 _ _ _ _ _ _ _ (by omega) (by omega) (by omega), ih k l m (i + 1) 128 191 q (by omega) (by omega) (by omega) (by omega) h3 h4]
  rw [List.drop_eq_getElem_cons (i := i + 1) (by omega)]
  have e : l.getD (i + 1) 0 = l[i + 1] := by simp [List.getD_eq_getElem?_getD, List.getElem?_eq_getElem (show i + 1 < l.length by omega)]
  rw [e]
  rw [restOk_cons]
  by_cases A : lo ≤ l[i + 1] ∧ l[i + 1] ≤ hi
  ·rw [if_pos A, decide_eq_true A, Bool.true_and]
  ·rw [if_neg A, decide_eq_false A, Bool.false_and]; rfl
theorem uLong_le (c : Int) : uLong c ≤ 4 := by
 unfold uLong
 repeat' split
 all_goals omega
theorem take_ten (l : List Int) : utf_Take.f 10 l = some (takeS l) := by
 unfold utf_Take.f
 cases l with
 | nil => simp [takeS]
 | cons c r =>
  rw [if_neg (by simp; omega), if_pos (by simp)]
  have e0 : rd (c :: r) 0 = c := rfl
  rw [e0, behind_eq]
  simp only [Option.bind_some]
  have go : ∀ (lo hi : Int) (n : Nat), n < 4 → utf_Take.j0 10 (c :: r) (decide (((c :: r).length : Int) ≤ (n : Int))) lo hi (n : Int) = some (if restOk n lo hi r then ((n : Int) + 1, true) else (1, false)) := by
   intro lo hi n hn
   simp only [utf_Take.j0]
   by_cases hs : ((c :: r).length : Int) ≤ (n : Int)
   ·rw [if_pos (decide_eq_true hs), restOk_short n lo hi r (by simp at hs; omega)]
    rfl
   ·rw [if_neg (by rw [decide_eq_false hs]; simp)]
    exact wl n 9 (c :: r) (n : Int) 0 lo hi (n : Int) (by omega) (by omega) (by simp at hs ⊢; omega) (by omega) (by omega) (by omega)
  rw [takeS_cons]
  unfold beh
  by_cases h1 : c < 128
  ·have e : uLong c = 1 := by unfold uLong; rw [if_pos h1]
   rw [e, if_pos h1, if_neg (show ¬ (0 : Int) < 0 by omega)]
   exact go 0 0 0 (by omega)
  by_cases h2 : c < 194 ∨ c > 244
  ·have e : uLong c = 0 := by unfold uLong; rw [if_neg h1, if_pos h2]
   rw [e, if_neg h1, if_pos h2, if_pos (show (-1 : Int) < 0 by omega)]
   simp [utf_Take.j0]
  rw [if_neg h1, if_neg h2]
  have hL : uLong c ≠ 0 := by
   unfold uLong; rw [if_neg h1, if_neg h2]
   repeat' split
   all_goals omega
  obtain ⟨n, hn⟩ : ∃ n, uLong c = n + 1 := ⟨uLong c - 1, by omega⟩
  have hle := uLong_le c
  have e2 : ((n + 1 : Nat) : Int) - 1 = (n : Int) := by omega
  rw [hn, e2, if_neg (show ¬ (n : Int) < 0 by omega), if_neg (show ¬ n + 1 = 0 by omega), Nat.add_sub_cancel]
  exact go _ _ n (by omega)
theorem take_ev (l : List Int) : Ev (fun k => utf_Take.f k l) (takeS l) := Ev.of (fun k => utf_Take.mono l k) (take_ten l)
theorem restOk_len (n : Nat) : ∀ (lo hi : Int) (r : List Int), restOk n lo hi r = true → n ≤ r.length := by
 intro lo hi r h
 rcases Nat.lt_or_ge r.length n with h2 | h2
 ·rw [restOk_short n lo hi r h2] at h; cases h
 ·exact h2
theorem take_pos (c : Int) (r : List Int) : 1 ≤ (takeS (c :: r)).1 ∧ (takeS (c :: r)).1 ≤ ((c :: r).length : Int) ∧ (takeS (c :: r)).1 ≤ 4 ∧ ((takeS (c :: r)).2 = false → (takeS (c :: r)).1 = 1) := by
 have hle := uLong_le c
 simp only [takeS]
 by_cases h0 : uLong c = 0
 ·rw [if_pos h0]; simp; omega
 ·rw [if_neg h0]
  by_cases h1 : restOk (uLong c - 1) (uLo c) (uHi c) r = true
  ·have := restOk_len _ _ _ _ h1
   rw [if_pos h1]; simp; omega
  ·rw [if_neg h1]; simp; omega
end Go.Proofs.YtflekegjmjjdmaaDoor.P
namespace Go.Proofs.YtflekegjmjjdmaaDoor.P
set_option linter.unusedSimpArgs false
set_option linter.unusedVariables false
open Go.RowKit Go.Proofs.YtflekegjmjjdmaaDoor.P Go.Proofs.YtflekegjmjjdmaaDoorW.PrintWords Go.Proofs.YtflekegjmjjdmaaDoorW.PrintLast Go.Proofs.YtflekegjmjjdmaaDoorW.PrintMore
/-- what stands next between the quotes: what it says, how long it is; and 0: go on, -1: its end, else the error -/
def itemQ : List Int → List Int × Nat × Int
 | [] => ([], 0, 12)
 | c :: r =>
  if c = 39 then (if r.headD 0 = 39 then ([39], 2, 0) else ([], 1, -1))
  else if c = 92 then (if r.headD 0 = 92 ∨ r.headD 0 = 39 then ([r.headD 0], 2, 0) else if r.headD 0 = 110 then ([10], 2, 0) else ([], 0, 13))
  else if c = 10 then ([], 0, 12)
  else if c < 32 ∨ c = 127 then ([], 0, 11)
  else if (takeS (c :: r)).2 = true then ((c :: r).take (takeS (c :: r)).1.toNat, (takeS (c :: r)).1.toNat, 0) else ([], 0, 10)
theorem itemQ_le (s : List Int) : (itemQ s).2.1 ≤ s.length ∧ ((itemQ s).2.2 = 0 → 1 ≤ (itemQ s).2.1) ∧ (itemQ s).1.length ≤ (itemQ s).2.1 := by
 match s with
 | [] => simp [itemQ]
 | c :: r =>
  have hd : ∀ x : Int, x ≠ 0 → r.headD 0 = x → 1 ≤ r.length := by
   intro x hx h
   cases r with
   | nil => exact absurd h.symm hx
   | cons a t => simp
  rw [itemQ]
  by_cases h1 : c = 39
  ·rw [if_pos h1]
   by_cases h2 : r.headD 0 = 39
   ·have := hd 39 (by omega) h2
    rw [if_pos h2]; simp; omega
   ·rw [if_neg h2]; simp
  rw [if_neg h1]
  by_cases h2 : c = 92
  ·rw [if_pos h2]
   by_cases h3 : r.headD 0 = 92 ∨ r.headD 0 = 39
   ·have : 1 ≤ r.length := by rcases h3 with h3 | h3 <;> exact hd _ (by omega) h3
    rw [if_pos h3]; simp; omega
   rw [if_neg h3]
   by_cases h4 : r.headD 0 = 110
   ·have := hd 110 (by omega) h4
    rw [if_pos h4]; simp; omega
   ·rw [if_neg h4]; simp
  rw [if_neg h2]
  by_cases h3 : c = 10
  ·rw [if_pos h3]; simp
  rw [if_neg h3]
  by_cases h4 : c < 32 ∨ c = 127
  ·rw [if_pos h4]; simp
  rw [if_neg h4]
  by_cases h5 : (takeS (c :: r)).2 = true
  ·have := take_pos c r
   rw [if_pos h5]
   refine ⟨?_, fun _ => ?_, ?_⟩
   ·simp only; omega
   ·simp only; omega
   ·simp only [List.length_take]; omega
  ·rw [if_neg h5]; simp
/-- what is said up to the end, how much that is, and -1; or how much there is ahead of the error, and that -/
def textQ (s : List Int) : List Int × Nat × Int := if h : (itemQ s).2.2 = 0 then ((itemQ s).1 ++ (textQ (s.drop (itemQ s).2.1)).1, (itemQ s).2.1 + (textQ (s.drop (itemQ s).2.1)).2.1, (textQ (s.drop (itemQ s).2.1)).2.2) else itemQ s
termination_by s.length
decreasing_by all_goals (have := itemQ_le s; have := this.2.1 h; rw [List.length_drop]; omega)
theorem textQ_stop {s : List Int} (h : (itemQ s).2.2 ≠ 0) : textQ s = itemQ s := by rw [textQ, dif_neg h]
theorem textQ_go {s : List Int} (h : (itemQ s).2.2 = 0) : textQ s = ((itemQ s).1 ++ (textQ (s.drop (itemQ s).2.1)).1, (itemQ s).2.1 + (textQ (s.drop (itemQ s).2.1)).2.1, (textQ (s.drop (itemQ s).2.1)).2.2) := by rw [textQ, dif_pos h]
def resQ (acc : List Int) (p : Nat) (t : List Int × Nat × Int) : List Int × Int × Int := if t.2.2 = -1 then (acc ++ t.1, ((p + t.2.1 : Nat) : Int), 0) else ([], ((p + t.2.1 : Nat) : Int), t.2.2)
theorem resQ_go {acc s v : List Int} {p n : Nat} (h : itemQ s = (v, n, 0)) : resQ acc p (textQ s) = resQ (acc ++ v) (p + n) (textQ (s.drop n)) := by
 rw [textQ_go (by rw [h]), h]
 simp only [resQ, List.append_assoc, Nat.add_assoc]
theorem resQ_end {acc s : List Int} {p n : Nat} (h : itemQ s = ([], n, -1)) : resQ acc p (textQ s) = (acc, ((p + n : Nat) : Int), 0) := by
 rw [textQ_stop (by rw [h]; show (-1 : Int) ≠ 0; decide), h]
 simp [resQ]
theorem resQ_bad {acc s : List Int} {p : Nat} {e : Int} (h : itemQ s = ([], 0, e)) (h0 : e ≠ 0) (h1 : e ≠ -1) : resQ acc p (textQ s) = ([], (p : Int), e) := by
 rw [textQ_stop (by rw [h]; exact h0), h]
 simp only [resQ]
 rw [if_neg h1]; rfl
/-- a quoted atom at the beginning: what it says, how long it is, the error -/
def quoteS (l : List Int) : List Int × Int × Int := if l.headD 0 = 39 then resQ [] 1 (textQ (l.drop 1)) else ([], 0, 2)
theorem rd_next {l : List Int} {p : Nat} {c : Int} {r : List Int} (hm : l.drop p = c :: r) (hr : r ≠ []) : rd l ((p + 1 : Nat) : Int) = r.headD 0 := by
 show l.getD (p + 1) 0 = _
 have h1 : l.drop (p + 1) = r := by rw [← List.drop_drop, hm]; rfl
 cases r with
 | nil => exact absurd rfl hr
 | cons a t =>
  have : l[p + 1]? = some a := by rw [← List.head?_drop, h1]; rfl
  simp [List.getD_eq_getElem?_getD, this]
theorem rd_here {l : List Int} {p : Nat} {c : Int} {r : List Int} (hm : l.drop p = c :: r) : rd l (p : Int) = c := by
 show l.getD p 0 = _
 have : l[p]? = some c := by rw [← List.head?_drop, hm]; rfl
 simp [List.getD_eq_getElem?_getD, this]
theorem quote_loop (l : List Int) (hl : Bytes l) (hn : l.length ≤ 1000000) (N : Nat) : ∀ (p : Nat) (acc : List Int), l.length - p < N → p ≤ l.length → acc.length ≤ p →
  Ev (fun k => quote_Take.l0 k l acc (p : Int)) (resQ acc p (textQ (l.drop p))) := by
 induction N with
 | zero => intro p _ h; omega
 | succ N ih =>
  intro p acc hN hp ha
  have hml : (l.drop p).length = l.length - p := List.length_drop
  have w1 : wrap64 ((p : Int) + 1) = ((p + 1 : Nat) : Int) := by rw [w64 (by omega) (by omega)]; omega
  have w2 : wrap64 ((p : Int) + 2) = ((p + 2 : Nat) : Int) := by rw [w64 (by omega) (by omega)]; omega
  refine Ev.step (fun k => quote_Take.l0.eq_2 ..) ?_
  match hm : l.drop p with
  | [] =>
   rw [hm] at hml
   simp only [List.length_nil] at hml
   refine ev_else (by omega) (ev_now ?_)
   rw [resQ_bad (s := []) (e := 12) rfl (by decide) (by decide)]
  | c :: r =>
   rw [hm] at hml
   simp only [List.length_cons] at hml
   have hle := itemQ_le (c :: r)
   have cut : ∀ n : Nat, l.drop (p + n) = (c :: r).drop n := fun n => by rw [← hm, List.drop_drop]
   have key : ∀ {R : List Int × Int × Int}, Ev (fun k => quote_Take.j2 k l acc (p : Int) (r.headD 0)) R → Ev (fun k => if (p : Int) < (l.length : Int) then (if (wrap64 ((p : Int) + 1)) < (l.length : Int) then (if 0 ≤ (wrap64 ((p : Int) + 1)) then (quote_Take.j2 k l acc (p : Int) (rd l (wrap64 ((p : Int) + 1)))) else (none)) else (quote_Take.j2 k l acc (p : Int) 0)) else (some (([] : List Int), (p : Int), 12))) R := by
    intro R h
    refine ev_if (by omega) ?_
    rw [w1]
    cases hr : r with
    | nil =>
     rw [hr] at h hml
     simp only [List.length_nil] at hml
     exact ev_else (by omega) h
    | cons a t =>
     have e := rd_next hm (by rw [hr]; simp)
     rw [e]
     rw [hr] at hml
     simp only [List.length_cons] at hml
     exact ev_if (by omega) (ev_if (by omega) h)
   refine key ?_
   generalize hd : r.headD 0 = d
   have hgo : ∀ (v : List Int) (n : Nat), itemQ (c :: r) = (v, n, 0) → Ev (fun k => quote_Take.l0 k l (acc ++ v) ((p + n : Nat) : Int)) (resQ acc p (textQ (c :: r))) := by
    intro v n h
    rw [h] at hle
    simp only [List.length_cons] at hle
    have h1 := hle.2.1 trivial
    rw [resQ_go h, ← cut]
    refine ih (p + n) (acc ++ v) (by omega) (by omega) ?_
    rw [List.length_append]
    omega
   refine Ev.step (fun k => quote_Take.j2.eq_2 ..) (ev_if (by omega) (ev_if (by omega) ?_))
   rw [rd_here hm]
   by_cases h39 : c = 39
   ·refine ev_if h39 (Ev.step (fun k => quote_Take.j3.eq_2 ..) ?_)
    by_cases hd9 : d = 39
    ·have hi : itemQ (c :: r) = ([39], 2, 0) := by rw [itemQ, if_pos h39, if_pos (by rw [hd]; exact hd9)]
     refine ev_else (by simp [hd9]) (ev_if h39 (Ev.step (fun k => quote_Take.j4.eq_2 ..) (ev_if (by simp [h39]) (ev_if (by omega) ?_))))
     rw [w2, hd9]
     exact hgo _ _ hi
    ·have hi : itemQ (c :: r) = ([], 1, -1) := by rw [itemQ, if_pos h39, if_neg (by rw [hd]; exact hd9)]
     refine ev_if (by simp [hd9]) (ev_now ?_)
     rw [resQ_end hi, w1]
   ·refine ev_else h39 (Ev.step (fun k => quote_Take.j3.eq_2 ..) (ev_else (by simp) (ev_else h39 ?_)))
    by_cases h92 : c = 92
    ·refine ev_if h92 ?_
     by_cases hq : d = 92 ∨ d = 39
     ·have hi : itemQ (c :: r) = ([d], 2, 0) := by rw [itemQ, if_neg h39, if_pos h92, hd, if_pos hq]
      have fin : Ev (fun k => quote_Take.j4 k l acc (p : Int) d c true) (resQ acc p (textQ (c :: r))) := by
       refine Ev.step (fun k => quote_Take.j4.eq_2 ..) (ev_if rfl (ev_if (by omega) ?_))
       rw [w2]
       exact hgo _ _ hi
      by_cases h2 : d = 92
      ·exact ev_if h2 fin
      ·refine ev_else h2 ?_
       rw [show (d == 39) = true by simp; omega]
       exact fin
     ·have n1 : d ≠ 92 := fun h => hq (.inl h)
      have n2 : d ≠ 39 := fun h => hq (.inr h)
      refine ev_else n1 (Ev.step (fun k => quote_Take.j4.eq_2 ..) (ev_else (by simp [n2]) (ev_if h92 (Ev.step (fun k => quote_Take.j5.eq_2 ..) ?_))))
      by_cases hn10 : d = 110
      ·have hi : itemQ (c :: r) = ([10], 2, 0) := by rw [itemQ, if_neg h39, if_pos h92, hd, if_neg hq, if_pos hn10]
       refine ev_if (by simp [hn10]) (ev_if (by omega) ?_)
       rw [w2]
       exact hgo _ _ hi
      ·have hi : itemQ (c :: r) = ([], 0, 13) := by rw [itemQ, if_neg h39, if_pos h92, hd, if_neg hq, if_neg hn10]
       refine ev_else (by simp [hn10]) (ev_if h92 (ev_now ?_))
       rw [resQ_bad hi (by decide) (by decide)]
    ·refine ev_else h92 (Ev.step (fun k => quote_Take.j4.eq_2 ..) (ev_else (by simp) (ev_else h92 (Ev.step (fun k => quote_Take.j5.eq_2 ..) (ev_else (by simp) (ev_else h92 ?_))))))
     by_cases h10 : c = 10
     ·have hi : itemQ (c :: r) = ([], 0, 12) := by rw [itemQ, if_neg h39, if_neg h92, if_pos h10]
      refine ev_if h10 (ev_now ?_)
      rw [resQ_bad hi (by decide) (by decide)]
     ·refine ev_else h10 ?_
      by_cases hc : c < 32 ∨ c = 127
      ·have hi : itemQ (c :: r) = ([], 0, 11) := by rw [itemQ, if_neg h39, if_neg h92, if_neg h10, if_pos hc]
       have fin : Ev (fun k => quote_Take.j6 k l acc (p : Int) true) (resQ acc p (textQ (c :: r))) := by
        refine Ev.step (fun k => quote_Take.j6.eq_2 ..) (ev_if rfl (ev_now ?_))
        rw [resQ_bad hi (by decide) (by decide)]
       by_cases h32 : c < 32
       ·exact ev_if h32 fin
       ·refine ev_else h32 ?_
        rw [show (c == 127) = true by simp; omega]
        exact fin
      ·have n1 : ¬ c < 32 := fun h => hc (.inl h)
       have n2 : c ≠ 127 := fun h => hc (.inr h)
       refine ev_else n1 (Ev.step (fun k => quote_Take.j6.eq_2 ..) (ev_else (by simp [n2]) (ev_if (by omega) (ev_if (by omega) ?_))))
       rw [show l.drop ((p : Int)).toNat = c :: r from hm]
       refine Ev.bind (take_ev _) ?_
       have tp := take_pos c r
       simp only [List.length_cons] at tp
       by_cases ht : (takeS (c :: r)).2 = true
       ·have hi : itemQ (c :: r) = ((c :: r).take (takeS (c :: r)).1.toNat, (takeS (c :: r)).1.toNat, 0) := by rw [itemQ, if_neg h39, if_neg h92, if_neg h10, if_neg hc, if_pos ht]
        generalize (takeS (c :: r)).1 = n at tp hi ⊢
        have wn : wrap64 ((p : Int) + n) = ((p + n.toNat : Nat) : Int) := by rw [w64 (by omega) (by omega)]; omega
        rw [wn]
        have et : (l.take (((p + n.toNat : Nat) : Int)).toNat).drop ((p : Int)).toNat = (c :: r).take n.toNat := by
         show (l.take (p + n.toNat)).drop p = _
         rw [List.drop_take, hm, Nat.add_sub_cancel_left]
        rw [et]
        refine ev_if ht (ev_if (by omega) (ev_if (by omega) (ev_if ?_ ?_)))
        ·rw [List.length_take]; simp only [List.length_cons]; omega
        ·exact hgo _ _ hi
       ·have hi : itemQ (c :: r) = ([], 0, 10) := by rw [itemQ, if_neg h39, if_neg h92, if_neg h10, if_neg hc, if_neg ht]
        refine ev_else ht (ev_now ?_)
        rw [resQ_bad hi (by decide) (by decide)]
theorem quote_ev (l : List Int) (hl : Bytes l) (hn : l.length ≤ 1000000) : Ev (fun k => quote_Take.f k l) (quoteS l) := by
 unfold quote_Take.f quoteS
 cases l with
 | nil => exact ev_if rfl (Ev.step (fun k => quote_Take.j0.eq_2 ..) (ev_if rfl (ev_now rfl)))
 | cons c r =>
  refine ev_else (by simp; omega) (ev_if (by simp) ?_)
  rw [show rd (c :: r) 0 = c from rfl, show (c :: r).headD 0 = c from rfl]
  refine Ev.step (fun k => quote_Take.j0.eq_2 ..) ?_
  by_cases h : c = 39
  ·rw [if_pos h]
   exact ev_else (by simp [h]) (quote_loop _ hl hn ((c :: r).length + 1) 1 [] (by omega) (by simp) (by simp))
  ·rw [if_neg h]
   exact ev_if (by simp [h]) (ev_now rfl)
end Go.Proofs.YtflekegjmjjdmaaDoor.P
namespace Go.Proofs.YtflekegjmjjdmaaDoor.P
set_option linter.unusedSimpArgs false
set_option linter.unusedVariables false
open Go.RowKit Go.Proofs.YtflekegjmjjdmaaDoor.P Go.Proofs.YtflekegjmjjdmaaDoorW.PrintWords Go.Proofs.YtflekegjmjjdmaaDoorW.PrintLast Go.Proofs.YtflekegjmjjdmaaDoorW.PrintMore
/-- how much of a name stands next -/
def stepN : List Int → Nat
 | [] => 0
 | c :: r => if (takeS (c :: r)).2 = true ∧ ((takeS (c :: r)).1 = 1 → nameOf c = true) then (takeS (c :: r)).1.toNat else 0
theorem stepN_le (s : List Int) : stepN s ≤ s.length := by
 match s with
 | [] => exact Nat.le_refl _
 | c :: r =>
  have := take_pos c r
  rw [stepN]
  split
  ·omega
  ·omega
/-- how much of a name stands at the beginning -/
def nameS (s : List Int) : Nat := if h : stepN s = 0 then 0 else stepN s + nameS (s.drop (stepN s))
termination_by s.length
decreasing_by all_goals (have := stepN_le s; rw [List.length_drop]; omega)
theorem nameS_stop {s : List Int} (h : stepN s = 0) : nameS s = 0 := by rw [nameS, dif_pos h]
theorem nameS_go {s : List Int} (h : stepN s ≠ 0) : nameS s = stepN s + nameS (s.drop (stepN s)) := by rw [nameS, dif_neg h]
theorem nameS_le (N : Nat) : ∀ s : List Int, s.length < N → nameS s ≤ s.length := by
 induction N with
 | zero => intro s h; omega
 | succ N ih =>
  intro s h
  have hs := stepN_le s
  by_cases h0 : stepN s = 0
  ·rw [nameS_stop h0]; omega
  ·have e := nameS_go h0
   have := ih (s.drop (stepN s)) (by rw [List.length_drop]; omega)
   rw [List.length_drop] at this
   omega
theorem name_loop (l : List Int) (hl : Bytes l) (hn : l.length ≤ 1000000) (N : Nat) : ∀ p : Nat, l.length - p < N → p ≤ l.length → Ev (fun k => token_name.l0 k l (p : Int)) ((p + nameS (l.drop p) : Nat) : Int) := by
 induction N with
 | zero => intro p h; omega
 | succ N ih =>
  intro p hN hp
  have hml : (l.drop p).length = l.length - p := List.length_drop
  refine Ev.step (fun k => token_name.l0.eq_2 ..) ?_
  match hm : l.drop p with
  | [] =>
   rw [hm] at hml
   simp only [List.length_nil] at hml
   refine ev_else (by omega) (ev_now ?_)
   rw [nameS_stop rfl]
   omega
  | c :: r =>
   rw [hm] at hml
   simp only [List.length_cons] at hml
   have cut : ∀ n : Nat, l.drop (p + n) = (c :: r).drop n := fun n => by rw [← hm, List.drop_drop]
   have tp := take_pos c r
   simp only [List.length_cons] at tp
   have hsl := stepN_le (c :: r)
   simp only [List.length_cons] at hsl
   refine ev_if (by omega) (ev_if (by omega) (ev_if (by omega) ?_))
   (try rw [show l.drop ((p : Int)).toNat = c :: r from hm])
   rw [rd_here hm]
   refine Ev.bind (take_ev _) ?_
   have stop : stepN (c :: r) = 0 → ((p : Nat) : Int) = ((p + nameS (c :: r) : Nat) : Int) := fun h => by rw [nameS_stop h]; rfl
   have go : (takeS (c :: r)).2 = true → ((takeS (c :: r)).1 = 1 → nameOf c = true) → Ev (fun k => token_name.l0 k l (wrap64 ((p : Int) + (takeS (c :: r)).1))) ((p + nameS (c :: r) : Nat) : Int) := by
    intro h1 h2
    have es : stepN (c :: r) = (takeS (c :: r)).1.toNat := by rw [stepN, if_pos ⟨h1, h2⟩]
    have e := nameS_go (s := c :: r) (by omega)
    have wn : wrap64 ((p : Int) + (takeS (c :: r)).1) = ((p + (takeS (c :: r)).1.toNat : Nat) : Int) := by rw [w64 (by omega) (by omega)]; omega
    rw [wn]
    refine ev_eq (ih (p + (takeS (c :: r)).1.toNat) (by omega) (by omega)) ?_
    rw [cut, e, es]
    omega
   by_cases h1 : (takeS (c :: r)).2 = true
   ·refine ev_if h1 ?_
    by_cases h2 : (takeS (c :: r)).1 = 1
    ·refine ev_if h2 (ev_same (name_eq c) ?_)
     by_cases h3 : nameOf c = true
     ·exact ev_if h3 (go h1 (fun _ => h3))
     ·exact ev_else h3 (ev_now (stop (by rw [stepN, if_neg (fun h => h3 (h.2 h2))])))
    ·exact ev_else h2 (go h1 (fun h => absurd h h2))
   ·exact ev_else h1 (ev_now (stop (by rw [stepN, if_neg (fun h => h1 h.1)])))
theorem name_ev (l : List Int) (hl : Bytes l) (hn : l.length ≤ 1000000) : Ev (fun k => token_name.f k l) (nameS l : Int) := by
 refine ev_eq (name_loop l hl hn (l.length + 1) 0 (by omega) (by omega)) ?_
 simp
abbrev Scan := Int × Int × ByteArray × Int
theorem named1_ev (l : List Int) (hl : Bytes l) (hn : l.length ≤ 1000000) (kd : Int) : Ev (fun k => token_named1.f k kd l) (kd, (nameS l : Int), strOfNums (l.take (nameS l)), (0 : Int)) := by
 unfold token_named1.f
 have := nameS_le (l.length + 1) l (by omega)
 exact Ev.bind (name_ev l hl hn) (ev_if (by omega) (ev_if (by omega) (ev_now rfl)))
/-- does a dot, with this behind it, end a clause -/
def endsS (l : List Int) : Bool := match l with
 | [] => true
 | c :: _ => classOf c == 1 || classOf c == 8
/-- symbols -/
def symbolS (l : List Int) : Scan := (if l.take (runS l 5) = [46] ∧ endsS (l.drop (runS l 5)) = true then 7 else 2, (runS l 5 : Int), strOfNums (l.take (runS l 5)), 0)
theorem str_dot {m : List Int} (hm : Bytes m) : ((strOfNums m).toList = ([46] : List UInt8)) ↔ m = [46] := by
 rw [strOf_list]
 match m with
 | [] => simp
 | [c] =>
  have hc := hm c (by simp)
  constructor
  ·intro h
   simp only [List.map_cons, List.map_nil, List.cons.injEq, and_true] at h
   rw [u8_inj hc (y := 46) (by omega) h]
  ·intro h
   rw [List.cons.injEq] at h
   rw [h.1]; rfl
 | c :: d :: r => simp
theorem symbol_ev (l : List Int) (hl : Bytes l) (hn : l.length ≤ 1000000) : Ev (fun k => token_symbol.f k l) (symbolS l) := by
 unfold token_symbol.f symbolS
 have hle := runS_le l 5
 refine Ev.bind (run_ev l 5 (by omega)) (ev_if (by omega) (ev_if (by omega) ?_))
 rw [show ((runS l 5 : Int)).toNat = runS l 5 from rfl]
 by_cases h : l.take (runS l 5) = [46]
 ·refine ev_if ((str_dot (hl.take _)).2 h) ?_
  match hm : l.drop (runS l 5) with
  | [] =>
   have hml : (l.drop (runS l 5)).length = l.length - runS l 5 := List.length_drop
   rw [hm] at hml
   simp only [List.length_nil] at hml
   refine ev_if (by omega) (ev_now ?_)
   rw [if_pos ⟨h, rfl⟩]
  | c :: r =>
   have hml : (l.drop (runS l 5)).length = l.length - runS l 5 := List.length_drop
   rw [hm] at hml
   simp only [List.length_cons] at hml
   refine ev_else (by omega) (ev_if (by omega) ?_)
   rw [rd_here hm]
   refine ev_same (class_of c) ?_
   by_cases h1 : classOf c = 1
   ·refine ev_if h1 (ev_now ?_)
    rw [if_pos ⟨h, by simp [endsS, h1]⟩]
   ·refine ev_else h1 (ev_same (class_of c) ?_)
    by_cases h8 : classOf c = 8
    ·refine ev_if h8 (ev_now ?_)
     rw [if_pos ⟨h, by simp [endsS, h8]⟩]
    ·refine ev_else h8 (ev_now ?_)
     rw [if_neg (by simp [endsS, h1, h8])]
 ·refine ev_else (fun h2 => h ((str_dot (hl.take _)).1 h2)) (ev_now ?_)
  rw [if_neg (fun h2 => h h2.1)]
def numberS (l : List Int) : Scan := (4, (takeD l).2.1, strOfNums (l.take (takeD l).2.1.toNat), (takeD l).2.2)
theorem takeD_le (l : List Int) : (takeD l).2.1 = (runS l 4 : Int) := by
 unfold takeD
 by_cases h : runS l 4 = 0
 ·rw [if_pos h, h]; rfl
 ·rw [if_neg h]
  cases numS 0 (headD l) <;> rfl
theorem number_ev (l : List Int) (hl : Bytes l) (hn : l.length ≤ 1000000) : Ev (fun k => token_number.f k l) (numberS l) := by
 unfold token_number.f numberS
 have hle := runS_le l 4
 have e := takeD_le l
 exact Ev.bind (dtake_ev l hl hn) (ev_if (by omega) (ev_if (by omega) (ev_now rfl)))
def quotedS (l : List Int) : Scan := (5, (quoteS l).2.1, strOfNums (quoteS l).1, (quoteS l).2.2)
theorem quoted_ev (l : List Int) (hl : Bytes l) (hn : l.length ≤ 1000000) : Ev (fun k => token_quoted.f k l) (quotedS l) := by
 unfold token_quoted.f quotedS
 exact Ev.bind (quote_ev l hl hn) (ev_now rfl)
def highS (l : List Int) : Scan := if (takeS l).2 = true then (1, (nameS l : Int), strOfNums (l.take (nameS l)), 0) else (0, 1, ⟨#[]⟩, 10)
theorem high_ev (l : List Int) (hl : Bytes l) (hn : l.length ≤ 1000000) : Ev (fun k => token_high.f k l) (highS l) := by
 unfold token_high.f highS
 refine Ev.bind (take_ev l) ?_
 by_cases h : (takeS l).2 = true
 ·rw [if_pos h]; exact ev_if h (named1_ev l hl hn 1)
 ·rw [if_neg h]; exact ev_else h (ev_now rfl)
/-- a token at the beginning, by its first byte's class: as_ it is scanned -/
def scanS (c : Int) (l : List Int) : Scan :=
 if c = 2 then (1, (nameS l : Int), strOfNums (l.take (nameS l)), 0) else if c = 3 then (3, (nameS l : Int), strOfNums (l.take (nameS l)), 0) else if c = 9 then highS l else if c = 5 then symbolS l else if c = 4 then numberS l
 else if c = 7 then quotedS l else if c = 6 then (6, 1, strOfNums (l.take 1), 0) else (0, 1, ⟨#[]⟩, 11)
theorem class_all : ∀ n : Nat, n < 256 → 0 ≤ classOf (n : Int) ∧ classOf (n : Int) ≤ 9 := by decide +kernel
theorem class_range {c : Int} (h : 0 ≤ c ∧ c < 256) : 0 ≤ classOf c ∧ classOf c ≤ 9 := byte_all (p := fun c => 0 ≤ classOf c ∧ classOf c ≤ 9) class_all h
theorem scan_ev (l : List Int) (h0 : l ≠ []) (hl : Bytes l) (hn : l.length ≤ 1000000) (c : Int) (hc : 0 ≤ c ∧ c ≤ 9) : Ev (fun k => token_scan.f k c l) (scanS c l) := by
 unfold token_scan.f scanS
 by_cases h2 : c = 2
 ·rw [if_pos h2]; exact ev_if h2 (named1_ev l hl hn 1)
 rw [if_neg h2]; refine ev_else h2 ?_
 by_cases h3 : c = 3
 ·rw [if_pos h3]; exact ev_if h3 (named1_ev l hl hn 3)
 rw [if_neg h3]; refine ev_else h3 ?_
 by_cases h9 : c = 9
 ·rw [if_pos h9]; exact ev_if h9 (high_ev l hl hn)
 rw [if_neg h9]; refine ev_else h9 ?_
 by_cases h5 : c = 5
 ·rw [if_pos h5]; exact ev_if h5 (symbol_ev l hl hn)
 rw [if_neg h5]; refine ev_else h5 ?_
 by_cases h4 : c = 4
 ·rw [if_pos h4]; exact ev_if h4 (number_ev l hl hn)
 rw [if_neg h4]; refine ev_else h4 ?_
 by_cases h7 : c = 7
 ·rw [if_pos h7]; exact ev_if h7 (quoted_ev l hl hn)
 rw [if_neg h7]; refine ev_else h7 ?_
 have h1 : 1 ≤ (l.length : Int) := by
  cases l with
  | nil => exact absurd rfl h0
  | cons a t => simp only [List.length_cons]; omega
 by_cases h6 : c = 6
 ·simp only [if_pos h6]
  unfold token_solo.f
  exact ev_if h1 (ev_now rfl)
 simp only [if_neg h6]
 have ho : Ev (fun _ => token_other.f l) ((0, 1, ⟨#[]⟩, 11) : Scan) := Ev.now _
 by_cases e0 : c = 0
 ·simp only [if_pos e0]; exact ho
 simp only [if_neg e0]
 by_cases e1 : c = 1
 ·simp only [if_pos e1]; exact ho
 simp only [if_neg e1]
 have e8 : c = 8 := by omega
 simp only [if_pos e8]; exact ho
/-- a token at the beginning, as_ it is told -/
def tokS (l : List Int) : Scan := if (scanS (classOf (l.headD 0)) l).2.2.2 = 0 then scanS (classOf (l.headD 0)) l else (8, (scanS (classOf (l.headD 0)) l).2.1, ⟨#[]⟩, (scanS (classOf (l.headD 0)) l).2.2.2)
abbrev Tok := Int × Int × Int × ByteArray × Int × Bool
def noTok : Tok := (0, 0, 0, ⟨#[]⟩, 0, false)
/-- the first token behind p -/
def behindS (l : List Int) (p : Nat) : Tok :=
 if (skipS (l.drop p)).2 ≠ 0 then (8, ((p + (skipS (l.drop p)).1 : Nat) : Int), (l.length : Int), ⟨#[]⟩, (skipS (l.drop p)).2, true)
 else if l.drop (p + (skipS (l.drop p)).1) = [] then noTok
 else ((tokS (l.drop (p + (skipS (l.drop p)).1))).1, ((p + (skipS (l.drop p)).1 : Nat) : Int), ((p + (skipS (l.drop p)).1 : Nat) : Int) + (tokS (l.drop (p + (skipS (l.drop p)).1))).2.1, (tokS (l.drop (p + (skipS (l.drop p)).1))).2.2.1, (tokS (l.drop (p + (skipS (l.drop p)).1))).2.2.2, true)
def nextS (l : List Int) (a : Int) : Tok := if a < 0 ∨ a > (l.length : Int) then noTok else behindS l a.toNat
theorem resQ_le {acc s : List Int} {p : Nat} : (resQ acc p (textQ s)).2.1 = ((p + (textQ s).2.1 : Nat) : Int) := by
 unfold resQ
 split <;> rfl
theorem textQ_le (N : Nat) : ∀ s : List Int, s.length < N → (textQ s).2.1 ≤ s.length := by
 induction N with
 | zero => intro s h; omega
 | succ N ih =>
  intro s h
  have hs := itemQ_le s
  by_cases h0 : (itemQ s).2.2 = 0
  ·have e := textQ_go h0
   have h1 := hs.2.1 h0
   have := ih (s.drop (itemQ s).2.1) (by rw [List.length_drop]; omega)
   rw [List.length_drop] at this
   have e1 := congrArg (fun t => t.2.1) e
   simp only at e1
   omega
  ·rw [textQ_stop h0]; exact hs.1
theorem quoteS_le (l : List Int) : 0 ≤ (quoteS l).2.1 ∧ (quoteS l).2.1 ≤ (l.length : Int) := by
 unfold quoteS
 by_cases h : l.headD 0 = 39
 ·rw [if_pos h, resQ_le]
  cases l with
  | nil => exact absurd h (by decide)
  | cons c r =>
   have := textQ_le (r.length + 1) r (by omega)
   simp only [List.drop_succ_cons, List.drop_zero, List.length_cons]
   omega
 ·rw [if_neg h]; simp
theorem scanS_le (c : Int) {l : List Int} (h : l ≠ []) : 0 ≤ (scanS c l).2.1 ∧ (scanS c l).2.1 ≤ (l.length : Int) := by
 have hn := nameS_le (l.length + 1) l (by omega)
 have h1 : 1 ≤ l.length := by
  cases l with
  | nil => exact absurd rfl h
  | cons a t => simp
 unfold scanS
 split
 ·simp only; omega
 split
 ·simp only; omega
 split
 ·unfold highS
  split
  ·simp only; omega
  ·simp only; omega
 split
 ·have := runS_le l 5
  unfold symbolS; simp only; omega
 split
 ·have := runS_le l 4
  have e := takeD_le l
  unfold numberS; simp only; omega
 split
 ·have := quoteS_le l
  unfold quotedS; simp only; omega
 split
 ·simp only; omega
 ·simp only; omega
theorem next_ev (l : List Int) (hl : Bytes l) (hn : l.length ≤ 1000000) (a : Int) : Ev (fun k => token_Next.f k l a) (nextS l a) := by
 unfold token_Next.f nextS
 by_cases h1 : a < 0
 ·rw [if_pos (.inl h1)]; exact ev_if h1 (ev_now rfl)
 refine ev_else h1 ?_
 by_cases h2 : a > (l.length : Int)
 ·rw [if_pos (.inr h2)]; exact ev_if h2 (ev_now rfl)
 refine ev_else h2 ?_
 rw [if_neg (fun h => h.elim h1 h2)]
 obtain ⟨p, rfl⟩ : ∃ p : Nat, a = (p : Int) := ⟨a.toNat, by omega⟩
 rw [show ((p : Int)).toNat = p from rfl]
 have hd := hl.drop p
 have hml : (l.drop p).length = l.length - p := List.length_drop
 refine Ev.bind (skip_ev _ hd (by omega)) ?_
 have hsl := skipS_le ((l.drop p).length + 1) (l.drop p) (by omega)
 unfold behindS
 generalize hS : skipS (l.drop p) = S at hsl
 obtain ⟨n, e⟩ := S
 simp only at hsl ⊢
 have wn : wrap64 ((p : Int) + (n : Int)) = ((p + n : Nat) : Int) := by rw [w64 (by omega) (by omega)]; omega
 rw [wn]
 unfold token_Next.g
 by_cases he : e = 0
 ·refine ev_if he ?_
  rw [if_neg (by simp [he])]
  have hml2 : (l.drop (p + n)).length = l.length - (p + n) := List.length_drop
  match hm : l.drop (p + n) with
  | [] =>
   rw [hm] at hml2
   simp only [List.length_nil] at hml2
   rw [if_pos rfl]
   exact ev_if (by omega) (ev_now rfl)
  | c :: r =>
   rw [hm] at hml2
   simp only [List.length_cons] at hml2
   rw [if_neg (by simp)]
   refine ev_else (by omega) (ev_if (by omega) (ev_if (by omega) ?_))
   rw [rd_here hm]
   have hb : Bytes (c :: r) := by rw [← hm]; exact hl.drop _
   refine ev_same (class_of c) (Ev.bind (scan_ev (c :: r) (by simp) hb (by simp only [List.length_cons]; omega) (classOf c) (class_range hb.cons.1)) ?_)
   have hsz := scanS_le (classOf c) (l := c :: r) (by simp)
   simp only [List.length_cons] at hsz
   have ws : wrap64 (((p + n : Nat) : Int) + (scanS (classOf c) (c :: r)).2.1) = ((p + n : Nat) : Int) + (scanS (classOf c) (c :: r)).2.1 := by rw [w64 (by omega) (by omega)]
   rw [ws]
   unfold tokS
   rw [show (c :: r).headD 0 = c from rfl]
   by_cases h0 : (scanS (classOf c) (c :: r)).2.2.2 = 0
   ·simp only [if_pos h0]
    exact ev_now (by rw [h0])
   ·simp only [if_neg h0]
    exact ev_now rfl
 ·rw [if_pos he]
  exact ev_else he (ev_now rfl)
end Go.Proofs.YtflekegjmjjdmaaDoor.P
namespace Go.Proofs.YtflekegjmjjdmaaDoor.P
set_option linter.unusedSimpArgs false
set_option linter.unusedVariables false
open Go.RowKit Go.Proofs.YtflekegjmjjdmaaDoor.P Go.Proofs.YtflekegjmjjdmaaDoorW.PrintWords Go.Proofs.YtflekegjmjjdmaaDoorW.PrintLast Go.Proofs.YtflekegjmjjdmaaDoorW.PrintMore
theorem flow_all : ∀ n : Nat, n < 256 → nameOf (n : Int) = true → (n : Int) < 128 := by decide +kernel
theorem fname_low {c : Int} (h : 0 ≤ c ∧ c < 256) : nameOf c = true → c < 128 := byte_all (p := fun c => nameOf c = true → c < 128) flow_all h
theorem ftake_low {c : Int} (h : c < 128) (r : List Int) : takeS (c :: r) = (1, true) := by
 have e : uLong c = 1 := by unfold uLong; rw [if_pos h]
 rw [takeS_cons, e]; rfl
theorem stepN_name {c : Int} (hc : 0 ≤ c ∧ c < 256) (r : List Int) (h : nameOf c = true) : stepN (c :: r) = 1 := by
 rw [stepN, ftake_low (fname_low hc h), if_pos ⟨rfl, fun _ => h⟩]; rfl
end Go.Proofs.YtflekegjmjjdmaaDoor.P
namespace Go.Proofs.YtflekegjmjjdmaaDoor.P
set_option linter.unusedSimpArgs false
set_option linter.unusedVariables false
open Go.RowKit Go.Proofs.YtflekegjmjjdmaaDoor.P Go.Proofs.YtflekegjmjjdmaaDoorW.PrintWords Go.Proofs.YtflekegjmjjdmaaDoorW.PrintLast Go.Proofs.YtflekegjmjjdmaaDoorW.PrintMore
/-- nothing, or a blank -/
def Tail (r : List Int) : Prop := r = [] ∨ ∃ r', r = 32 :: r'
theorem blank_class : classOf 32 = 1 := by decide +kernel
theorem blank_name : nameOf 32 = false := by decide +kernel
theorem tail_run {r : List Int} (h : Tail r) {cl : Int} (hc : cl ≠ 1) : runS r cl = 0 := by
 rcases h with rfl | ⟨r', rfl⟩
 ·rfl
 ·rw [runS_cons, blank_class, if_neg (fun e => hc e.symm)]
theorem run_app {s r : List Int} {cl : Int} (hs : ∀ c ∈ s, classOf c = cl) (hr : runS r cl = 0) : runS (s ++ r) cl = s.length := by
 induction s with
 | nil => exact hr
 | cons c s ih => rw [List.cons_append, runS_cons, if_pos (hs c (by simp)), ih (fun x hx => hs x (by simp [hx]))]; rfl
theorem tail_step {r : List Int} (h : Tail r) : stepN r = 0 := by
 rcases h with rfl | ⟨r', rfl⟩
 ·rfl
 ·rw [stepN, blank_name]; rfl
theorem name_app {s r : List Int} (hb : Bytes s) (hs : ∀ c ∈ s, nameOf c = true) (hr : Tail r) : nameS (s ++ r) = s.length := by
 induction s with
 | nil => exact nameS_stop (tail_step hr)
 | cons c s ih =>
  have h1 : stepN (c :: (s ++ r)) = 1 := stepN_name (hb c (by simp)) _ (hs c (by simp))
  rw [List.cons_append, nameS_go (by rw [h1]; decide), h1]
  show 1 + nameS (s ++ r) = s.length + 1
  rw [ih (fun x hx => hb x (by simp [hx])) (fun x hx => hs x (by simp [hx]))]; omega
theorem num_app (s : List Int) : ∀ n : Int, (∀ c ∈ s, 48 ≤ c ∧ c ≤ 57) → 0 ≤ n → (n + 1) * (10 : Int) ^ s.length ≤ 2147483648 → ∃ m, numS n s = some m := by
 induction s with
 | nil => intro n _ _ _; exact ⟨n, rfl⟩
 | cons c s ih =>
  intro n hs h0 hn
  have hc := hs c (by simp)
  rw [List.length_cons, Int.pow_succ] at hn
  have hp : (1 : Int) ≤ 10 ^ s.length := by
   have : (0 : Int) < 10 ^ s.length := Int.pow_pos (by decide)
   omega
  have h10 : (n * 10 + (c - 48) + 1) * (10 : Int) ^ s.length ≤ 2147483648 := by
   refine Int.le_trans (Int.mul_le_mul_of_nonneg_right (show n * 10 + (c - 48) + 1 ≤ (n + 1) * 10 by omega) (by omega)) ?_
   rw [Int.mul_assoc, Int.mul_comm 10]; exact hn
  have hle : n * 10 + (c - 48) + 1 ≤ 2147483648 := by
   refine Int.le_trans ?_ h10
   have := Int.mul_le_mul_of_nonneg_left hp (show 0 ≤ n * 10 + (c - 48) + 1 by omega)
   omega
  rw [numS_cons, if_neg (by omega)]
  exact ih _ (fun x hx => hs x (by simp [hx])) (by omega) h10
/-- what the token is: its kind, by its first byte's class -/
def kindC (cl : Int) : Int := if cl = 2 then 1 else if cl = 3 then 3 else if cl = 4 then 4 else if cl = 5 then 2 else 6
/-- such a row -/
def Alone (cl : Int) (s : List Int) : Prop := s ≠ [] ∧ (∀ c ∈ s, classOf c = cl) ∧ ((cl = 2 ∨ cl = 3) ∨ (cl = 4 ∧ s.length ≤ 9) ∨ (cl = 5 ∧ ∀ c ∈ s, c ≠ 46 ∧ c ≠ 47) ∨ (cl = 6 ∧ s.length = 1))
theorem name23_all : ∀ n : Nat, n < 256 → (classOf (n : Int) = 2 ∨ classOf (n : Int) = 3) → nameOf (n : Int) = true := by decide +kernel
theorem name23 {c : Int} (h : 0 ≤ c ∧ c < 256) : (classOf c = 2 ∨ classOf c = 3) → nameOf c = true := byte_all (p := fun c => (classOf c = 2 ∨ classOf c = 3) → nameOf c = true) name23_all h
theorem alone_tok {cl : Int} {s r : List Int} (hb : Bytes s) (h : Alone cl s) (hr : Tail r) : tokS (s ++ r) = (kindC cl, (s.length : Int), strOfNums s, 0) := by
 obtain ⟨hne, hc, hk⟩ := h
 match s, hne with
 | c :: t, _ =>
  have hcl : classOf c = cl := hc c (by simp)
  have hh : classOf ((c :: t ++ r).headD 0) = cl := hcl
  have htk : (c :: t ++ r).take (c :: t).length = c :: t := List.take_left ..
  have e : scanS cl (c :: t ++ r) = (kindC cl, ((c :: t).length : Int), strOfNums (c :: t), 0) := by
   unfold scanS kindC
   rcases hk with (h2 | h3) | ⟨h4, hl⟩ | ⟨h5, h46⟩ | ⟨h6, hl⟩
   ·have hn := name_app hb (fun x hx => name23 (hb x hx) (.inl ((hc x hx).trans h2))) hr
    rw [if_pos h2, if_pos h2, hn, htk]
   ·have hn := name_app hb (fun x hx => name23 (hb x hx) (.inr ((hc x hx).trans h3))) hr
    rw [if_neg (by omega), if_pos h3, if_neg (by omega), if_pos h3, hn, htk]
   ·subst h4
    have hrn := run_app hc (tail_run hr (by decide))
    have hd : ∀ x ∈ c :: t, 48 ≤ x ∧ x ≤ 57 := fun x hx => (digit_iff (hb x hx)).1 (hc x hx)
    have hpw : ((0 : Int) + 1) * (10 : Int) ^ (c :: t).length ≤ 2147483648 := by
     have h9 : (c :: t).length ≤ 9 := hl
     generalize (c :: t).length = n at h9
     have : ∀ n : Nat, n ≤ 9 → ((0 : Int) + 1) * (10 : Int) ^ n ≤ 2147483648 := by decide
     exact this n h9
    obtain ⟨m, hm⟩ := num_app (c :: t) 0 hd (Int.le_refl _) hpw
    have htd : takeD (c :: t ++ r) = (m, ((c :: t).length : Int), 0) := by
     unfold takeD headD
     rw [hrn, htk, hm, if_neg (by simp)]; rfl
    simp only [if_neg (show ¬ (4 : Int) = 2 by decide), if_neg (show ¬ (4 : Int) = 3 by decide), if_neg (show ¬ (4 : Int) = 9 by decide), if_neg (show ¬ (4 : Int) = 5 by decide), if_true]
    unfold numberS
    rw [htd]
    simp only [Int.toNat_natCast, htk]
   ·subst h5
    have hrn := run_app hc (tail_run hr (by decide))
    simp only [if_neg (show ¬ (5 : Int) = 2 by decide), if_neg (show ¬ (5 : Int) = 3 by decide), if_neg (show ¬ (5 : Int) = 9 by decide), if_neg (show ¬ (5 : Int) = 4 by decide), if_true]
    unfold symbolS
    rw [hrn, htk, if_neg]
    rintro ⟨e, _⟩
    exact (h46 c (by simp)).1 (List.cons.inj e).1
   ·subst h6
    simp only [if_neg (show ¬ (6 : Int) = 2 by decide), if_neg (show ¬ (6 : Int) = 3 by decide), if_neg (show ¬ (6 : Int) = 9 by decide), if_neg (show ¬ (6 : Int) = 5 by decide), if_neg (show ¬ (6 : Int) = 4 by decide), if_neg (show ¬ (6 : Int) = 7 by decide), if_true]
    have ht : t = [] := List.length_eq_zero_iff.1 (by simpa using hl)
    subst ht
    rfl
  unfold tokS
  rw [hh, e]; rfl
theorem alone_skip {cl : Int} {s : List Int} (hb : Bytes s) (h : Alone cl s) (r : List Int) : skipS (s ++ r) = (0, 0) := by
 obtain ⟨hne, hc, hk⟩ := h
 match s, hne with
 | c :: t, _ =>
  have hcl : classOf c = cl := hc c (by simp)
  have h1 : classOf c ≠ 1 := by rw [hcl]; omega
  have h37 : c ≠ 37 := by
   intro e
   have := (percent_iff (hb c (by simp))).2 e
   rw [hcl] at this; omega
  have h47 : c ≠ 47 := by
   rcases hk with h2 | ⟨h4, _⟩ | ⟨h5, h46⟩ | ⟨h6, _⟩
   ·intro e
    have : classOf 47 = 5 := by decide +kernel
    rw [e, this] at hcl; omega
   ·intro e
    have : classOf 47 = 5 := by decide +kernel
    rw [e, this] at hcl; omega
   ·exact (h46 c (by simp)).2
   ·intro e
    have : classOf 47 = 5 := by decide +kernel
    rw [e, this] at hcl; omega
  have h2 : two 47 42 (c :: (t ++ r)) = false := by
   cases hx : t ++ r with
   | nil => rfl
   | cons y z =>
    show (c == 47 && y == 42) = false
    rw [beq_eq_false_iff_ne.2 h47]; rfl
  have hs : stepS (c :: (t ++ r)) = (0, 0) := by
   show (if classOf c = 1 then (1, 0) else if c = 37 then _ else if two 47 42 (c :: (t ++ r)) = true then _ else (0, 0)) = _
   rw [if_neg h1, if_neg h37, h2]; rfl
  rw [List.cons_append, skipS_stop (by rw [hs]), hs]
theorem next_of {l m : List Int} {k : Nat} (hsk : skipS l = (k, 0)) (hd : l.drop k = m) (hm : m ≠ []) {a b d : Int} {c : ByteArray} (ht : tokS m = (a, b, c, d)) : nextS l 0 = (a, (k : Int), (k : Int) + b, c, d, true) := by
 have e0 : l.drop 0 = l := rfl
 have hi : ¬ ((0 : Int) < 0 ∨ (0 : Int) > (l.length : Int)) := by
  rintro (h | h)
  ·exact absurd h (by decide)
  ·have := Int.natCast_nonneg l.length
   omega
 have hk : 0 + k = k := Nat.zero_add k
 unfold nextS
 rw [if_neg hi]
 show behindS l 0 = _
 unfold behindS
 rw [e0, hsk]
 simp only [hk, hd, ht]
 rw [if_neg (by simp), if_neg hm]
/-- with a blank ahead of it, and one behind -/
theorem alone_mid {cl : Int} {s : List Int} (hb : Bytes s) (h : Alone cl s) : nextS (32 :: (s ++ [32])) 0 = (kindC cl, 1, 1 + (s.length : Int), strOfNums s, 0, true) := by
 have hst : stepS (32 :: (s ++ [32])) = (1, 0) := by
  show (if classOf 32 = 1 then (1, 0) else _) = _
  rw [if_pos blank_class]
 have hsk : skipS (32 :: (s ++ [32])) = (1, 0) := by
  rw [skipS_go (by rw [hst]; decide), hst]
  show (1 + (skipS (s ++ [32])).1, (skipS (s ++ [32])).2) = _
  rw [alone_skip hb h]; rfl
 have ht := alone_tok hb h (r := [32]) (.inr ⟨[], rfl⟩)
 exact next_of hsk rfl (by simp) ht
/-- by itself -/
theorem alone_self {cl : Int} {s : List Int} (hb : Bytes s) (h : Alone cl s) : nextS s 0 = (kindC cl, 0, (s.length : Int), strOfNums s, 0, true) := by
 have hsk := alone_skip hb h []
 rw [List.append_nil] at hsk
 have ht := alone_tok hb h (r := []) (.inl rfl)
 rw [List.append_nil] at ht
 have := next_of hsk rfl h.1 ht
 rw [this]
 simp
/-- the byte that is put, of the k-th kind, by a byte -/
def signsL : List Int := [43, 45, 42, 92, 94, 60, 62, 61, 126, 63, 64, 35, 38, 36, 33]
def solosL : List Int := [40, 41, 44, 124, 59, 91, 93, 123, 125]
def mkC (k c : Nat) : Int := if k = 0 then ((97 + c % 26 : Nat) : Int) else if k = 1 then ((65 + c % 26 : Nat) : Int) else if k = 2 then ((48 + c % 10 : Nat) : Int) else if k = 3 then signsL.getD (c % 15) 0 else solosL.getD (c % 9) 0
def clK (k : Nat) : Int := if k = 0 then 2 else if k = 1 then 3 else if k = 2 then 4 else if k = 3 then 5 else 6
theorem mkC_all : ∀ k : Nat, k < 5 → ∀ c : Nat, c < 256 → classOf (mkC k c) = clK k ∧ 0 ≤ mkC k c ∧ mkC k c < 256 ∧ (k = 3 → mkC k c ≠ 46 ∧ mkC k c ≠ 47) := by decide +kernel
theorem alone_snoc {k c : Nat} (hk : k < 4) (hc : c < 256) {L : List Int} (h : L = [] ∨ Alone (clK k) L) (hb : Bytes L) (hl : L.length ≤ 8) : Alone (clK k) (L ++ [mkC k c]) ∧ Bytes (L ++ [mkC k c]) := by
 obtain ⟨m1, m2, m3, m4⟩ := mkC_all k (by omega) c hc
 have hall : ∀ x ∈ L, classOf x = clK k := by
  rcases h with rfl | h
  ·intro x hx; cases hx
  ·exact h.2.1
 refine ⟨⟨by simp, fun x hx => ?_, ?_⟩, fun x hx => ?_⟩
 ·rcases List.mem_append.1 hx with hx | hx
  ·exact hall x hx
  ·rw [List.mem_singleton.1 hx]; exact m1
 ·have hk4 : k = 0 ∨ k = 1 ∨ k = 2 ∨ k = 3 := by omega
  rcases hk4 with rfl | rfl | rfl | rfl
  ·exact .inl (.inl rfl)
  ·exact .inl (.inr rfl)
  ·exact .inr (.inl ⟨rfl, by simp; omega⟩)
  ·refine .inr (.inr (.inl ⟨rfl, fun x hx => ?_⟩))
   rcases List.mem_append.1 hx with hx | hx
   ·rcases h with rfl | h
    ·cases hx
    ·rcases h.2.2 with h2 | ⟨h4, _⟩ | ⟨_, h5⟩ | ⟨h6, _⟩
     ·exact absurd h2 (by decide)
     ·exact absurd h4 (by decide)
     ·exact h5 x hx
     ·exact absurd h6 (by decide)
   ·rw [List.mem_singleton.1 hx]; exact m4 rfl
 ·rcases List.mem_append.1 hx with hx | hx
  ·exact hb x hx
  ·rw [List.mem_singleton.1 hx]; exact ⟨m2, m3⟩
theorem alone_solo {c : Nat} (hc : c < 256) : Alone 6 [mkC 4 c] ∧ Bytes [mkC 4 c] := by
 obtain ⟨m1, m2, m3, _⟩ := mkC_all 4 (by omega) c hc
 refine ⟨⟨by simp, fun x hx => ?_, .inr (.inr (.inr ⟨rfl, rfl⟩))⟩, fun x hx => ?_⟩
 ·rw [List.mem_singleton.1 hx]; exact m1
 ·rw [List.mem_singleton.1 hx]; exact ⟨m2, m3⟩
end Go.Proofs.YtflekegjmjjdmaaDoor.P
namespace Go.Proofs.YtflekegjmjjdmaaDoor.Pure
set_option linter.unusedSimpArgs false
set_option linter.unusedVariables false
open Go.RowKit Go.Proofs.YtflekegjmjjdmaaDoor.P Go.Proofs.YtflekegjmjjdmaaDoorW.PrintWords Go.Proofs.YtflekegjmjjdmaaDoorW.PrintLast
set_option maxRecDepth 100000 in
theorem shown_ev : Ev (fun k => tmesislaw06_shown.f k) true := Ev.of (fun k => tmesislaw06_shown.mono k) (k := 20) (by decide +kernel)
theorem str_cat (a b : List Int) : strOfNums a ++ strOfNums b = strOfNums (a ++ b) := by
 apply ByteArray.ext
 simp [strOfNums]
theorem size_str (l : List Int) : (strOfNums l).size = l.length := by
 show (strOfNums l).data.size = _
 simp [strOfNums]
theorem bytes_str {l : List Int} (h : Bytes l) : bytesOf (strOfNums l) = l := by
 unfold bytesOf strOfNums
 simp only [List.map_map]
 refine (List.map_congr_left (g := id) fun x hx => ?_).trans (List.map_id _)
 have := h x hx
 simp only [Function.comp, UInt8.toNat_ofNat', id]
 omega
def sgn : ByteArray := ⟨#[43, 45, 42, 92, 94, 60, 62, 61, 126, 63, 64, 35, 38, 36, 33]⟩
def sol : ByteArray := ⟨#[40, 41, 44, 124, 59, 91, 93, 123, 125]⟩
def nxt (k c : Nat) (L : List Int) : List Int := if k < 4 then L ++ [mkC k c] else [mkC 4 c]
theorem put0_all : ∀ n : Nat, n < 256 → (97 + (Int.tmod (n : Int) 26)) % 256 = mkC 0 n := by decide +kernel
theorem put1_all : ∀ n : Nat, n < 256 → (65 + (Int.tmod (n : Int) 26)) % 256 = mkC 1 n := by decide +kernel
theorem put2_all : ∀ n : Nat, n < 256 → (48 + (Int.tmod (n : Int) 10)) % 256 = mkC 2 n := by decide +kernel
theorem put3_all : ∀ n : Nat, n < 256 → 0 ≤ Int.tmod (wrap64 (n : Int)) 15 ∧ Int.tmod (wrap64 (n : Int)) 15 < 15 ∧ (Go.Utf8.encode (bt sgn (Int.tmod (wrap64 (n : Int)) 15))).data = (strOfNums [mkC 3 n]).data := by decide +kernel
theorem put4_all : ∀ n : Nat, n < 256 → 0 ≤ Int.tmod (wrap64 (n : Int)) 9 ∧ Int.tmod (wrap64 (n : Int)) 9 < 9 ∧ (Go.Utf8.encode (bt sol (Int.tmod (wrap64 (n : Int)) 9))).data = (strOfNums [mkC 4 n]).data := by decide +kernel
theorem sgn_size : (sgn.size : Int) = 15 := by decide
theorem sol_size : (sol.size : Int) = 9 := by decide
/-- a byte more -/
theorem put_ev {b : List Int} {k c : Nat} (hk : k < 5) (hc : c < 256) {L : List Int} (hl : L.length ≤ 9) {i : Int} {r : Bool}
  (h : Ev (fun n => tmesislaw06_TokenAlone.j3 n b true sgn sol (k : Int) (strOfNums (nxt k c L)) i 1 3 4 2 6) r) :
  Ev (fun n => tmesislaw06_TokenAlone.j2 n b true sgn sol (k : Int) (strOfNums L) i (c : Int) 1 3 4 2 6) r := by
 refine Ev.step (fun n => tmesislaw06_TokenAlone.j2.eq_2 ..) ?_
 have hk5 : k = 0 ∨ k = 1 ∨ k = 2 ∨ k = 3 ∨ k = 4 := by omega
 have hsz : ∀ x : List Int, x.length = 1 → (strOfNums L).size + (strOfNums x).size ≤ 9223372036854775807 := fun x hx => by
  rw [size_str, size_str, hx]; omega
 rcases hk5 with rfl | rfl | rfl | rfl | rfl
 ·refine ev_if rfl (ev_let (ev_if (hsz _ rfl) ?_))
  rw [put0_all c hc, str_cat]
  exact h
 ·refine ev_else (by decide) (ev_if rfl (ev_let (ev_if (hsz _ rfl) ?_)))
  rw [put1_all c hc, str_cat]
  exact h
 ·refine ev_else (by decide) (ev_else (by decide) (ev_if rfl (ev_let (ev_if (hsz _ rfl) ?_))))
  rw [put2_all c hc, str_cat]
  exact h
 ·obtain ⟨p1, p2, p3⟩ := put3_all c hc
  have e : Go.Utf8.encode (bt sgn (Int.tmod (wrap64 (c : Int)) 15)) = strOfNums [mkC 3 c] := ByteArray.ext p3
  refine ev_else (by decide) (ev_else (by decide) (ev_else (by decide) (ev_if rfl (ev_else (by decide) ?_))))
  simp only [sgn_size]
  refine ev_if p1 (ev_if p2 ?_)
  rw [e]
  refine ev_if (hsz _ rfl) ?_
  rw [str_cat]
  exact h
 ·obtain ⟨p1, p2, p3⟩ := put4_all c hc
  have e : Go.Utf8.encode (bt sol (Int.tmod (wrap64 (c : Int)) 9)) = strOfNums [mkC 4 c] := ByteArray.ext p3
  refine ev_else (by decide) (ev_else (by decide) (ev_else (by decide) (ev_else (by decide) (ev_else (by decide) ?_))))
  simp only [sol_size]
  refine ev_if p1 (ev_if p2 ?_)
  rw [e]
  exact h
theorem kind_of (k : Nat) (hk : k < 5) : kindC (clK k) = (if k = 0 then 1 else if k = 1 then 3 else if k = 2 then 4 else if k = 3 then 2 else 6) := by
 have : ∀ k : Nat, k < 5 → kindC (clK k) = (if k = 0 then 1 else if k = 1 then 3 else if k = 2 then 4 else if k = 3 then 2 else 6) := by decide
 exact this k hk
/-- what is asked of the token -/
theorem test_ok (kd : Int) (L : List Int) (hl : L.length ≤ 9) : (kd == kd && ((1 : Int) == 1 && ((1 + (L.length : Int)) == (wrap64 (1 + ((strOfNums L).size : Int))) && ((strOfNums L).toList == (strOfNums L).toList && ((0 : Int) == 0))))) = true := by
 rw [size_str, w64 (by omega) (by omega)]
 simp
/-- behind the last byte -/
theorem fin_ev {b : List Int} {k : Nat} (hk : k < 5) {L : List Int} (hb : Bytes L) (ha : Alone (clK k) L) (hl : L.length ≤ 9) (i : Int) :
  Ev (fun n => tmesislaw06_TokenAlone.j1 n b true sgn sol (k : Int) (strOfNums L) i false 1 3 4 2 6) true := by
 have e32 : (⟨#[32]⟩ : ByteArray) = strOfNums [32] := by
  apply ByteArray.ext
  decide
 have ec : ((⟨#[32]⟩ : ByteArray) ++ strOfNums L) ++ (⟨#[32]⟩ : ByteArray) = strOfNums (32 :: (L ++ [32])) := by
  rw [e32, str_cat, str_cat]; rfl
 have hb2 : Bytes (32 :: (L ++ [32])) := fun x hx => by
  rcases List.mem_cons.1 hx with rfl | hx
  ·decide
  ·rcases List.mem_append.1 hx with hx | hx
   ·exact hb x hx
   ·rw [List.mem_singleton.1 hx]; decide
 have n1 := next_ev (32 :: (L ++ [32])) hb2 (by simp; omega) 0
 rw [alone_mid hb ha] at n1
 have n2 := next_ev L hb (by omega) 0
 rw [alone_self hb ha] at n2
 have s1 : (strOfNums L).size ≤ 9223372036854775807 := by rw [size_str]; omega
 refine Ev.step (fun n => tmesislaw06_TokenAlone.j1.eq_2 ..) (ev_else (by simp) (ev_if (by rw [size_str]; omega) (ev_if (by rw [e32, str_cat, size_str]; simp; omega) (ev_if (by rw [ec, size_str]; simp; omega) ?_))))
 rw [ec, bytes_str hb2, bytes_str hb]
 refine Ev.bind n1 (ev_if s1 (Ev.bind n2 (ev_if rfl (ev_if rfl ?_))))
 clear n1 n2
 have st : ∀ kd : Int, Ev (fun n => tmesislaw06_TokenAlone.j4 n (kd == kd)) true := fun kd => by
  rw [beq_self_eq_true]
  exact Ev.step (fun n => tmesislaw06_TokenAlone.j4.eq_2 ..) (ev_now rfl)
 rw [kind_of k hk]
 have hk5 : k = 0 ∨ k = 1 ∨ k = 2 ∨ k = 3 ∨ k = 4 := by omega
 rcases hk5 with rfl | rfl | rfl | rfl | rfl
 ·exact ev_if rfl (ev_if (test_ok 1 L hl) (ev_if rfl (ev_if rfl (st 1))))
 ·exact ev_else (by decide) (ev_if rfl (ev_if (test_ok 3 L hl) (ev_if rfl (ev_if rfl (st 3)))))
 ·exact ev_else (by decide) (ev_else (by decide) (ev_if rfl (ev_if (test_ok 4 L hl) (ev_if rfl (ev_if rfl (st 4))))))
 ·exact ev_else (by decide) (ev_else (by decide) (ev_else (by decide) (ev_if rfl (ev_if (test_ok 2 L hl) (ev_if rfl (ev_if rfl (st 2)))))))
 ·exact ev_else (by decide) (ev_else (by decide) (ev_else (by decide) (ev_else (by decide) (ev_if rfl (ev_if (test_ok 6 L hl) (ev_if rfl (ev_if rfl (st 6))))))))
theorem nxt_good {k c i : Nat} (hk : k < 5) (hc : c < 256) {L : List Int} (hb : Bytes L) (hl : L.length ≤ i) (hi : i < 9) (h : L = [] ∨ Alone (clK k) L) : Bytes (nxt k c L) ∧ Alone (clK k) (nxt k c L) ∧ (nxt k c L).length ≤ i + 1 := by
 unfold nxt
 by_cases h4 : k < 4
 ·rw [if_pos h4]
  have := alone_snoc h4 hc h hb (by omega)
  exact ⟨this.2, this.1, by simp; omega⟩
 ·rw [if_neg h4]
  obtain rfl : k = 4 := by omega
  have := alone_solo hc
  exact ⟨this.2, this.1, by simp⟩
theorem loop_ev {b : List Int} (hb : Bytes b) (hn : b.length ≤ 9223372036854775807) {k : Nat} (hk : k < 5) (d : Nat) : ∀ (i : Nat) (L : List Int), i + d = min (b.length + 1) 9 → Bytes L → L.length ≤ i → (L = [] ∧ i = 0 ∨ Alone (clK k) L) →
  Ev (fun n => tmesislaw06_TokenAlone.l0 n b true sgn sol (k : Int) (strOfNums L) (i : Int) 1 3 4 2 6) true := by
 induction d with
 | zero =>
  intro i L hi hL hl hg
  have h0 : 0 < i := by omega
  have ha : Alone (clK k) L := by
   rcases hg with ⟨_, h⟩ | h
   ·omega
   ·exact h
  refine Ev.step (fun n => tmesislaw06_TokenAlone.l0.eq_2 ..) ?_
  by_cases hle : (i : Int) ≤ (b.length : Int)
  ·refine ev_if hle ?_
   rw [show decide ((i : Int) < 9) = false from decide_eq_false (by omega)]
   exact fin_ev hk hL ha (by omega) _
  ·exact ev_else hle (fin_ev hk hL ha (by omega) _)
 | succ d ih =>
  intro i L hi hL hl hg
  have hle : (i : Int) ≤ (b.length : Int) := by omega
  refine Ev.step (fun n => tmesislaw06_TokenAlone.l0.eq_2 ..) (ev_if hle ?_)
  rw [show decide ((i : Int) < 9) = true from decide_eq_true (by omega)]
  have hg' : L = [] ∨ Alone (clK k) L := by
   rcases hg with ⟨h, _⟩ | h
   ·exact .inl h
   ·exact .inr h
  have go : ∀ c : Nat, c < 256 → Ev (fun n => tmesislaw06_TokenAlone.j2 n b true sgn sol (k : Int) (strOfNums L) (i : Int) (c : Int) 1 3 4 2 6) true := fun c hc => by
   obtain ⟨g1, g2, g3⟩ := nxt_good hk hc hL hl (by omega) hg'
   refine put_ev hk hc (by omega) (Ev.step (fun n => tmesislaw06_TokenAlone.j3.eq_2 ..) ?_)
   rw [w64 (by omega) (by omega)]
   exact ih (i + 1) _ (by omega) g1 g3 (.inr g2)
  refine Ev.step (fun n => tmesislaw06_TokenAlone.j1.eq_2 ..) (ev_if rfl ?_)
  by_cases hlt : (i : Int) < (b.length : Int)
  ·refine ev_if hlt (ev_if (by omega) ?_)
   have hr : rd b (i : Int) = b[i]'(by omega) := by
    unfold rd
    simp [show i < b.length by omega]
   have hm := hb _ (List.getElem_mem (show i < b.length by omega))
   rw [hr]
   generalize b[i]'(by omega) = x at hm
   obtain ⟨c, rfl⟩ : ∃ c : Nat, x = (c : Int) := ⟨x.toNat, by omega⟩
   exact go c (by omega)
  ·exact ev_else hlt (go 7 (by decide))
theorem TokenAlone : tmesislaw06_TokenAlone.Pure := by
 intro a b ha hm hn hb
 have ha := u8_wf ha
 obtain ⟨n, rfl⟩ : ∃ n : Nat, a = (n : Int) := ⟨a.toNat, by omega⟩
 have hb : Bytes b := fun x hx => u8_wf (hb x hx)
 apply Ev.rounds
 unfold tmesislaw06_TokenAlone.f
 refine Ev.bind shown_ev ?_
 have hk : Int.tmod (n : Int) 5 = ((n % 5 : Nat) : Int) := by
  have : ∀ n : Nat, n < 256 → Int.tmod (n : Int) 5 = ((n % 5 : Nat) : Int) := by decide +kernel
  exact this n (by omega)
 rw [hk]
 have := loop_ev hb (by omega) (k := n % 5) (Nat.mod_lt _ (by decide)) (min (b.length + 1) 9) 0 [] (by omega) (fun x hx => by cases hx) (Nat.le_refl _) (.inl ⟨rfl, rfl⟩)
 exact this
end Go.Proofs.YtflekegjmjjdmaaDoor.Pure
