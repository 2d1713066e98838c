/- Part of the proof: what the theorem needs of this text. -/
import Derived.Test.YtklpephnbkoinaaDoorKHCM
import Derived.Test.YtklpephnbkoinaaDoorKHG
import Derived.Test.YtklpephnbkoinaaDoorKHIB
import Derived.Test.YtklpephnbkoinaaDoorKHTX
import Derived.Test.YtklpephnbkoinaaDoorKPx1
import Derived.Test.YtklpephnbkoinaaDoorKPx12
import Derived.Test.YtklpephnbkoinaaDoorKPx2
import Derived.Test.YtklpephnbkoinaaDoorKPx3
import Derived.Test.YtklpephnbkoinaaDoorKPx4
import Derived.Test.YtklpephnbkoinaaDoorKPx5
import Derived.Test.YtklpephnbkoinaaDoorKPx6
import Derived.Test.YtklpephnbkoinaaDoorKPx7
import Derived.Test.YtklpephnbkoinaaDoorKPx8
import Derived.Test.YtklpephnbkoinaaDoorKPx9
import Derived.Test.YtklpephnbkoinaaDoorMW1
namespace Go.Proofs.YtklpephnbkoinaaDoor.P
set_option linter.unusedSimpArgs false
set_option linter.unusedVariables false
open Go.RowKit Go.Proofs.YtklpephnbkoinaaDoorW.PrintWords Go.Proofs.YtklpephnbkoinaaDoorW.PrintLast Go.Proofs.YtklpephnbkoinaaDoorW.PrintMore
section
variable {α β : Type}
theorem ev_if {c : Prop} [Decidable c] {a b : Nat → Option α} {r : α} (hc : c) (h : Ev a r) : Ev (fun k => if c then a k else b k) r := by simpa only [if_pos hc] using h
theorem ev_else {c : Prop} [Decidable c] {a b : Nat → Option α} {r : α} (hc : ¬ c) (h : Ev b r) : Ev (fun k => if c then a k else b k) r := by simpa only [if_neg hc] using h
theorem ev_let {y : β} {f : Nat → β → Option α} {r : α} (h : Ev (fun k => f k y) r) : Ev (fun k => (some y).bind (f k)) r := h
theorem ev_same {o : Option β} {y : β} {f : Nat → β → Option α} {r : α} (ho : o = some y) (h : Ev (fun k => f k y) r) : Ev (fun k => o.bind (f k)) r := by subst ho; exact h
theorem ev_eq {g : Nat → Option α} {r r' : α} (h : Ev g r) (e : r = r') : Ev g r' := e ▸ h
theorem ev_now {r r' : α} (e : r = r') : Ev (fun _ => some r) r' := e ▸ Ev.now r
end
theorem w64 {i : Int} (h0 : -9223372036854775808 ≤ i) (h1 : i ≤ 9223372036854775807) : wrap64 i = i := by unfold wrap64; omega
theorem mn_le (n : Nat) (m : Int) (hm : 0 ≤ m) : (mn (n : Int) m).toNat = min n m.toNat := by unfold mn; split <;> omega
end Go.Proofs.YtklpephnbkoinaaDoor.P
namespace Go.Proofs.YtklpephnbkoinaaDoor.P
set_option linter.unusedSimpArgs false
set_option linter.unusedVariables false
open Go.RowKit Go.Proofs.YtklpephnbkoinaaDoorW.PrintWords Go.Proofs.YtklpephnbkoinaaDoorW.PrintLast Go.Proofs.YtklpephnbkoinaaDoorW.PrintMore
/-- what may stand in a name -/
def nameOf (c : Int) : Bool := classOf c == 2 || classOf c == 3 || classOf c == 4
theorem class_of (c : Int) : class_Of.f c = some (classOf c) := rfl
/-- how many first bytes are of a class -/
def runS (l : List Int) (cl : Int) : Nat := (l.takeWhile fun c => classOf c == cl).length
theorem runS_nil (cl : Int) : runS [] cl = 0 := rfl
theorem runS_cons (c : Int) (l : List Int) (cl : Int) : runS (c :: l) cl = if classOf c = cl then runS l cl + 1 else 0 := by
 unfold runS
 by_cases h : classOf c = cl <;> simp [List.takeWhile_cons, h]
theorem runS_le (l : List Int) (cl : Int) : runS l cl ≤ l.length := by
 unfold runS
 exact List.Sublist.length_le (List.takeWhile_sublist _)
theorem rd_at (l : List Int) (i : Nat) (h : i < l.length) : rd l (i : Int) = l[i] := by
 show l.getD i 0 = _
 simp [List.getD_eq_getElem?_getD, List.getElem?_eq_getElem h]
theorem run_loop (l : List Int) (cl : Int) (hl : l.length ≤ 9223372036854775806) (d : Nat) : ∀ i : Nat, d + i = l.length →
  Ev (fun k => class_Run.l0 k l cl l (l.length : Int) (i : Int)) ((i + runS (l.drop i) cl : Nat) : Int) := by
 induction d with
 | zero =>
  intro i hi
  refine Ev.step (fun k => class_Run.l0.eq_2 ..) (ev_else (by omega) (ev_now ?_))
  rw [List.drop_of_length_le (by omega), runS_nil]
  omega
 | succ d ih =>
  intro i hi
  have hlt : i < l.length := by omega
  refine Ev.step (fun k => class_Run.l0.eq_2 ..) (ev_if (by omega) (ev_if (by omega) (ev_if (by omega) ?_)))
  rw [rd_at l i hlt, class_of, List.drop_eq_getElem_cons hlt, runS_cons]
  refine ev_let ?_
  by_cases h : classOf l[i] = cl
  ·rw [if_pos h]
   refine ev_if h ?_
   rw [show wrap64 ((i : Int) + 1) = ((i + 1 : Nat) : Int) by rw [w64 (by omega) (by omega)]; omega]
   refine ev_eq (ih (i + 1) (by omega)) ?_
   omega
  ·rw [if_neg h]
   exact ev_else h (ev_now (by omega))
theorem run_ev (l : List Int) (cl : Int) (hl : l.length ≤ 9223372036854775806) : Ev (fun k => class_Run.f k l cl) (runS l cl : Int) := by
 refine ev_eq (run_loop l cl hl l.length 0 (by omega)) ?_
 simp
theorem u8_wf {x : Int} (h : (Lit.int .u8 x).wf = true) : 0 ≤ x ∧ x < 256 := by
 simp [Lit.wf, IntKind.min, IntKind.max, IntKind.signed, IntKind.bits] at h
 omega
def Bytes (l : List Int) : Prop := ∀ x ∈ l, 0 ≤ x ∧ x < 256
theorem bytes_wf {l : List Int} (h : ∀ x ∈ l, (Lit.int .u8 x).wf = true) : Bytes l := fun x hx => u8_wf (h x hx)
theorem Bytes.take {l : List Int} (h : Bytes l) (n : Nat) : Bytes (l.take n) := fun x hx => h x (List.mem_of_mem_take hx)
theorem Bytes.drop {l : List Int} (h : Bytes l) (n : Nat) : Bytes (l.drop n) := fun x hx => h x (List.mem_of_mem_drop hx)
/-- a fact on each byte, asked one by one -/
theorem byte_all {p : Int → Prop} (h : ∀ n : Nat, n < 256 → p (n : Int)) {c : Int} (hc : 0 ≤ c ∧ c < 256) : p c := by
 have := h c.toNat (by omega)
 rwa [Int.toNat_of_nonneg hc.1] at this
end Go.Proofs.YtklpephnbkoinaaDoor.P
namespace Go.Proofs.YtklpephnbkoinaaDoor.P
set_option linter.unusedSimpArgs false
set_option linter.unusedVariables false
open Go.RowKit Go.Proofs.YtklpephnbkoinaaDoorW.PrintWords Go.Proofs.YtklpephnbkoinaaDoorW.PrintLast Go.Proofs.YtklpephnbkoinaaDoorW.PrintMore
theorem name_eq (c : Int) : class_Name.f c = some (nameOf c) := by
 unfold class_Name.f nameOf
 rw [class_of, Option.bind_some]
 by_cases h2 : classOf c = 2
 ·simp [h2]
 by_cases h3 : classOf c = 3
 ·simp [h3]
 by_cases h4 : classOf c = 4
 ·simp [h4]
 simp [h2, h3, h4]
end Go.Proofs.YtklpephnbkoinaaDoor.P
namespace Go.Proofs.YtklpephnbkoinaaDoor.P
set_option linter.unusedSimpArgs false
set_option linter.unusedVariables false
open Go.RowKit Go.Proofs.YtklpephnbkoinaaDoorW.PrintWords Go.Proofs.YtklpephnbkoinaaDoorW.PrintLast Go.Proofs.YtklpephnbkoinaaDoorW.PrintMore
theorem digit_all : ∀ n : Nat, n < 256 → (classOf (n : Int) = 4 ↔ 48 ≤ (n : Int) ∧ (n : Int) ≤ 57) := by decide +kernel
theorem digit_iff {c : Int} (h : 0 ≤ c ∧ c < 256) : classOf c = 4 ↔ 48 ≤ c ∧ c ≤ 57 := byte_all (p := fun c => classOf c = 4 ↔ 48 ≤ c ∧ c ≤ 57) digit_all h
/-- a number with digits more behind it; none, as_ soon as_ it is too great -/
def numS : Int → List Int → Option Int
 | n, [] => some n
 | n, c :: r => if n * 10 + (c - 48) > 2147483647 then none else numS (n * 10 + (c - 48)) r
theorem numS_cons (n c : Int) (r : List Int) : numS n (c :: r) = if n * 10 + (c - 48) > 2147483647 then none else numS (n * 10 + (c - 48)) r := rfl
def resD (q : Int) : Option Int → Int × Int × Int
 | some m => (m, q, 0)
 | none => (0, q, 4)
/-- the digits at the beginning -/
def headD (l : List Int) : List Int := l.take (runS l 4)
def takeD (l : List Int) : Int × Int × Int :=
 if runS l 4 = 0 then (0, 0, 2) else resD (runS l 4 : Int) (numS 0 (headD l))
def Digs (l : List Int) : Prop := ∀ c ∈ l, 48 ≤ c ∧ c ≤ 57
theorem digit_loop (l : List Int) (hd : Digs l) (hl : l.length ≤ 9223372036854775806) (q : Int) (d : Nat) : ∀ (i : Nat) (n : Int), d + i = l.length → 0 ≤ n → n ≤ 2147483647 →
  Ev (fun k => digits_Take.l0 k n q 0 l (l.length : Int) (i : Int)) (resD q (numS n (l.drop i))) := by
 induction d with
 | zero =>
  intro i n hi h0 h1
  refine Ev.step (fun k => digits_Take.l0.eq_2 ..) (ev_else (by omega) (ev_now ?_))
  rw [List.drop_of_length_le (by omega)]
  rfl
 | succ d ih =>
  intro i n hi h0 h1
  have hlt : i < l.length := by omega
  have hc := hd _ (List.getElem_mem hlt)
  refine Ev.step (fun k => digits_Take.l0.eq_2 ..) (ev_if (by omega) (ev_if (by omega) (ev_if (by omega) ?_)))
  rw [rd_at l i hlt, List.drop_eq_getElem_cons hlt]
  have e : wrap64 (wrap64 (n * 10) + (l[i] - 48) % 256) = n * 10 + (l[i] - 48) := by
   rw [w64 (i := n * 10) (by omega) (by omega), show (l[i] - 48) % 256 = l[i] - 48 by omega, w64 (by omega) (by omega)]
  rw [e]
  rw [numS_cons]
  by_cases h : n * 10 + (l[i] - 48) > 2147483647
  ·rw [if_pos h]
   exact ev_if h (ev_now rfl)
  ·rw [if_neg h]
   refine ev_else h ?_
   rw [show wrap64 ((i : Int) + 1) = ((i + 1 : Nat) : Int) by rw [w64 (by omega) (by omega)]; omega]
   exact ih (i + 1) _ (by omega) (by omega) (by omega)
theorem headD_len (l : List Int) : (headD l).length = runS l 4 := by
 unfold headD
 rw [List.length_take]
 have := runS_le l 4
 omega
theorem headD_digs {l : List Int} (hb : Bytes l) : Digs (headD l) := by
 unfold headD
 induction l with
 | nil => intro c hc; simp [runS_nil] at hc
 | cons a l ih =>
  rw [runS_cons]
  by_cases h : classOf a = 4
  ·rw [if_pos h, List.take_succ_cons]
   intro c hc
   rcases List.mem_cons.1 hc with rfl | hc
   ·exact (digit_iff (hb _ (by simp))).1 h
   ·exact ih (fun x hx => hb x (by simp [hx])) c hc
  ·rw [if_neg h]
   intro c hc
   simp at hc
theorem dtake_ev (l : List Int) (hb : Bytes l) (hl : l.length ≤ 1000000) : Ev (fun k => digits_Take.f k l) (takeD l) := by
 unfold digits_Take.f takeD
 have hle := runS_le l 4
 refine Ev.bind (run_ev l 4 (by omega)) ?_
 by_cases h : runS l 4 = 0
 ·rw [h]
  exact ev_if rfl (ev_now rfl)
 ·rw [if_neg h]
  refine ev_else (by omega) (ev_if (by omega) (ev_if (by omega) ?_))
  have e : ((runS l 4 : Int)).toNat = runS l 4 := rfl
  rw [e]
  have hh := headD_len l
  exact digit_loop (headD l) (headD_digs hb) (by omega) _ (headD l).length 0 0 (by omega) (by omega) (by omega)
end Go.Proofs.YtklpephnbkoinaaDoor.P
namespace Go.Proofs.YtklpephnbkoinaaDoor.P
set_option linter.unusedSimpArgs false
set_option linter.unusedVariables false
open Go.RowKit Go.Proofs.YtklpephnbkoinaaDoor.P Go.Proofs.YtklpephnbkoinaaDoorW.PrintWords Go.Proofs.YtklpephnbkoinaaDoorW.PrintLast Go.Proofs.YtklpephnbkoinaaDoorW.PrintMore
theorem u8_inj {x y : Int} (hx : 0 ≤ x ∧ x < 256) (hy : 0 ≤ y ∧ y < 256) (h : UInt8.ofNat x.toNat = UInt8.ofNat y.toNat) : x = y := by
 have := congrArg UInt8.toNat h
 rw [UInt8.toNat_ofNat', UInt8.toNat_ofNat'] at this
 omega
theorem Bytes.cons {c : Int} {r : List Int} (h : Bytes (c :: r)) : (0 ≤ c ∧ c < 256) ∧ Bytes r := ⟨h c (by simp), fun x hx => h x (by simp [hx])⟩
theorem strOf_list (l : List Int) : (strOfNums l).toList = l.map fun n => UInt8.ofNat n.toNat := by
 have := Lib.strOfNums_toList l
 rw [this]; rfl
/-- whether two bytes begin some -/
def two (a b : Int) : List Int → Bool
 | x :: y :: _ => x == a && y == b
 | _ => false
theorem hasP_two {l : List Int} (hl : Bytes l) {a b : Int} (ha : 0 ≤ a ∧ a < 256) (hb : 0 ≤ b ∧ b < 256) : hasP l [a, b] = two a b l := by
 unfold hasP
 match l with
 | [] => rfl
 | [x] => rfl
 | x :: y :: r =>
  have hx := hl x (by simp)
  have hy := hl y (by simp)
  rw [decide_eq_true (by simp), Bool.true_and, strOf_list, strOf_list]
  show (([UInt8.ofNat x.toNat, UInt8.ofNat y.toNat] : List UInt8) == [UInt8.ofNat a.toNat, UInt8.ofNat b.toNat]) = (x == a && y == b)
  rw [Bool.eq_iff_iff, beq_iff_eq, Bool.and_eq_true, beq_iff_eq, beq_iff_eq, List.cons.injEq, List.cons.injEq]
  constructor
  ·rintro ⟨h1, h2, _⟩
   exact ⟨u8_inj hx ha h1, u8_inj hy hb h2⟩
  ·rintro ⟨rfl, rfl⟩
   exact ⟨rfl, rfl, rfl⟩
/-- how much, inside a comment so deep, stands up to its end, with it -/
def comL : Nat → List Int → Option Nat
 | _, [] => none
 | _, [_] => none
 | d, x :: y :: r =>
  if x = 47 ∧ y = 42 then (comL (d + 1) r).map (· + 2)
  else if x = 42 ∧ y = 47 then (if d = 1 then some 2 else (comL (d - 1) r).map (· + 2))
  else (comL d (y :: r)).map (· + 1)
theorem comL_le (l : List Int) : ∀ (d n : Nat), comL d l = some n → 2 ≤ n ∧ n ≤ l.length := by
 induction h : l.length using Nat.strongRecOn generalizing l with
 | _ N ih =>
  intro d n hn
  match l with
  | [] => cases hn
  | [_] => cases hn
  | x :: y :: r =>
   simp only [List.length_cons] at h
   rw [comL] at hn
   by_cases h1 : x = 47 ∧ y = 42
   ·rw [if_pos h1] at hn
    obtain ⟨m, hm, rfl⟩ := Option.map_eq_some_iff.1 hn
    have := ih r.length (by omega) r rfl _ _ hm
    omega
   ·rw [if_neg h1] at hn
    by_cases h2 : x = 42 ∧ y = 47
    ·rw [if_pos h2] at hn
     by_cases h3 : d = 1
     ·rw [if_pos h3] at hn
      obtain rfl := Option.some.inj hn
      omega
     ·rw [if_neg h3] at hn
      obtain ⟨m, hm, rfl⟩ := Option.map_eq_some_iff.1 hn
      have := ih r.length (by omega) r rfl _ _ hm
      omega
    ·rw [if_neg h2] at hn
     obtain ⟨m, hm, rfl⟩ := Option.map_eq_some_iff.1 hn
     have := ih (r.length + 1) (by omega) (y :: r) rfl _ _ hm
     (try simp only [List.length_cons] at this)
     (try simp only [List.length_cons])
     omega
def optP (p : Nat) : Option Nat → Int
 | some n => ((p + n : Nat) : Int)
 | none => 0
theorem optP_map (p k : Nat) (o : Option Nat) : optP p (o.map (· + k)) = optP (p + k) o := by
 cases o with
 | none => rfl
 | some n => show ((p + (n + k) : Nat) : Int) = ((p + k + n : Nat) : Int); congr 1; omega
theorem drop_two {l : List Int} {p : Nat} {x y : Int} {r : List Int} (h : l.drop p = x :: y :: r) : l.drop (p + 2) = r ∧ l.drop (p + 1) = y :: r := by
 have h1 : l.drop (p + 1) = (l.drop p).drop 1 := by rw [List.drop_drop]
 have h2 : l.drop (p + 2) = (l.drop p).drop 2 := by rw [List.drop_drop]
 rw [h] at h1 h2
 exact ⟨h2, h1⟩
theorem comGo_eq (l : List Int) (hl : Bytes l) (f : Nat) : ∀ (d p : Nat), 1 ≤ d → p ≤ l.length → l.length + 1 ≤ p + f → comGo f l (d : Int) p = optP p (comL d (l.drop p)) := by
 induction f with
 | zero => intro d p _ hp hf; omega
 | succ f ih =>
  intro d p hd hp hf
  by_cases hend : l.length ≤ p
  ·rw [List.drop_of_length_le hend, comGo, if_pos hend]; rfl
  rw [comGo_step f l d p hend, hasP_two (hl.drop p) (by omega) (by omega), hasP_two (hl.drop p) (by omega) (by omega)]
  match hm : l.drop p with
  | [] => have := congrArg List.length hm; simp at this; omega
  | [x] =>
   have h1 : p + 1 = l.length := by have := congrArg List.length hm; simp at this; omega
   have e := ih d (p + 1) hd (by omega) (by omega)
   rw [List.drop_of_length_le (by omega)] at e
   show (if (d : Int) > 0 then comGo f l d (p + 1) else ((p + 1 : Nat) : Int)) = _
   rw [if_pos (by omega), e]; rfl
  | x :: y :: r =>
   have hlen : p + 2 ≤ l.length := by have := congrArg List.length hm; simp at this; omega
   obtain ⟨e2, e1⟩ := drop_two hm
   rw [comL]
   by_cases h1 : x = 47 ∧ y = 42
   ·have t : two 47 42 (x :: y :: r) = true := by simp [two, h1.1, h1.2]
    rw [if_pos t, if_pos h1, if_pos (by omega), show (d : Int) + 1 = ((d + 1 : Nat) : Int) by omega, ih (d + 1) (p + 2) (by omega) hlen (by omega), e2, optP_map]
   ·have t : ¬ two 47 42 (x :: y :: r) = true := by simpa [two] using h1
    rw [if_neg t, if_neg h1]
    by_cases h2 : x = 42 ∧ y = 47
    ·have t : two 42 47 (x :: y :: r) = true := by simp [two, h2.1, h2.2]
     rw [if_pos t, if_pos h2]
     by_cases h3 : d = 1
     ·subst h3
      rw [if_neg (by omega), if_pos rfl]; rfl
     ·rw [if_pos (by omega), if_neg h3, show (d : Int) - 1 = ((d - 1 : Nat) : Int) by omega, ih (d - 1) (p + 2) (by omega) hlen (by omega), e2, optP_map]
    ·have t : ¬ two 42 47 (x :: y :: r) = true := by simpa [two] using h2
     rw [if_neg t, if_neg h2, if_pos (by omega), ih d (p + 1) hd (by omega) (by omega), e1, optP_map]
/-- how long the comment at the beginning is -/
def comS (l : List Int) : Option Nat := (comL 1 (l.drop 2)).map (· + 2)
theorem comment_eq {l : List Int} (hl : Bytes l) (h : two 47 42 l = true) : layout_comment.f l = some (optP 0 (comS l)) := by
 match l, h with
 | x :: y :: r, h =>
  unfold layout_comment.f
  rw [comGo_step _ _ _ _ (by simp), hasP_two (hl.drop 0) (by omega) (by omega)]
  rw [if_pos (show two 47 42 ((x :: y :: r).drop 0) = true from h), if_pos (by omega)]
  rw [show (0 : Int) + 1 = ((1 : Nat) : Int) from rfl, comGo_eq _ hl _ 1 (0 + 2) (by omega) (by simp) (by simp; omega)]
  unfold comS
  rw [optP_map]
/-- how long the rest of the line is -/
def lineS (l : List Int) : Nat := (l.takeWhile fun c => c != 10).length
theorem lineS_cons (c : Int) (r : List Int) : lineS (c :: r) = if c = 10 then 0 else lineS r + 1 := by
 unfold lineS
 by_cases h : c = 10 <;> simp [List.takeWhile_cons, h]
theorem lineS_le (l : List Int) : lineS l ≤ l.length := List.Sublist.length_le (List.takeWhile_sublist _)
theorem index_line (l : List Int) (hl : Bytes l) : (Lib.indexByte (Lib.bytesOf l) (10 : Int).toNat.toUInt8 = -1 ∧ lineS l = l.length) ∨ (Lib.indexByte (Lib.bytesOf l) (10 : Int).toNat.toUInt8 = (lineS l : Int) ∧ lineS l < l.length) := by
 induction l with
 | nil => left; exact ⟨rfl, rfl⟩
 | cons c r ih =>
  obtain ⟨hc, hr⟩ := hl.cons
  have e : Lib.indexByte (Lib.bytesOf (c :: r)) (10 : Int).toNat.toUInt8 = if (c.toNat.toUInt8 == (10 : Int).toNat.toUInt8) = true then 0 else if (Lib.indexByte (Lib.bytesOf r) (10 : Int).toNat.toUInt8 == -1) = true then -1 else Lib.indexByte (Lib.bytesOf r) (10 : Int).toNat.toUInt8 + 1 := rfl
  rw [e, lineS_cons]
  by_cases h : c = 10
  ·subst h
   right
   rw [if_pos rfl, if_pos (by decide)]
   exact ⟨rfl, by simp⟩
  ·have hne : ¬ (c.toNat.toUInt8 == (10 : Int).toNat.toUInt8) = true := by
    rw [beq_iff_eq]
    exact fun hh => h (u8_inj hc (by omega) hh)
   rw [if_neg h, if_neg hne]
   rcases ih hr with ⟨h1, h2⟩ | ⟨h1, h2⟩
   ·left
    rw [h1, if_pos (by decide)]
    exact ⟨rfl, by simp [h2]⟩
   ·right
    rw [h1, if_neg (by rw [beq_iff_eq]; omega)]
    exact ⟨by omega, by simp; omega⟩
theorem line_eq {l : List Int} (hl : Bytes l) : layout_line.f l = some (lineS l : Int) := by
 unfold layout_line.f bytes_IndexByte.f
 rw [Option.bind_some]
 rcases index_line l hl with ⟨h1, h2⟩ | ⟨h1, h2⟩
 ·rw [h1, if_neg (by omega), h2]
 ·rw [h1, if_pos (by omega)]
/-- what is skipped next: so much; or it ends there, with an error or none -/
def stepS : List Int → Nat × Int
 | [] => (0, 0)
 | c :: r => if classOf c = 1 then (1, 0) else if c = 37 then (lineS (c :: r), 0) else if two 47 42 (c :: r) = true then (match comS (c :: r) with | some n => (n, 0) | none => (0, 14)) else (0, 0)
theorem stepS_le (l : List Int) : (stepS l).1 ≤ l.length := by
 match l with
 | [] => exact Nat.le_refl _
 | c :: r =>
  rw [stepS]
  by_cases h1 : classOf c = 1
  ·rw [if_pos h1]; simp
  rw [if_neg h1]
  by_cases h2 : c = 37
  ·rw [if_pos h2]; exact lineS_le _
  rw [if_neg h2]
  by_cases h3 : two 47 42 (c :: r) = true
  ·rw [if_pos h3]
   cases h4 : comS (c :: r) with
   | none => simp
   | some n =>
    match r, h3 with
    | y :: r, h3 =>
     obtain ⟨m, hm, rfl⟩ := Option.map_eq_some_iff.1 h4
     have := comL_le _ _ _ hm
     simp at this ⊢; omega
  ·rw [if_neg h3]; simp
/-- how much is skipped, and the error -/
def skipS (l : List Int) : Nat × Int := if h : (stepS l).1 = 0 then stepS l else ((stepS l).1 + (skipS (l.drop (stepS l).1)).1, (skipS (l.drop (stepS l).1)).2)
termination_by l.length
decreasing_by all_goals (have := stepS_le l; rw [List.length_drop]; omega)
theorem skipS_stop {l : List Int} (h : (stepS l).1 = 0) : skipS l = stepS l := by rw [skipS, dif_pos h]
theorem skipS_go {l : List Int} (h : (stepS l).1 ≠ 0) : skipS l = ((stepS l).1 + (skipS (l.drop (stepS l).1)).1, (skipS (l.drop (stepS l).1)).2) := by rw [skipS, dif_neg h]
theorem skipS_run (l : List Int) : skipS l = (runS l 1 + (skipS (l.drop (runS l 1))).1, (skipS (l.drop (runS l 1))).2) := by
 induction l with
 | nil => rw [runS_nil]; simp
 | cons c r ih =>
  rw [runS_cons]
  by_cases h : classOf c = 1
  ·have e : stepS (c :: r) = (1, 0) := by rw [stepS, if_pos h]
   rw [if_pos h, skipS_go (by rw [e]; simp), e]
   simp only [List.drop_succ_cons, List.drop_zero]
   rw [ih]
   simp; omega
  ·rw [if_neg h]; simp
theorem runS_first {c : Int} {r : List Int} (h : runS (c :: r) 1 = 0) : classOf c ≠ 1 := by
 intro hc
 rw [runS_cons, if_pos hc] at h
 omega
theorem percent_all : ∀ n : Nat, n < 256 → (classOf (n : Int) = 8 ↔ (n : Int) = 37) := by decide +kernel
theorem percent_iff {c : Int} (h : 0 ≤ c ∧ c < 256) : classOf c = 8 ↔ c = 37 := byte_all (p := fun c => classOf c = 8 ↔ c = 37) percent_all h
theorem skip_loop (l : List Int) (hl : Bytes l) (hn : l.length ≤ 1000000) (N : Nat) : ∀ p : Nat, l.length - p < N → p ≤ l.length →
  Ev (fun k => layout_Skip.l0 k l (p : Int)) (((p + (skipS (l.drop p)).1 : Nat) : Int), (skipS (l.drop p)).2) := by
 induction N with
 | zero => intro p h; omega
 | succ N ih =>
  intro p hN hp
  have hb := hl.drop p
  have hml : (l.drop p).length = l.length - p := List.length_drop
  have hrun := skipS_run (l.drop p)
  have hle := runS_le (l.drop p) 1
  have next : ∀ n : Nat, 1 ≤ n → p + n ≤ l.length → Ev (fun k => layout_Skip.l0 k l (wrap64 ((p : Int) + (n : Int)))) (((p + n + (skipS (l.drop (p + n))).1 : Nat) : Int), (skipS (l.drop (p + n))).2) := by
   intro n h1 h2
   rw [show wrap64 ((p : Int) + (n : Int)) = ((p + n : Nat) : Int) by rw [w64 (by omega) (by omega)]; omega]
   exact ih (p + n) (by omega) h2
  refine Ev.step (fun k => layout_Skip.l0.eq_2 ..) (ev_if (by omega) (ev_if (by omega) ?_))
  rw [show l.drop ((p : Int)).toNat = l.drop p from rfl]
  refine Ev.bind (run_ev _ 1 (by omega)) ?_
  by_cases h : runS (l.drop p) 1 = 0
  ·refine ev_else (by omega) ?_
   match hm : l.drop p with
   | [] =>
    refine ev_else (by simp) (Ev.step (fun k => layout_Skip.j1.eq_2 ..) (ev_else (by simp) ?_))
    refine ev_same (hasP_eq _ _) (ev_else (by simp [hasP]) (ev_now ?_))
    rw [skipS_stop rfl]; rfl
   | c :: r =>
    rw [hm] at h hb hml
    have hc := runS_first h
    have hcb := hb.cons.1
    refine ev_if (by simp) (ev_if (by simp) ?_)
    rw [show rd (c :: r) 0 = c from rfl, class_of]
    refine ev_let (Ev.step (fun k => layout_Skip.j1.eq_2 ..) ?_)
    have cut : ∀ n : Nat, l.drop (p + n) = (c :: r).drop n := fun n => by rw [← hm, List.drop_drop]
    by_cases h8 : c = 37
    ·have hls := lineS_le (c :: r)
     have h1 : 1 ≤ lineS (c :: r) := by rw [lineS_cons, if_neg (by omega)]; omega
     have es : stepS (c :: r) = (lineS (c :: r), 0) := by rw [stepS, if_neg hc, if_pos h8]
     refine ev_if (by rw [(percent_iff hcb).2 h8]; rfl) (ev_same (line_eq hb) ?_)
     refine ev_eq (next _ h1 (by omega)) ?_
     have eg := skipS_go (l := c :: r) (by rw [es]; simp only; omega)
     rw [es] at eg
     rw [cut, eg]
     simp only [Prod.mk.injEq, and_true]
     omega
    ·refine ev_else (by rw [beq_iff_eq, percent_iff hcb]; exact h8) (ev_same (hasP_eq _ _) ?_)
     rw [hasP_two hb (by omega) (by omega)]
     by_cases ht : two 47 42 (c :: r) = true
     ·refine ev_if ht (ev_same (comment_eq hb ht) ?_)
      cases h4 : comS (c :: r) with
      | none =>
       have es : stepS (c :: r) = (0, 14) := by rw [stepS, if_neg hc, if_neg h8, if_pos ht, h4]
       refine ev_if rfl (ev_now ?_)
       rw [skipS_stop (by rw [es]), es]; rfl
      | some n =>
       have es : stepS (c :: r) = (n, 0) := by rw [stepS, if_neg hc, if_neg h8, if_pos ht, h4]
       have hsl := stepS_le (c :: r)
       rw [es] at hsl
       have h1 : 1 ≤ n := by
        obtain ⟨m, hm2, rfl⟩ := Option.map_eq_some_iff.1 h4
        omega
       have e0 : optP 0 (some n) = (n : Int) := by show ((0 + n : Nat) : Int) = n; omega
       rw [e0]
       refine ev_else (by omega) ?_
       simp only at hsl
       refine ev_eq (next n h1 (by omega)) ?_
       have eg := skipS_go (l := c :: r) (by rw [es]; simp only; omega)
       rw [es] at eg
       rw [cut, eg]
       simp only [Prod.mk.injEq, and_true]
       omega
     ·have es : stepS (c :: r) = (0, 0) := by rw [stepS, if_neg hc, if_neg h8, if_neg ht]
      refine ev_else ht (ev_now ?_)
      rw [skipS_stop (by rw [es]), es]; rfl
  ·refine ev_if (by omega) ?_
   refine ev_eq (next _ (by omega) (by omega)) ?_
   rw [hrun, List.drop_drop]
   simp only [Prod.mk.injEq, and_true]
   omega
theorem skip_ev (l : List Int) (hl : Bytes l) (hn : l.length ≤ 1000000) : Ev (fun k => layout_Skip.f k l) (((skipS l).1 : Int), (skipS l).2) := by
 refine ev_eq (skip_loop l hl hn (l.length + 1) 0 (by omega) (by omega)) ?_
 simp
end Go.Proofs.YtklpephnbkoinaaDoor.P
namespace Go.Proofs.YtklpephnbkoinaaDoor.P
set_option linter.unusedSimpArgs false
set_option linter.unusedVariables false
open Go.RowKit Go.Proofs.YtklpephnbkoinaaDoor.P Go.Proofs.YtklpephnbkoinaaDoorW.PrintWords Go.Proofs.YtklpephnbkoinaaDoorW.PrintLast Go.Proofs.YtklpephnbkoinaaDoorW.PrintMore
theorem skipS_le (N : Nat) : ∀ l : List Int, l.length < N → (skipS l).1 ≤ l.length := by
 induction N with
 | zero => intro l h; omega
 | succ N ih =>
  intro l h
  have hs := stepS_le l
  by_cases h0 : (stepS l).1 = 0
  ·rw [skipS_stop h0]; exact hs
  ·have e := skipS_go h0
   have := ih (l.drop (stepS l).1) (by rw [List.length_drop]; omega)
   rw [List.length_drop] at this
   have e1 := congrArg Prod.fst e
   simp only at e1
   omega
/-- behind what is skipped nothing more is -/
theorem skipS_end (N : Nat) : ∀ l : List Int, l.length < N → stepS (l.drop (skipS l).1) = (0, (skipS l).2) := by
 induction N with
 | zero => intro l h; omega
 | succ N ih =>
  intro l h
  have hs := stepS_le l
  by_cases h0 : (stepS l).1 = 0
  ·rw [skipS_stop h0, h0, List.drop_zero, ← h0]
  ·have e := skipS_go h0
   have := ih (l.drop (stepS l).1) (by rw [List.length_drop]; omega)
   have e1 := congrArg Prod.fst e
   have e2 := congrArg Prod.snd e
   simp only at e1 e2
   rw [e1, e2, ← List.drop_drop]
   exact this
end Go.Proofs.YtklpephnbkoinaaDoor.P
namespace Go.Proofs.YtklpephnbkoinaaDoor.P
set_option linter.unusedSimpArgs false
set_option linter.unusedVariables false
open Go.RowKit Go.Proofs.YtklpephnbkoinaaDoorW.PrintWords Go.Proofs.YtklpephnbkoinaaDoorW.PrintLast Go.Proofs.YtklpephnbkoinaaDoorW.PrintMore
def uLo (c : Int) : Int := if c = 224 then 160 else if c = 240 then 144 else 128
def uHi (c : Int) : Int := if c = 237 then 159 else if c = 244 then 143 else 191
/-- how many bytes a sequence with a first byte has; 0: none -/
def uLong (c : Int) : Nat := if c < 128 then 1 else if c < 194 ∨ c > 244 then 0 else if c < 224 then 2 else if c < 240 then 3 else 4
/-- so many bytes more, the first one of them from lo to hi, the others 128 to 191 -/
def restOk : Nat → Int → Int → List Int → Bool
 | 0, _, _, _ => true
 | _ + 1, _, _, [] => false
 | n + 1, lo, hi, a :: t => decide (lo ≤ a ∧ a ≤ hi) && restOk n 128 191 t
/-- how many bytes the first sequence has, and whether it is one -/
def takeS : List Int → Int × Bool
 | [] => (0, false)
 | c :: r => if uLong c = 0 then (1, false) else if restOk (uLong c - 1) (uLo c) (uHi c) r then ((uLong c : Int), true) else (1, false)
theorem takeS_cons (c : Int) (r : List Int) : takeS (c :: r) = if uLong c = 0 then (1, false) else if restOk (uLong c - 1) (uLo c) (uHi c) r then ((uLong c : Int), true) else (1, false) := rfl
theorem restOk_cons (n : Nat) (lo hi a : Int) (t : List Int) : restOk (n + 1) lo hi (a :: t) = (decide (lo ≤ a ∧ a ≤ hi) && restOk n 128 191 t) := rfl
theorem restOk_short (n : Nat) : ∀ (lo hi : Int) (r : List Int), r.length < n → restOk n lo hi r = false := by
 induction n with
 | zero => intro _ _ r h; omega
 | succ n ih =>
  intro lo hi r h
  cases r with
  | nil => rfl
  | cons a t => rw [restOk_cons, ih _ _ t (by simp at h; omega)]; simp
def beh (c : Int) : Int × Int × Int := if c < 128 then (0, 0, 0) else if c < 194 ∨ c > 244 then (0, 0, -1) else (uLo c, uHi c, (uLong c : Int) - 1)
theorem behind_eq (k : Nat) (c : Int) : utf_behind.f (k + 1) c = some (beh c) := by
 unfold utf_behind.f beh uLo uHi uLong
 simp only [utf_behind.j0]
 by_cases h1 : c < 128
 ·simp [h1]
 by_cases h2 : c < 194
 ·simp [h1, h2]
 by_cases h3 : c > 244
 ·simp [h1, h2, h3]
 by_cases h4 : c < 224
 ·have : c ≠ 224 := by omega
  have : c ≠ 240 := by omega
  have : c ≠ 237 := by omega
  have : c ≠ 244 := by omega
  simp [*]
 by_cases h5 : c = 224
 ·subst h5; simp
 by_cases h6 : c = 237
 ·subst h6; simp
 by_cases h7 : c < 240
 ·have : c ≠ 240 := by omega
  have : c ≠ 244 := by omega
  simp [*]
 by_cases h8 : c = 240
 ·subst h8; simp
 by_cases h9 : c = 244
 ·subst h9; simp
 simp [*]
theorem w1 {i : Int} (h0 : -1 ≤ i) (h1 : i ≤ 9223372036854775806) : wrap64 (i + 1) = i + 1 := by unfold wrap64; omega
theorem wl0 (k : Nat) (l : List Int) (m i lo hi q : Int) (h : ¬ i < m) (h0 : -1 ≤ q) (h1 : q ≤ 100) : utf_Take.l0 (k + 1) l m i lo hi q = some (q + 1, true) := by
 simp only [utf_Take.l0]; rw [if_neg h, w1 h0 (by omega)]
theorem wl1 (k : Nat) (l : List Int) (m : Int) (i : Nat) (lo hi q : Int) (h : (i : Int) < m) (h2 : i + 1 < l.length) (h3 : i < 10) :
  utf_Take.l0 (k + 1) l m (i : Int) lo hi q = if lo ≤ l.getD (i + 1) 0 ∧ l.getD (i + 1) 0 ≤ hi then utf_Take.l0 k l m ((i + 1 : Nat) : Int) 128 191 q else some (1, false) := by
 have e : wrap64 ((i : Int) + 1) = ((i + 1 : Nat) : Int) := by rw [w1 (by omega) (by omega)]; omega
 simp only [utf_Take.l0]
 rw [if_pos h, e, if_pos (by omega), if_pos (by omega)]
 have er : rd l ((i + 1 : Nat) : Int) = l.getD (i + 1) 0 := rfl
 rw [er]
 by_cases a : l.getD (i + 1) 0 < lo
 ·rw [if_pos a, if_neg (by omega)]
 ·rw [if_neg a]
  by_cases b : l.getD (i + 1) 0 > hi
  ·rw [if_pos b, if_neg (by omega)]
  ·rw [if_neg b, if_pos (by omega)]
theorem wl (d : Nat) : ∀ (k : Nat) (l : List Int) (m : Int) (i : Nat) (lo hi q : Int), m = ((i + d : Nat) : Int) → d < k → i + d < l.length → i + d < 10 → -1 ≤ q → q ≤ 100 →
  utf_Take.l0 k l m (i : Int) lo hi q = some (if restOk d lo hi (l.drop (i + 1)) then (q + 1, true) else (1, false)) := by
 induction d with
 | zero =>
  intro k l m i lo hi q hm hk h1 h2 h3 h4
  obtain ⟨k, rfl⟩ : ∃ j, k = j + 1 := ⟨k - 1, by omega⟩
  rw [wl0 _ _ _ _ _ _ _ (by omega) h3 h4]
  rfl
 | succ d ih =>
  intro k l m i lo hi q hm hk h1 h2 h3 h4
  obtain ⟨k, rfl⟩ : ∃ j, k = j + 1 := ⟨k - 1, by omega⟩
  rw [wl1 _ _ _ _ _ _ _ (by omega) (by omega) (by omega), ih k l m (i + 1) 128 191 q (by omega) (by omega) (by omega) (by omega) h3 h4]
  rw [List.drop_eq_getElem_cons (i := i + 1) (by omega)]
  have e : l.getD (i + 1) 0 = l[i + 1] := by simp [List.getD_eq_getElem?_getD, List.getElem?_eq_getElem (show i + 1 < l.length by omega)]
  rw [e]
  rw [restOk_cons]
  by_cases A : lo ≤ l[i + 1] ∧ l[i + 1] ≤ hi
  ·rw [if_pos A, decide_eq_true A, Bool.true_and]
  ·rw [if_neg A, decide_eq_false A, Bool.false_and]; rfl
theorem uLong_le (c : Int) : uLong c ≤ 4 := by
 unfold uLong
 repeat' split
 all_goals omega
theorem take_ten (l : List Int) : utf_Take.f 10 l = some (takeS l) := by
 unfold utf_Take.f
 cases l with
 | nil => simp [takeS]
 | cons c r =>
  rw [if_neg (by simp; omega), if_pos (by simp)]
  have e0 : rd (c :: r) 0 = c := rfl
  rw [e0, behind_eq]
  simp only [Option.bind_some]
  have go : ∀ (lo hi : Int) (n : Nat), n < 4 → utf_Take.j0 10 (c :: r) (decide (((c :: r).length : Int) ≤ (n : Int))) lo hi (n : Int) = some (if restOk n lo hi r then ((n : Int) + 1, true) else (1, false)) := by
   intro lo hi n hn
   simp only [utf_Take.j0]
   by_cases hs : ((c :: r).length : Int) ≤ (n : Int)
   ·rw [if_pos (decide_eq_true hs), restOk_short n lo hi r (by simp at hs; omega)]
    rfl
   ·rw [if_neg (by rw [decide_eq_false hs]; simp)]
    exact wl n 9 (c :: r) (n : Int) 0 lo hi (n : Int) (by omega) (by omega) (by simp at hs ⊢; omega) (by omega) (by omega) (by omega)
  rw [takeS_cons]
  unfold beh
  by_cases h1 : c < 128
  ·have e : uLong c = 1 := by unfold uLong; rw [if_pos h1]
   rw [e, if_pos h1, if_neg (show ¬ (0 : Int) < 0 by omega)]
   exact go 0 0 0 (by omega)
  by_cases h2 : c < 194 ∨ c > 244
  ·have e : uLong c = 0 := by unfold uLong; rw [if_neg h1, if_pos h2]
   rw [e, if_neg h1, if_pos h2, if_pos (show (-1 : Int) < 0 by omega)]
   simp [utf_Take.j0]
  rw [if_neg h1, if_neg h2]
  have hL : uLong c ≠ 0 := by
   unfold uLong; rw [if_neg h1, if_neg h2]
   repeat' split
   all_goals omega
  obtain ⟨n, hn⟩ : ∃ n, uLong c = n + 1 := ⟨uLong c - 1, by omega⟩
  have hle := uLong_le c
  have e2 : ((n + 1 : Nat) : Int) - 1 = (n : Int) := by omega
  rw [hn, e2, if_neg (show ¬ (n : Int) < 0 by omega), if_neg (show ¬ n + 1 = 0 by omega), Nat.add_sub_cancel]
  exact go _ _ n (by omega)
theorem take_ev (l : List Int) : Ev (fun k => utf_Take.f k l) (takeS l) := Ev.of (fun k => utf_Take.mono l k) (take_ten l)
theorem restOk_len (n : Nat) : ∀ (lo hi : Int) (r : List Int), restOk n lo hi r = true → n ≤ r.length := by
 intro lo hi r h
 rcases Nat.lt_or_ge r.length n with h2 | h2
 ·rw [restOk_short n lo hi r h2] at h; cases h
 ·exact h2
theorem take_pos (c : Int) (r : List Int) : 1 ≤ (takeS (c :: r)).1 ∧ (takeS (c :: r)).1 ≤ ((c :: r).length : Int) ∧ (takeS (c :: r)).1 ≤ 4 ∧ ((takeS (c :: r)).2 = false → (takeS (c :: r)).1 = 1) := by
 have hle := uLong_le c
 simp only [takeS]
 by_cases h0 : uLong c = 0
 ·rw [if_pos h0]; simp; omega
 ·rw [if_neg h0]
  by_cases h1 : restOk (uLong c - 1) (uLo c) (uHi c) r = true
  ·have := restOk_len _ _ _ _ h1
   rw [if_pos h1]; simp; omega
  ·rw [if_neg h1]; simp; omega
end Go.Proofs.YtklpephnbkoinaaDoor.P
namespace Go.Proofs.YtklpephnbkoinaaDoor.P
set_option linter.unusedSimpArgs false
set_option linter.unusedVariables false
open Go.RowKit Go.Proofs.YtklpephnbkoinaaDoor.P Go.Proofs.YtklpephnbkoinaaDoorW.PrintWords Go.Proofs.YtklpephnbkoinaaDoorW.PrintLast Go.Proofs.YtklpephnbkoinaaDoorW.PrintMore
/-- what stands next between the quotes: what it says, how long it is; and 0: go on, -1: its end, else the error -/
def itemQ : List Int → List Int × Nat × Int
 | [] => ([], 0, 12)
 | c :: r =>
  if c = 39 then (if r.headD 0 = 39 then ([39], 2, 0) else ([], 1, -1))
  else if c = 92 then (if r.headD 0 = 92 ∨ r.headD 0 = 39 then ([r.headD 0], 2, 0) else if r.headD 0 = 110 then ([10], 2, 0) else ([], 0, 13))
  else if c = 10 then ([], 0, 12)
  else if c < 32 ∨ c = 127 then ([], 0, 11)
  else if (takeS (c :: r)).2 = true then ((c :: r).take (takeS (c :: r)).1.toNat, (takeS (c :: r)).1.toNat, 0) else ([], 0, 10)
theorem itemQ_le (s : List Int) : (itemQ s).2.1 ≤ s.length ∧ ((itemQ s).2.2 = 0 → 1 ≤ (itemQ s).2.1) ∧ (itemQ s).1.length ≤ (itemQ s).2.1 := by
 match s with
 | [] => simp [itemQ]
 | c :: r =>
  have hd : ∀ x : Int, x ≠ 0 → r.headD 0 = x → 1 ≤ r.length := by
   intro x hx h
   cases r with
   | nil => exact absurd h.symm hx
   | cons a t => simp
  rw [itemQ]
  by_cases h1 : c = 39
  ·rw [if_pos h1]
   by_cases h2 : r.headD 0 = 39
   ·have := hd 39 (by omega) h2
    rw [if_pos h2]; simp; omega
   ·rw [if_neg h2]; simp
  rw [if_neg h1]
  by_cases h2 : c = 92
  ·rw [if_pos h2]
   by_cases h3 : r.headD 0 = 92 ∨ r.headD 0 = 39
   ·have : 1 ≤ r.length := by rcases h3 with h3 | h3 <;> exact hd _ (by omega) h3
    rw [if_pos h3]; simp; omega
   rw [if_neg h3]
   by_cases h4 : r.headD 0 = 110
   ·have := hd 110 (by omega) h4
    rw [if_pos h4]; simp; omega
   ·rw [if_neg h4]; simp
  rw [if_neg h2]
  by_cases h3 : c = 10
  ·rw [if_pos h3]; simp
  rw [if_neg h3]
  by_cases h4 : c < 32 ∨ c = 127
  ·rw [if_pos h4]; simp
  rw [if_neg h4]
  by_cases h5 : (takeS (c :: r)).2 = true
  ·have := take_pos c r
   rw [if_pos h5]
   refine ⟨?_, fun _ => ?_, ?_⟩
   ·simp only; omega
   ·simp only; omega
   ·simp only [List.length_take]; omega
  ·rw [if_neg h5]; simp
/-- what is said up to the end, how much that is, and -1; or how much there is ahead of the error, and that -/
def textQ (s : List Int) : List Int × Nat × Int := if h : (itemQ s).2.2 = 0 then ((itemQ s).1 ++ (textQ (s.drop (itemQ s).2.1)).1, (itemQ s).2.1 + (textQ (s.drop (itemQ s).2.1)).2.1, (textQ (s.drop (itemQ s).2.1)).2.2) else itemQ s
termination_by s.length
decreasing_by all_goals (have := itemQ_le s; have := this.2.1 h; rw [List.length_drop]; omega)
theorem textQ_stop {s : List Int} (h : (itemQ s).2.2 ≠ 0) : textQ s = itemQ s := by rw [textQ, dif_neg h]
theorem textQ_go {s : List Int} (h : (itemQ s).2.2 = 0) : textQ s = ((itemQ s).1 ++ (textQ (s.drop (itemQ s).2.1)).1, (itemQ s).2.1 + (textQ (s.drop (itemQ s).2.1)).2.1, (textQ (s.drop (itemQ s).2.1)).2.2) := by rw [textQ, dif_pos h]
def resQ (acc : List Int) (p : Nat) (t : List Int × Nat × Int) : List Int × Int × Int := if t.2.2 = -1 then (acc ++ t.1, ((p + t.2.1 : Nat) : Int), 0) else ([], ((p + t.2.1 : Nat) : Int), t.2.2)
theorem resQ_go {acc s v : List Int} {p n : Nat} (h : itemQ s = (v, n, 0)) : resQ acc p (textQ s) = resQ (acc ++ v) (p + n) (textQ (s.drop n)) := by
 rw [textQ_go (by rw [h]), h]
 simp only [resQ, List.append_assoc, Nat.add_assoc]
theorem resQ_end {acc s : List Int} {p n : Nat} (h : itemQ s = ([], n, -1)) : resQ acc p (textQ s) = (acc, ((p + n : Nat) : Int), 0) := by
 rw [textQ_stop (by rw [h]; show (-1 : Int) ≠ 0; decide), h]
 simp [resQ]
theorem resQ_bad {acc s : List Int} {p : Nat} {e : Int} (h : itemQ s = ([], 0, e)) (h0 : e ≠ 0) (h1 : e ≠ -1) : resQ acc p (textQ s) = ([], (p : Int), e) := by
 rw [textQ_stop (by rw [h]; exact h0), h]
 simp only [resQ]
 rw [if_neg h1]; rfl
/-- a quoted atom at the beginning: what it says, how long it is, the error -/
def quoteS (l : List Int) : List Int × Int × Int := if l.headD 0 = 39 then resQ [] 1 (textQ (l.drop 1)) else ([], 0, 2)
theorem rd_next {l : List Int} {p : Nat} {c : Int} {r : List Int} (hm : l.drop p = c :: r) (hr : r ≠ []) : rd l ((p + 1 : Nat) : Int) = r.headD 0 := by
 show l.getD (p + 1) 0 = _
 have h1 : l.drop (p + 1) = r := by rw [← List.drop_drop, hm]; rfl
 cases r with
 | nil => exact absurd rfl hr
 | cons a t =>
  have : l[p + 1]? = some a := by rw [← List.head?_drop, h1]; rfl
  simp [List.getD_eq_getElem?_getD, this]
theorem rd_here {l : List Int} {p : Nat} {c : Int} {r : List Int} (hm : l.drop p = c :: r) : rd l (p : Int) = c := by
 show l.getD p 0 = _
 have : l[p]? = some c := by rw [← List.head?_drop, hm]; rfl
 simp [List.getD_eq_getElem?_getD, this]
theorem quote_loop (l : List Int) (hl : Bytes l) (hn : l.length ≤ 1000000) (N : Nat) : ∀ (p : Nat) (acc : List Int), l.length - p < N → p ≤ l.length → acc.length ≤ p →
  Ev (fun k => quote_Take.l0 k l acc (p : Int)) (resQ acc p (textQ (l.drop p))) := by
 induction N with
 | zero => intro p _ h; omega
 | succ N ih =>
  intro p acc hN hp ha
  have hml : (l.drop p).length = l.length - p := List.length_drop
  have w1 : wrap64 ((p : Int) + 1) = ((p + 1 : Nat) : Int) := by rw [w64 (by omega) (by omega)]; omega
  have w2 : wrap64 ((p : Int) + 2) = ((p + 2 : Nat) : Int) := by rw [w64 (by omega) (by omega)]; omega
  refine Ev.step (fun k => quote_Take.l0.eq_2 ..) ?_
  match hm : l.drop p with
  | [] =>
   rw [hm] at hml
   simp only [List.length_nil] at hml
   refine ev_else (by omega) (ev_now ?_)
   rw [resQ_bad (s := []) (e := 12) rfl (by decide) (by decide)]
  | c :: r =>
   rw [hm] at hml
   simp only [List.length_cons] at hml
   have hle := itemQ_le (c :: r)
   have cut : ∀ n : Nat, l.drop (p + n) = (c :: r).drop n := fun n => by rw [← hm, List.drop_drop]
   have key : ∀ {R : List Int × Int × Int}, Ev (fun k => quote_Take.j2 k l acc (p : Int) (r.headD 0)) R → Ev (fun k => if (p : Int) < (l.length : Int) then (if (wrap64 ((p : Int) + 1)) < (l.length : Int) then (if 0 ≤ (wrap64 ((p : Int) + 1)) then (quote_Take.j2 k l acc (p : Int) (rd l (wrap64 ((p : Int) + 1)))) else (none)) else (quote_Take.j2 k l acc (p : Int) 0)) else (some (([] : List Int), (p : Int), 12))) R := by
    intro R h
    refine ev_if (by omega) ?_
    rw [w1]
    cases hr : r with
    | nil =>
     rw [hr] at h hml
     simp only [List.length_nil] at hml
     exact ev_else (by omega) h
    | cons a t =>
     have e := rd_next hm (by rw [hr]; simp)
     rw [e]
     rw [hr] at hml
     simp only [List.length_cons] at hml
     exact ev_if (by omega) (ev_if (by omega) h)
   refine key ?_
   generalize hd : r.headD 0 = d
   have hgo : ∀ (v : List Int) (n : Nat), itemQ (c :: r) = (v, n, 0) → Ev (fun k => quote_Take.l0 k l (acc ++ v) ((p + n : Nat) : Int)) (resQ acc p (textQ (c :: r))) := by
    intro v n h
    rw [h] at hle
    simp only [List.length_cons] at hle
    have h1 := hle.2.1 trivial
    rw [resQ_go h, ← cut]
    refine ih (p + n) (acc ++ v) (by omega) (by omega) ?_
    rw [List.length_append]
    omega
   refine Ev.step (fun k => quote_Take.j2.eq_2 ..) (ev_if (by omega) (ev_if (by omega) ?_))
   rw [rd_here hm]
   by_cases h39 : c = 39
   ·refine ev_if h39 (Ev.step (fun k => quote_Take.j3.eq_2 ..) ?_)
    by_cases hd9 : d = 39
    ·have hi : itemQ (c :: r) = ([39], 2, 0) := by rw [itemQ, if_pos h39, if_pos (by rw [hd]; exact hd9)]
     refine ev_else (by simp [hd9]) (ev_if h39 (Ev.step (fun k => quote_Take.j4.eq_2 ..) (ev_if (by simp [h39]) (ev_if (by omega) ?_))))
     rw [w2, hd9]
     exact hgo _ _ hi
    ·have hi : itemQ (c :: r) = ([], 1, -1) := by rw [itemQ, if_pos h39, if_neg (by rw [hd]; exact hd9)]
     refine ev_if (by simp [hd9]) (ev_now ?_)
     rw [resQ_end hi, w1]
   ·refine ev_else h39 (Ev.step (fun k => quote_Take.j3.eq_2 ..) (ev_else (by simp) (ev_else h39 ?_)))
    by_cases h92 : c = 92
    ·refine ev_if h92 ?_
     by_cases hq : d = 92 ∨ d = 39
     ·have hi : itemQ (c :: r) = ([d], 2, 0) := by rw [itemQ, if_neg h39, if_pos h92, hd, if_pos hq]
      have fin : Ev (fun k => quote_Take.j4 k l acc (p : Int) d c true) (resQ acc p (textQ (c :: r))) := by
       refine Ev.step (fun k => quote_Take.j4.eq_2 ..) (ev_if rfl (ev_if (by omega) ?_))
       rw [w2]
       exact hgo _ _ hi
      by_cases h2 : d = 92
      ·exact ev_if h2 fin
      ·refine ev_else h2 ?_
       rw [show (d == 39) = true by simp; omega]
       exact fin
     ·have n1 : d ≠ 92 := fun h => hq (.inl h)
      have n2 : d ≠ 39 := fun h => hq (.inr h)
      refine ev_else n1 (Ev.step (fun k => quote_Take.j4.eq_2 ..) (ev_else (by simp [n2]) (ev_if h92 (Ev.step (fun k => quote_Take.j5.eq_2 ..) ?_))))
      by_cases hn10 : d = 110
      ·have hi : itemQ (c :: r) = ([10], 2, 0) := by rw [itemQ, if_neg h39, if_pos h92, hd, if_neg hq, if_pos hn10]
       refine ev_if (by simp [hn10]) (ev_if (by omega) ?_)
       rw [w2]
       exact hgo _ _ hi
      ·have hi : itemQ (c :: r) = ([], 0, 13) := by rw [itemQ, if_neg h39, if_pos h92, hd, if_neg hq, if_neg hn10]
       refine ev_else (by simp [hn10]) (ev_if h92 (ev_now ?_))
       rw [resQ_bad hi (by decide) (by decide)]
    ·refine ev_else h92 (Ev.step (fun k => quote_Take.j4.eq_2 ..) (ev_else (by simp) (ev_else h92 (Ev.step (fun k => quote_Take.j5.eq_2 ..) (ev_else (by simp) (ev_else h92 ?_))))))
     by_cases h10 : c = 10
     ·have hi : itemQ (c :: r) = ([], 0, 12) := by rw [itemQ, if_neg h39, if_neg h92, if_pos h10]
      refine ev_if h10 (ev_now ?_)
      rw [resQ_bad hi (by decide) (by decide)]
     ·refine ev_else h10 ?_
      by_cases hc : c < 32 ∨ c = 127
      ·have hi : itemQ (c :: r) = ([], 0, 11) := by rw [itemQ, if_neg h39, if_neg h92, if_neg h10, if_pos hc]
       have fin : Ev (fun k => quote_Take.j6 k l acc (p : Int) true) (resQ acc p (textQ (c :: r))) := by
        refine Ev.step (fun k => quote_Take.j6.eq_2 ..) (ev_if rfl (ev_now ?_))
        rw [resQ_bad hi (by decide) (by decide)]
       by_cases h32 : c < 32
       ·exact ev_if h32 fin
       ·refine ev_else h32 ?_
        rw [show (c == 127) = true by simp; omega]
        exact fin
      ·have n1 : ¬ c < 32 := fun h => hc (.inl h)
       have n2 : c ≠ 127 := fun h => hc (.inr h)
       refine ev_else n1 (Ev.step (fun k => quote_Take.j6.eq_2 ..) (ev_else (by simp [n2]) (ev_if (by omega) (ev_if (by omega) ?_))))
       rw [show l.drop ((p : Int)).toNat = c :: r from hm]
       refine Ev.bind (take_ev _) ?_
       have tp := take_pos c r
       simp only [List.length_cons] at tp
       by_cases ht : (takeS (c :: r)).2 = true
       ·have hi : itemQ (c :: r) = ((c :: r).take (takeS (c :: r)).1.toNat, (takeS (c :: r)).1.toNat, 0) := by rw [itemQ, if_neg h39, if_neg h92, if_neg h10, if_neg hc, if_pos ht]
        generalize (takeS (c :: r)).1 = n at tp hi ⊢
        have wn : wrap64 ((p : Int) + n) = ((p + n.toNat : Nat) : Int) := by rw [w64 (by omega) (by omega)]; omega
        rw [wn]
        have et : (l.take (((p + n.toNat : Nat) : Int)).toNat).drop ((p : Int)).toNat = (c :: r).take n.toNat := by
         show (l.take (p + n.toNat)).drop p = _
         rw [List.drop_take, hm, Nat.add_sub_cancel_left]
        rw [et]
        refine ev_if ht (ev_if (by omega) (ev_if (by omega) (ev_if ?_ ?_)))
        ·rw [List.length_take]; simp only [List.length_cons]; omega
        ·exact hgo _ _ hi
       ·have hi : itemQ (c :: r) = ([], 0, 10) := by rw [itemQ, if_neg h39, if_neg h92, if_neg h10, if_neg hc, if_neg ht]
        refine ev_else ht (ev_now ?_)
        rw [resQ_bad hi (by decide) (by decide)]
theorem quote_ev (l : List Int) (hl : Bytes l) (hn : l.length ≤ 1000000) : Ev (fun k => quote_Take.f k l) (quoteS l) := by
 unfold quote_Take.f quoteS
 cases l with
 | nil => exact ev_if rfl (Ev.step (fun k => quote_Take.j0.eq_2 ..) (ev_if rfl (ev_now rfl)))
 | cons c r =>
  refine ev_else (by simp; omega) (ev_if (by simp) ?_)
  rw [show rd (c :: r) 0 = c from rfl, show (c :: r).headD 0 = c from rfl]
  refine Ev.step (fun k => quote_Take.j0.eq_2 ..) ?_
  by_cases h : c = 39
  ·rw [if_pos h]
   exact ev_else (by simp [h]) (quote_loop _ hl hn ((c :: r).length + 1) 1 [] (by omega) (by simp) (by simp))
  ·rw [if_neg h]
   exact ev_if (by simp [h]) (ev_now rfl)
end Go.Proofs.YtklpephnbkoinaaDoor.P
namespace Go.Proofs.YtklpephnbkoinaaDoor.P
set_option linter.unusedSimpArgs false
set_option linter.unusedVariables false
open Go.RowKit Go.Proofs.YtklpephnbkoinaaDoor.P Go.Proofs.YtklpephnbkoinaaDoorW.PrintWords Go.Proofs.YtklpephnbkoinaaDoorW.PrintLast Go.Proofs.YtklpephnbkoinaaDoorW.PrintMore
/-- how much of a name stands next -/
def stepN : List Int → Nat
 | [] => 0
 | c :: r => if (takeS (c :: r)).2 = true ∧ ((takeS (c :: r)).1 = 1 → nameOf c = true) then (takeS (c :: r)).1.toNat else 0
theorem stepN_le (s : List Int) : stepN s ≤ s.length := by
 match s with
 | [] => exact Nat.le_refl _
 | c :: r =>
  have := take_pos c r
  rw [stepN]
  split
  ·omega
  ·omega
/-- how much of a name stands at the beginning -/
def nameS (s : List Int) : Nat := if h : stepN s = 0 then 0 else stepN s + nameS (s.drop (stepN s))
termination_by s.length
decreasing_by all_goals (have := stepN_le s; rw [List.length_drop]; omega)
theorem nameS_stop {s : List Int} (h : stepN s = 0) : nameS s = 0 := by rw [nameS, dif_pos h]
theorem nameS_go {s : List Int} (h : stepN s ≠ 0) : nameS s = stepN s + nameS (s.drop (stepN s)) := by rw [nameS, dif_neg h]
theorem nameS_le (N : Nat) : ∀ s : List Int, s.length < N → nameS s ≤ s.length := by
 induction N with
 | zero => intro s h; omega
 | succ N ih =>
  intro s h
  have hs := stepN_le s
  by_cases h0 : stepN s = 0
  ·rw [nameS_stop h0]; omega
  ·have e := nameS_go h0
   have := ih (s.drop (stepN s)) (by rw [List.length_drop]; omega)
   rw [List.length_drop] at this
   omega
theorem name_loop (l : List Int) (hl : Bytes l) (hn : l.length ≤ 1000000) (N : Nat) : ∀ p : Nat, l.length - p < N → p ≤ l.length → Ev (fun k => token_name.l0 k l (p : Int)) ((p + nameS (l.drop p) : Nat) : Int) := by
 induction N with
 | zero => intro p h; omega
 | succ N ih =>
  intro p hN hp
  have hml : (l.drop p).length = l.length - p := List.length_drop
  refine Ev.step (fun k => token_name.l0.eq_2 ..) ?_
  match hm : l.drop p with
  | [] =>
   rw [hm] at hml
   simp only [List.length_nil] at hml
   refine ev_else (by omega) (ev_now ?_)
   rw [nameS_stop rfl]
   omega
  | c :: r =>
   rw [hm] at hml
   simp only [List.length_cons] at hml
   have cut : ∀ n : Nat, l.drop (p + n) = (c :: r).drop n := fun n => by rw [← hm, List.drop_drop]
   have tp := take_pos c r
   simp only [List.length_cons] at tp
   have hsl := stepN_le (c :: r)
   simp only [List.length_cons] at hsl
   refine ev_if (by omega) (ev_if (by omega) (ev_if (by omega) ?_))
   (try rw [show l.drop ((p : Int)).toNat = c :: r from hm])
   rw [rd_here hm]
   refine Ev.bind (take_ev _) ?_
   have stop : stepN (c :: r) = 0 → ((p : Nat) : Int) = ((p + nameS (c :: r) : Nat) : Int) := fun h => by rw [nameS_stop h]; rfl
   have go : (takeS (c :: r)).2 = true → ((takeS (c :: r)).1 = 1 → nameOf c = true) → Ev (fun k => token_name.l0 k l (wrap64 ((p : Int) + (takeS (c :: r)).1))) ((p + nameS (c :: r) : Nat) : Int) := by
    intro h1 h2
    have es : stepN (c :: r) = (takeS (c :: r)).1.toNat := by rw [stepN, if_pos ⟨h1, h2⟩]
    have e := nameS_go (s := c :: r) (by omega)
    have wn : wrap64 ((p : Int) + (takeS (c :: r)).1) = ((p + (takeS (c :: r)).1.toNat : Nat) : Int) := by rw [w64 (by omega) (by omega)]; omega
    rw [wn]
    refine ev_eq (ih (p + (takeS (c :: r)).1.toNat) (by omega) (by omega)) ?_
    rw [cut, e, es]
    omega
   by_cases h1 : (takeS (c :: r)).2 = true
   ·refine ev_if h1 ?_
    by_cases h2 : (takeS (c :: r)).1 = 1
    ·refine ev_if h2 (ev_same (name_eq c) ?_)
     by_cases h3 : nameOf c = true
     ·exact ev_if h3 (go h1 (fun _ => h3))
     ·exact ev_else h3 (ev_now (stop (by rw [stepN, if_neg (fun h => h3 (h.2 h2))])))
    ·exact ev_else h2 (go h1 (fun h => absurd h h2))
   ·exact ev_else h1 (ev_now (stop (by rw [stepN, if_neg (fun h => h1 h.1)])))
theorem name_ev (l : List Int) (hl : Bytes l) (hn : l.length ≤ 1000000) : Ev (fun k => token_name.f k l) (nameS l : Int) := by
 refine ev_eq (name_loop l hl hn (l.length + 1) 0 (by omega) (by omega)) ?_
 simp
abbrev Scan := Int × Int × ByteArray × Int
theorem named1_ev (l : List Int) (hl : Bytes l) (hn : l.length ≤ 1000000) (kd : Int) : Ev (fun k => token_named1.f k kd l) (kd, (nameS l : Int), strOfNums (l.take (nameS l)), (0 : Int)) := by
 unfold token_named1.f
 have := nameS_le (l.length + 1) l (by omega)
 exact Ev.bind (name_ev l hl hn) (ev_if (by omega) (ev_if (by omega) (ev_now rfl)))
/-- does a dot, with this behind it, end a clause -/
def endsS (l : List Int) : Bool := match l with
 | [] => true
 | c :: _ => classOf c == 1 || classOf c == 8
/-- symbols -/
def symbolS (l : List Int) : Scan := (if l.take (runS l 5) = [46] ∧ endsS (l.drop (runS l 5)) = true then 7 else 2, (runS l 5 : Int), strOfNums (l.take (runS l 5)), 0)
theorem str_dot {m : List Int} (hm : Bytes m) : ((strOfNums m).toList = ([46] : List UInt8)) ↔ m = [46] := by
 rw [strOf_list]
 match m with
 | [] => simp
 | [c] =>
  have hc := hm c (by simp)
  constructor
  ·intro h
   simp only [List.map_cons, List.map_nil, List.cons.injEq, and_true] at h
   rw [u8_inj hc (y := 46) (by omega) h]
  ·intro h
   rw [List.cons.injEq] at h
   rw [h.1]; rfl
 | c :: d :: r => simp
theorem symbol_ev (l : List Int) (hl : Bytes l) (hn : l.length ≤ 1000000) : Ev (fun k => token_symbol.f k l) (symbolS l) := by
 unfold token_symbol.f symbolS
 have hle := runS_le l 5
 refine Ev.bind (run_ev l 5 (by omega)) (ev_if (by omega) (ev_if (by omega) ?_))
 rw [show ((runS l 5 : Int)).toNat = runS l 5 from rfl]
 by_cases h : l.take (runS l 5) = [46]
 ·refine ev_if ((str_dot (hl.take _)).2 h) ?_
  match hm : l.drop (runS l 5) with
  | [] =>
   have hml : (l.drop (runS l 5)).length = l.length - runS l 5 := List.length_drop
   rw [hm] at hml
   simp only [List.length_nil] at hml
   refine ev_if (by omega) (ev_now ?_)
   rw [if_pos ⟨h, rfl⟩]
  | c :: r =>
   have hml : (l.drop (runS l 5)).length = l.length - runS l 5 := List.length_drop
   rw [hm] at hml
   simp only [List.length_cons] at hml
   refine ev_else (by omega) (ev_if (by omega) ?_)
   rw [rd_here hm]
   refine ev_same (class_of c) ?_
   by_cases h1 : classOf c = 1
   ·refine ev_if h1 (ev_now ?_)
    rw [if_pos ⟨h, by simp [endsS, h1]⟩]
   ·refine ev_else h1 (ev_same (class_of c) ?_)
    by_cases h8 : classOf c = 8
    ·refine ev_if h8 (ev_now ?_)
     rw [if_pos ⟨h, by simp [endsS, h8]⟩]
    ·refine ev_else h8 (ev_now ?_)
     rw [if_neg (by simp [endsS, h1, h8])]
 ·refine ev_else (fun h2 => h ((str_dot (hl.take _)).1 h2)) (ev_now ?_)
  rw [if_neg (fun h2 => h h2.1)]
def numberS (l : List Int) : Scan := (4, (takeD l).2.1, strOfNums (l.take (takeD l).2.1.toNat), (takeD l).2.2)
theorem takeD_le (l : List Int) : (takeD l).2.1 = (runS l 4 : Int) := by
 unfold takeD
 by_cases h : runS l 4 = 0
 ·rw [if_pos h, h]; rfl
 ·rw [if_neg h]
  cases numS 0 (headD l) <;> rfl
theorem number_ev (l : List Int) (hl : Bytes l) (hn : l.length ≤ 1000000) : Ev (fun k => token_number.f k l) (numberS l) := by
 unfold token_number.f numberS
 have hle := runS_le l 4
 have e := takeD_le l
 exact Ev.bind (dtake_ev l hl hn) (ev_if (by omega) (ev_if (by omega) (ev_now rfl)))
def quotedS (l : List Int) : Scan := (5, (quoteS l).2.1, strOfNums (quoteS l).1, (quoteS l).2.2)
theorem quoted_ev (l : List Int) (hl : Bytes l) (hn : l.length ≤ 1000000) : Ev (fun k => token_quoted.f k l) (quotedS l) := by
 unfold token_quoted.f quotedS
 exact Ev.bind (quote_ev l hl hn) (ev_now rfl)
def highS (l : List Int) : Scan := if (takeS l).2 = true then (1, (nameS l : Int), strOfNums (l.take (nameS l)), 0) else (0, 1, ⟨#[]⟩, 10)
theorem high_ev (l : List Int) (hl : Bytes l) (hn : l.length ≤ 1000000) : Ev (fun k => token_high.f k l) (highS l) := by
 unfold token_high.f highS
 refine Ev.bind (take_ev l) ?_
 by_cases h : (takeS l).2 = true
 ·rw [if_pos h]; exact ev_if h (named1_ev l hl hn 1)
 ·rw [if_neg h]; exact ev_else h (ev_now rfl)
/-- a token at the beginning, by its first byte's class: as_ it is scanned -/
def scanS (c : Int) (l : List Int) : Scan :=
 if c = 2 then (1, (nameS l : Int), strOfNums (l.take (nameS l)), 0) else if c = 3 then (3, (nameS l : Int), strOfNums (l.take (nameS l)), 0) else if c = 9 then highS l else if c = 5 then symbolS l else if c = 4 then numberS l
 else if c = 7 then quotedS l else if c = 6 then (6, 1, strOfNums (l.take 1), 0) else (0, 1, ⟨#[]⟩, 11)
theorem class_all : ∀ n : Nat, n < 256 → 0 ≤ classOf (n : Int) ∧ classOf (n : Int) ≤ 9 := by decide +kernel
theorem class_range {c : Int} (h : 0 ≤ c ∧ c < 256) : 0 ≤ classOf c ∧ classOf c ≤ 9 := byte_all (p := fun c => 0 ≤ classOf c ∧ classOf c ≤ 9) class_all h
theorem scan_ev (l : List Int) (h0 : l ≠ []) (hl : Bytes l) (hn : l.length ≤ 1000000) (c : Int) (hc : 0 ≤ c ∧ c ≤ 9) : Ev (fun k => token_scan.f k c l) (scanS c l) := by
 unfold token_scan.f scanS
 by_cases h2 : c = 2
 ·rw [if_pos h2]; exact ev_if h2 (named1_ev l hl hn 1)
 rw [if_neg h2]; refine ev_else h2 ?_
 by_cases h3 : c = 3
 ·rw [if_pos h3]; exact ev_if h3 (named1_ev l hl hn 3)
 rw [if_neg h3]; refine ev_else h3 ?_
 by_cases h9 : c = 9
 ·rw [if_pos h9]; exact ev_if h9 (high_ev l hl hn)
 rw [if_neg h9]; refine ev_else h9 ?_
 by_cases h5 : c = 5
 ·rw [if_pos h5]; exact ev_if h5 (symbol_ev l hl hn)
 rw [if_neg h5]; refine ev_else h5 ?_
 by_cases h4 : c = 4
 ·rw [if_pos h4]; exact ev_if h4 (number_ev l hl hn)
 rw [if_neg h4]; refine ev_else h4 ?_
 by_cases h7 : c = 7
 ·rw [if_pos h7]; exact ev_if h7 (quoted_ev l hl hn)
 rw [if_neg h7]; refine ev_else h7 ?_
 have h1 : 1 ≤ (l.length : Int) := by
  cases l with
  | nil => exact absurd rfl h0
  | cons a t => simp only [List.length_cons]; omega
 by_cases h6 : c = 6
 ·simp only [if_pos h6]
  unfold token_solo.f
  exact ev_if h1 (ev_now rfl)
 simp only [if_neg h6]
 have ho : Ev (fun _ => token_other.f l) ((0, 1, ⟨#[]⟩, 11) : Scan) := Ev.now _
 by_cases e0 : c = 0
 ·simp only [if_pos e0]; exact ho
 simp only [if_neg e0]
 by_cases e1 : c = 1
 ·simp only [if_pos e1]; exact ho
 simp only [if_neg e1]
 have e8 : c = 8 := by omega
 simp only [if_pos e8]; exact ho
/-- a token at the beginning, as_ it is told -/
def tokS (l : List Int) : Scan := if (scanS (classOf (l.headD 0)) l).2.2.2 = 0 then scanS (classOf (l.headD 0)) l else (8, (scanS (classOf (l.headD 0)) l).2.1, ⟨#[]⟩, (scanS (classOf (l.headD 0)) l).2.2.2)
abbrev Tok := Int × Int × Int × ByteArray × Int × Bool
def noTok : Tok := (0, 0, 0, ⟨#[]⟩, 0, false)
/-- the first token behind p -/
def behindS (l : List Int) (p : Nat) : Tok :=
 if (skipS (l.drop p)).2 ≠ 0 then (8, ((p + (skipS (l.drop p)).1 : Nat) : Int), (l.length : Int), ⟨#[]⟩, (skipS (l.drop p)).2, true)
 else if l.drop (p + (skipS (l.drop p)).1) = [] then noTok
 else ((tokS (l.drop (p + (skipS (l.drop p)).1))).1, ((p + (skipS (l.drop p)).1 : Nat) : Int), ((p + (skipS (l.drop p)).1 : Nat) : Int) + (tokS (l.drop (p + (skipS (l.drop p)).1))).2.1, (tokS (l.drop (p + (skipS (l.drop p)).1))).2.2.1, (tokS (l.drop (p + (skipS (l.drop p)).1))).2.2.2, true)
def nextS (l : List Int) (a : Int) : Tok := if a < 0 ∨ a > (l.length : Int) then noTok else behindS l a.toNat
theorem resQ_le {acc s : List Int} {p : Nat} : (resQ acc p (textQ s)).2.1 = ((p + (textQ s).2.1 : Nat) : Int) := by
 unfold resQ
 split <;> rfl
theorem textQ_le (N : Nat) : ∀ s : List Int, s.length < N → (textQ s).2.1 ≤ s.length := by
 induction N with
 | zero => intro s h; omega
 | succ N ih =>
  intro s h
  have hs := itemQ_le s
  by_cases h0 : (itemQ s).2.2 = 0
  ·have e := textQ_go h0
   have h1 := hs.2.1 h0
   have := ih (s.drop (itemQ s).2.1) (by rw [List.length_drop]; omega)
   rw [List.length_drop] at this
   have e1 := congrArg (fun t => t.2.1) e
   simp only at e1
   omega
  ·rw [textQ_stop h0]; exact hs.1
theorem quoteS_le (l : List Int) : 0 ≤ (quoteS l).2.1 ∧ (quoteS l).2.1 ≤ (l.length : Int) := by
 unfold quoteS
 by_cases h : l.headD 0 = 39
 ·rw [if_pos h, resQ_le]
  cases l with
  | nil => exact absurd h (by decide)
  | cons c r =>
   have := textQ_le (r.length + 1) r (by omega)
   simp only [List.drop_succ_cons, List.drop_zero, List.length_cons]
   omega
 ·rw [if_neg h]; simp
theorem scanS_le (c : Int) {l : List Int} (h : l ≠ []) : 0 ≤ (scanS c l).2.1 ∧ (scanS c l).2.1 ≤ (l.length : Int) := by
 have hn := nameS_le (l.length + 1) l (by omega)
 have h1 : 1 ≤ l.length := by
  cases l with
  | nil => exact absurd rfl h
  | cons a t => simp
 unfold scanS
 split
 ·simp only; omega
 split
 ·simp only; omega
 split
 ·unfold highS
  split
  ·simp only; omega
  ·simp only; omega
 split
 ·have := runS_le l 5
  unfold symbolS; simp only; omega
 split
 ·have := runS_le l 4
  have e := takeD_le l
  unfold numberS; simp only; omega
 split
 ·have := quoteS_le l
  unfold quotedS; simp only; omega
 split
 ·simp only; omega
 ·simp only; omega
theorem next_ev (l : List Int) (hl : Bytes l) (hn : l.length ≤ 1000000) (a : Int) : Ev (fun k => token_Next.f k l a) (nextS l a) := by
 unfold token_Next.f nextS
 by_cases h1 : a < 0
 ·rw [if_pos (.inl h1)]; exact ev_if h1 (ev_now rfl)
 refine ev_else h1 ?_
 by_cases h2 : a > (l.length : Int)
 ·rw [if_pos (.inr h2)]; exact ev_if h2 (ev_now rfl)
 refine ev_else h2 ?_
 rw [if_neg (fun h => h.elim h1 h2)]
 obtain ⟨p, rfl⟩ : ∃ p : Nat, a = (p : Int) := ⟨a.toNat, by omega⟩
 rw [show ((p : Int)).toNat = p from rfl]
 have hd := hl.drop p
 have hml : (l.drop p).length = l.length - p := List.length_drop
 refine Ev.bind (skip_ev _ hd (by omega)) ?_
 have hsl := skipS_le ((l.drop p).length + 1) (l.drop p) (by omega)
 unfold behindS
 generalize hS : skipS (l.drop p) = S at hsl
 obtain ⟨n, e⟩ := S
 simp only at hsl ⊢
 have wn : wrap64 ((p : Int) + (n : Int)) = ((p + n : Nat) : Int) := by rw [w64 (by omega) (by omega)]; omega
 rw [wn]
 unfold token_Next.g
 by_cases he : e = 0
 ·refine ev_if he ?_
  rw [if_neg (by simp [he])]
  have hml2 : (l.drop (p + n)).length = l.length - (p + n) := List.length_drop
  match hm : l.drop (p + n) with
  | [] =>
   rw [hm] at hml2
   simp only [List.length_nil] at hml2
   rw [if_pos rfl]
   exact ev_if (by omega) (ev_now rfl)
  | c :: r =>
   rw [hm] at hml2
   simp only [List.length_cons] at hml2
   rw [if_neg (by simp)]
   refine ev_else (by omega) (ev_if (by omega) (ev_if (by omega) ?_))
   rw [rd_here hm]
   have hb : Bytes (c :: r) := by rw [← hm]; exact hl.drop _
   refine ev_same (class_of c) (Ev.bind (scan_ev (c :: r) (by simp) hb (by simp only [List.length_cons]; omega) (classOf c) (class_range hb.cons.1)) ?_)
   have hsz := scanS_le (classOf c) (l := c :: r) (by simp)
   simp only [List.length_cons] at hsz
   have ws : wrap64 (((p + n : Nat) : Int) + (scanS (classOf c) (c :: r)).2.1) = ((p + n : Nat) : Int) + (scanS (classOf c) (c :: r)).2.1 := by rw [w64 (by omega) (by omega)]
   rw [ws]
   unfold tokS
   rw [show (c :: r).headD 0 = c from rfl]
   by_cases h0 : (scanS (classOf c) (c :: r)).2.2.2 = 0
   ·simp only [if_pos h0]
    exact ev_now (by rw [h0])
   ·simp only [if_neg h0]
    exact ev_now rfl
 ·rw [if_pos he]
  exact ev_else he (ev_now rfl)
end Go.Proofs.YtklpephnbkoinaaDoor.P
namespace Go.Proofs.YtklpephnbkoinaaDoor.P
set_option linter.unusedSimpArgs false
set_option linter.unusedVariables false
open Go.RowKit Go.Proofs.YtklpephnbkoinaaDoor.P Go.Proofs.YtklpephnbkoinaaDoorW.PrintWords Go.Proofs.YtklpephnbkoinaaDoorW.PrintLast Go.Proofs.YtklpephnbkoinaaDoorW.PrintMore
theorem flow_all : ∀ n : Nat, n < 256 → nameOf (n : Int) = true → (n : Int) < 128 := by decide +kernel
theorem fname_low {c : Int} (h : 0 ≤ c ∧ c < 256) : nameOf c = true → c < 128 := byte_all (p := fun c => nameOf c = true → c < 128) flow_all h
theorem fhigh_all : ∀ n : Nat, n < 256 → classOf (n : Int) = 9 → 128 ≤ (n : Int) := by decide +kernel
theorem fclass_high {c : Int} (h : 0 ≤ c ∧ c < 256) : classOf c = 9 → 128 ≤ c := byte_all (p := fun c => classOf c = 9 → 128 ≤ c) fhigh_all h
theorem fquote_all : ∀ n : Nat, n < 256 → classOf (n : Int) = 7 → (n : Int) = 39 := by decide +kernel
theorem fclass_quote {c : Int} (h : 0 ≤ c ∧ c < 256) : classOf c = 7 → c = 39 := byte_all (p := fun c => classOf c = 7 → c = 39) fquote_all h
theorem ftake_low {c : Int} (h : c < 128) (r : List Int) : takeS (c :: r) = (1, true) := by
 have e : uLong c = 1 := by unfold uLong; rw [if_pos h]
 rw [takeS_cons, e]; rfl
theorem ftake_high {c : Int} (h : 128 ≤ c) {r : List Int} (ho : (takeS (c :: r)).2 = true) : (takeS (c :: r)).1 > 1 := by
 rw [takeS_cons] at ho ⊢
 by_cases h0 : uLong c = 0
 ·rw [if_pos h0] at ho; cases ho
 rw [if_neg h0] at ho ⊢
 by_cases h1 : restOk (uLong c - 1) (uLo c) (uHi c) r = true
 ·rw [if_pos h1]
  have : uLong c ≠ 1 := by
   unfold uLong
   rw [if_neg (by omega)]
   split
   ·omega
   split
   ·omega
   split <;> omega
  simp only
  omega
 ·rw [if_neg h1] at ho; cases ho
theorem stepN_name {c : Int} (hc : 0 ≤ c ∧ c < 256) (r : List Int) (h : nameOf c = true) : stepN (c :: r) = 1 := by
 rw [stepN, ftake_low (fname_low hc h), if_pos ⟨rfl, fun _ => h⟩]; rfl
/-- what the errors are -/
theorem textQ_code (N : Nat) : ∀ s : List Int, s.length < N → (textQ s).2.2 = -1 ∨ (10 ≤ (textQ s).2.2 ∧ (textQ s).2.2 ≤ 13) := by
 induction N with
 | zero => intro s h; omega
 | succ N ih =>
  intro s h
  have hs := itemQ_le s
  by_cases h0 : (itemQ s).2.2 = 0
  ·have e := textQ_go h0
   have h1 := hs.2.1 h0
   have e2 := congrArg (fun t => t.2.2) e
   simp only at e2
   rw [e2]
   exact ih (s.drop (itemQ s).2.1) (by rw [List.length_drop]; omega)
  ·rw [textQ_stop h0]
   match s with
   | [] => right; simp [itemQ]
   | c :: r =>
    rw [itemQ] at h0 ⊢
    repeat' split
    all_goals simp_all
/-- The seven. -/
theorem tok_cases (c : Int) (r : List Int) (hb : Bytes (c :: r)) :
  (tokS (c :: r) = (1, (nameS (c :: r) : Int), strOfNums ((c :: r).take (nameS (c :: r))), 0) ∧ (classOf c = 2 ∨ classOf c = 9) ∧ 1 ≤ nameS (c :: r)) ∨
  (tokS (c :: r) = (3, (nameS (c :: r) : Int), strOfNums ((c :: r).take (nameS (c :: r))), 0) ∧ classOf c = 3 ∧ 1 ≤ nameS (c :: r)) ∨
  (tokS (c :: r) = symbolS (c :: r) ∧ classOf c = 5 ∧ 1 ≤ runS (c :: r) 5) ∨
  (tokS (c :: r) = (4, (runS (c :: r) 4 : Int), strOfNums ((c :: r).take (runS (c :: r) 4)), 0) ∧ classOf c = 4 ∧ 1 ≤ runS (c :: r) 4) ∨
  (∃ tx, tokS (c :: r) = (5, ((1 + (textQ r).2.1 : Nat) : Int), tx, 0) ∧ c = 39 ∧ classOf c = 7 ∧ (textQ r).2.2 = -1) ∨
  (tokS (c :: r) = (6, 1, strOfNums ((c :: r).take 1), 0) ∧ classOf c = 6) ∨
  (∃ (n : Nat) (e : Int), tokS (c :: r) = (8, (n : Int), ⟨#[]⟩, e) ∧ e ≠ 0 ∧ 1 ≤ n ∧ n ≤ (c :: r).length) := by
 have hcb := hb.cons.1
 have hh : (c :: r).headD 0 = c := rfl
 have good : ∀ {kd sz : Int} {tx : ByteArray}, scanS (classOf c) (c :: r) = (kd, sz, tx, 0) → tokS (c :: r) = (kd, sz, tx, 0) := by
  intro kd sz tx h
  unfold tokS; rw [hh, h]; rfl
 have bad : ∀ {kd sz e : Int} {tx : ByteArray}, scanS (classOf c) (c :: r) = (kd, sz, tx, e) → e ≠ 0 → tokS (c :: r) = (8, sz, ⟨#[]⟩, e) := by
  intro kd sz e tx h he
  unfold tokS; rw [hh, h]; simp only; rw [if_neg he]
 have one : ∀ {s : List Int}, s = c :: r → stepN s ≠ 0 → 1 ≤ nameS s := by
  intro s _ h
  have e := nameS_go h
  omega
 by_cases h2 : classOf c = 2
 ·left
  refine ⟨good (by rw [scanS, if_pos h2]), .inl h2, one rfl ?_⟩
  rw [stepN_name hcb r (by simp [nameOf, h2])]; omega
 by_cases h9o : classOf c = 9 ∧ (takeS (c :: r)).2 = true
 ·left
  have hgt := ftake_high (fclass_high hcb h9o.1) h9o.2
  refine ⟨good (by rw [scanS, if_neg h2, if_neg (by omega), if_pos h9o.1, highS, if_pos h9o.2]), .inr h9o.1, one rfl ?_⟩
  rw [stepN, if_pos ⟨h9o.2, fun h => by omega⟩]
  omega
 right
 by_cases h3 : classOf c = 3
 ·left
  refine ⟨good (by rw [scanS, if_neg h2, if_pos h3]), h3, one rfl ?_⟩
  rw [stepN_name hcb r (by simp [nameOf, h3])]; omega
 by_cases h9 : classOf c = 9
 ·by_cases ho : (takeS (c :: r)).2 = true
  ·exact absurd ⟨h9, ho⟩ h9o
  ·right; right; right; right; right
   exact ⟨1, 10, bad (by rw [scanS, if_neg h2, if_neg h3, if_pos h9, highS, if_neg ho]; rfl) (by decide), by decide, by omega, by simp⟩
 right
 by_cases h5 : classOf c = 5
 ·left
  refine ⟨?_, h5, ?_⟩
  ·have e : scanS (classOf c) (c :: r) = symbolS (c :: r) := by rw [scanS, if_neg h2, if_neg h3, if_neg h9, if_pos h5]
   unfold tokS
   rw [hh, e]; rfl
  ·rw [runS_cons, if_pos h5]; omega
 right
 have hr4 : classOf c = 4 → 1 ≤ runS (c :: r) 4 := fun h => by rw [runS_cons, if_pos h]; omega
 by_cases h4 : classOf c = 4
 ·have e : scanS (classOf c) (c :: r) = numberS (c :: r) := by rw [scanS, if_neg h2, if_neg h3, if_neg h9, if_neg h5, if_pos h4]
  have e1 := takeD_le (c :: r)
  have hle := runS_le (c :: r) 4
  by_cases he : (takeD (c :: r)).2.2 = 0
  ·left
   refine ⟨good (e.trans ?_), h4, hr4 h4⟩
   unfold numberS; rw [e1, he]; rfl
  ·right; right; right
   refine ⟨runS (c :: r) 4, (takeD (c :: r)).2.2, bad (kd := 4) (tx := strOfNums ((c :: r).take ((runS (c :: r) 4 : Int)).toNat)) (e.trans ?_) he, he, hr4 h4, hle⟩
   unfold numberS; rw [e1]
 right
 by_cases h7 : classOf c = 7
 ·have c39 := fclass_quote hcb h7
  have e : scanS (classOf c) (c :: r) = quotedS (c :: r) := by rw [scanS, if_neg h2, if_neg h3, if_neg h9, if_neg h5, if_neg h4, if_pos h7]
  have eq : quoteS (c :: r) = resQ [] 1 (textQ r) := by unfold quoteS; rw [hh, if_pos c39]; rfl
  have hq := textQ_code (r.length + 1) r (by omega)
  have hl := textQ_le (r.length + 1) r (by omega)
  by_cases he : (textQ r).2.2 = -1
  ·left
   refine ⟨strOfNums ([] ++ (textQ r).1), good (e.trans ?_), c39, h7, he⟩
   unfold quotedS; rw [eq]; unfold resQ; rw [if_pos he]
  ·right; right
   refine ⟨1 + (textQ r).2.1, (textQ r).2.2, bad (kd := 5) (tx := strOfNums []) (e.trans ?_) (by omega), by omega, by omega, by simp only [List.length_cons]; omega⟩
   unfold quotedS; rw [eq]; unfold resQ; rw [if_neg he]
 right
 by_cases h6 : classOf c = 6
 ·left
  exact ⟨good (by rw [scanS, if_neg h2, if_neg h3, if_neg h9, if_neg h5, if_neg h4, if_neg h7, if_pos h6]), h6⟩
 ·right
  exact ⟨1, 11, bad (by rw [scanS, if_neg h2, if_neg h3, if_neg h9, if_neg h5, if_neg h4, if_neg h7, if_neg h6]; rfl) (by decide), by decide, by omega, by simp⟩
end Go.Proofs.YtklpephnbkoinaaDoor.P
namespace Go.Proofs.YtklpephnbkoinaaDoor.P
set_option linter.unusedSimpArgs false
set_option linter.unusedVariables false
open Go.RowKit Go.Proofs.YtklpephnbkoinaaDoor.P Go.Proofs.YtklpephnbkoinaaDoorW.PrintWords Go.Proofs.YtklpephnbkoinaaDoorW.PrintLast Go.Proofs.YtklpephnbkoinaaDoorW.PrintMore
theorem lapp {a b : List Int} (h : Bytes a) (h2 : Bytes b) : Bytes (a ++ b) := fun x hx => by
 rcases List.mem_append.1 hx with h1 | h1
 ·exact h x h1
 ·exact h2 x h1
abbrev TokR := S39
theorem TokR.same {x y : TokR} (h0 : x.f0 = y.f0) (h1 : x.f1 = y.f1) (h2 : x.f2 = y.f2) (h3 : x.f3 = y.f3) (h4 : x.f4 = y.f4) : x = y := by
 obtain ⟨a, b, c, d, e⟩ := x
 obtain ⟨a', b', c', d', e'⟩ := y
 simp only at h0 h1 h2 h3 h4
 rw [h0, h1, h2, h3, h4]
def shiftT (n : Nat) (t : TokR) : TokR := ⟨t.f0, t.f1 + (n : Int), t.f2 + (n : Int), t.f3, t.f4⟩
theorem shiftT_zero (t : TokR) : shiftT 0 t = t := TokR.same rfl (by show t.f1 + ((0 : Nat) : Int) = t.f1; omega) (by show t.f2 + ((0 : Nat) : Int) = t.f2; omega) rfl rfl
theorem shiftT_two (m n : Nat) (t : TokR) : shiftT m (shiftT n t) = shiftT (m + n) t := TokR.same rfl (by show t.f1 + (n : Int) + (m : Int) = t.f1 + ((m + n : Nat) : Int); omega) (by show t.f2 + (n : Int) + (m : Int) = t.f2 + ((m + n : Nat) : Int); omega) rfl rfl
theorem map_shift (m n : Nat) (l : List TokR) : (l.map (shiftT n)).map (shiftT m) = l.map (shiftT (m + n)) := by rw [List.map_map]; congr 1; funext t; exact shiftT_two m n t
theorem map_zero (l : List TokR) : l.map (shiftT 0) = l := by
 have : shiftT 0 = id := by funext t; exact shiftT_zero t
 rw [this, List.map_id]
/-- the place behind the layout, and the token there; nothing: there is none -/
def headT (s : List Int) : Option (Nat × TokR) :=
 if (skipS s).2 ≠ 0 then some (s.length, ⟨8, ((skipS s).1 : Int), (s.length : Int), ⟨#[]⟩, (skipS s).2⟩)
 else if s.drop (skipS s).1 = [] then none
 else some ((skipS s).1 + (tokS (s.drop (skipS s).1)).2.1.toNat, ⟨(tokS (s.drop (skipS s).1)).1, ((skipS s).1 : Int), ((skipS s).1 : Int) + (tokS (s.drop (skipS s).1)).2.1, (tokS (s.drop (skipS s).1)).2.2.1, (tokS (s.drop (skipS s).1)).2.2.2⟩)
theorem tokS_size (l : List Int) : (tokS l).2.1 = (scanS (classOf (l.headD 0)) l).2.1 := by
 unfold tokS
 split <;> rfl
theorem tok_size {s : List Int} (hb : Bytes s) (h : s ≠ []) : 1 ≤ (tokS s).2.1 ∧ (tokS s).2.1 ≤ (s.length : Int) := by
 have hle := scanS_le (classOf (s.headD 0)) h
 rw [← tokS_size] at hle
 refine ⟨?_, hle.2⟩
 match s, h with
 | c :: r, _ =>
  rcases tok_cases c r hb with ⟨e, _, h1⟩ | ⟨e, _, h1⟩ | ⟨e, _, h1⟩ | ⟨e, _, h1⟩ | ⟨tx, e, _⟩ | ⟨e, _⟩ | ⟨n, e', e, _, h1, _⟩
  ·rw [e]; simp only; omega
  ·rw [e]; simp only; omega
  ·rw [e]; unfold symbolS; simp only; omega
  ·rw [e]; simp only; omega
  ·rw [e]; simp only; omega
  ·rw [e]; simp
  ·rw [e]; simp only; omega
theorem skip_bad {s : List Int} (h : (skipS s).2 ≠ 0) : (skipS s).1 < s.length := by
 have h1 := skipS_end (s.length + 1) s (Nat.lt_succ_self _)
 have h2 := skipS_le (s.length + 1) s (Nat.lt_succ_self _)
 rcases Nat.lt_or_ge (skipS s).1 s.length with h3 | h3
 ·exact h3
 ·rw [List.drop_of_length_le h3] at h1
  have : (0 : Int) = (skipS s).2 := congrArg Prod.snd h1
  exact absurd this.symm h
/-- a token's places -/
theorem headT_bd {s : List Int} (hb : Bytes s) {n : Nat} {t : TokR} (h : headT s = some (n, t)) : 1 ≤ n ∧ n ≤ s.length ∧ t.f1 = ((skipS s).1 : Int) ∧ t.f2 = (n : Int) ∧ t.f1 < t.f2 := by
 have hle := skipS_le (s.length + 1) s (Nat.lt_succ_self _)
 unfold headT at h
 by_cases h1 : (skipS s).2 ≠ 0
 ·rw [if_pos h1] at h
  have := skip_bad h1
  simp only [Option.some.injEq, Prod.mk.injEq] at h
  obtain ⟨rfl, rfl⟩ := h
  refine ⟨by omega, Nat.le_refl _, rfl, rfl, ?_⟩
  simp only
  omega
 ·rw [if_neg h1] at h
  by_cases h2 : s.drop (skipS s).1 = []
  ·rw [if_pos h2] at h; cases h
  ·rw [if_neg h2] at h
   have hs := tok_size (hb.drop (skipS s).1) h2
   have hp : 0 < (s.drop (skipS s).1).length := List.length_pos_iff.2 h2
   rw [List.length_drop] at hs hp
   simp only [Option.some.injEq, Prod.mk.injEq] at h
   obtain ⟨rfl, rfl⟩ := h
   simp only
   generalize (tokS (s.drop (skipS s).1)).2.1 = z at hs
   generalize (skipS s).1 = y at hs hle hp
   exact ⟨by omega, by omega, trivial, by omega, by omega⟩
/-- all tokens -/
def lexS (s : List Int) : List TokR := match headT s with
 | none => []
 | some (n, t) => if h : 1 ≤ n ∧ n ≤ s.length then t :: (lexS (s.drop n)).map (shiftT n) else []
termination_by s.length
decreasing_by rw [List.length_drop]; omega
theorem lexS_none {s : List Int} (h : headT s = none) : lexS s = [] := by rw [lexS, h]
theorem lexS_some {s : List Int} (hb : Bytes s) {n : Nat} {t : TokR} (h : headT s = some (n, t)) : lexS s = t :: (lexS (s.drop n)).map (shiftT n) := by
 have hd := headT_bd hb h
 rw [lexS, h]
 simp only
 rw [dif_pos ⟨hd.1, hd.2.1⟩]
/-- what token.Next tells at a place -/
theorem next_head (l : List Int) (p : Nat) (hp : p ≤ l.length) : nextS l (p : Int) = match headT (l.drop p) with
  | none => noTok
  | some (n, t) => (t.f0, t.f1 + (p : Int), t.f2 + (p : Int), t.f3, t.f4, true) := by
 have b1 : nextS l (p : Int) = behindS l p := by
  unfold nextS
  rw [if_neg (fun h => by omega)]; rfl
 rw [b1]
 unfold behindS headT
 have hml : (l.drop p).length = l.length - p := List.length_drop
 by_cases h1 : (skipS (l.drop p)).2 ≠ 0
 ·rw [if_pos h1, if_pos h1]
  simp only [Prod.mk.injEq, true_and, and_true]
  omega
 ·rw [if_neg h1, if_neg h1, List.drop_drop]
  by_cases h2 : l.drop (p + (skipS (l.drop p)).1) = []
  ·rw [if_pos h2, if_pos h2]
  ·rw [if_neg h2, if_neg h2]
   simp only [Prod.mk.injEq, true_and, and_true]
   omega
theorem lexAll_loop (l : List Int) (hl : Bytes l) (hn : l.length ≤ 1000000) (N : Nat) : ∀ (p : Nat) (acc : List TokR), l.length - p < N → p ≤ l.length → acc.length ≤ p →
  Ev (fun k => lex_All.l0 k l acc (p : Int)) (acc ++ (lexS (l.drop p)).map (shiftT p)) := by
 induction N with
 | zero => intro p acc h; omega
 | succ N ih =>
  intro p acc hN hp ha
  refine Ev.step (fun k => lex_All.l0.eq_2 ..) (Ev.bind (next_ev l hl hn (p : Int)) ?_)
  rw [next_head l p hp]
  cases hh : headT (l.drop p) with
  | none =>
   rw [lexS_none hh]
   exact ev_else (by simp [noTok]) (ev_now (by simp))
  | some q =>
   obtain ⟨n, t⟩ := q
   have hb := headT_bd (hl.drop p) hh
   rw [List.length_drop] at hb
   rw [lexS_some (hl.drop p) hh, List.drop_drop]
   refine ev_if rfl (ev_if (by omega) ?_)
   have e2 : t.f2 + (p : Int) = ((p + n : Nat) : Int) := by omega
   simp only
   rw [e2]
   refine ev_eq (ih (p + n) _ (by omega) (by omega) (by simp; omega)) ?_
   rw [List.append_assoc, List.singleton_append, List.map_cons, map_shift]
   congr 2
   exact TokR.same rfl rfl (by show ((p + n : Nat) : Int) = t.f2 + (p : Int); omega) rfl rfl
theorem lexAll_ev (l : List Int) (hl : Bytes l) (hn : l.length ≤ 1000000) : Ev (fun k => lex_All.f k l) (lexS l) := by
 have h := lexAll_loop l hl hn (l.length + 1) 0 [] (by omega) (by omega) (by simp)
 rw [List.drop_zero, List.nil_append, map_zero] at h
 exact h
theorem lexS_len (N : Nat) : ∀ s : List Int, s.length < N → Bytes s → (lexS s).length ≤ s.length := by
 induction N with
 | zero => intro s h; omega
 | succ N ih =>
  intro s hN hb
  cases hh : headT s with
  | none => rw [lexS_none hh]; simp
  | some q =>
   obtain ⟨n, t⟩ := q
   have hd := headT_bd hb hh
   have := ih (s.drop n) (by rw [List.length_drop]; omega) (hb.drop n)
   rw [List.length_drop] at this
   rw [lexS_some hb hh]
   simp only [List.length_cons, List.length_map]
   omega
end Go.Proofs.YtklpephnbkoinaaDoor.P
namespace Go.Proofs.YtklpephnbkoinaaDoor.P
set_option linter.unusedSimpArgs false
set_option linter.unusedVariables false
open Go.RowKit Go.Proofs.YtklpephnbkoinaaDoor.P Go.Proofs.YtklpephnbkoinaaDoorW.PrintWords Go.Proofs.YtklpephnbkoinaaDoorW.PrintLast Go.Proofs.YtklpephnbkoinaaDoorW.PrintMore
abbrev PieceR := S36
/-- each part ends with an end (kind 7), or with the row -/
def partsS : List TokR → List (List TokR)
 | [] => []
 | t :: r => if t.f0 = 7 then [t] :: partsS r else match partsS r with
  | [] => [[t]]
  | p :: ps => (t :: p) :: ps
theorem parts_end {t : TokR} (h : t.f0 = 7) (r : List TokR) : partsS (t :: r) = [t] :: partsS r := by rw [partsS, if_pos h]
theorem parts_nil {l : List TokR} (h : partsS l = []) : l = [] := by
 cases l with
 | nil => rfl
 | cons t r =>
  rw [partsS] at h
  split at h
  ·cases h
  ·split at h <;> cases h
theorem parts_go {t : TokR} (h : t.f0 ≠ 7) {r : List TokR} {p : List TokR} {ps : List (List TokR)} (hp : partsS r = p :: ps) : partsS (t :: r) = (t :: p) :: ps := by rw [partsS, if_neg h, hp]
theorem parts_flat (l : List TokR) : (partsS l).flatten = l := by
 induction l with
 | nil => rfl
 | cons t r ih =>
  by_cases h : t.f0 = 7
  ·rw [parts_end h, List.flatten_cons, ih]; rfl
  ·cases hp : partsS r with
   | nil => rw [parts_nil hp, partsS, if_neg h]; rfl
   | cons p ps =>
    rw [parts_go h hp, List.flatten_cons, List.cons_append, ← List.flatten_cons, ← hp, ih]
theorem parts_ne (l : List TokR) : ∀ p ∈ partsS l, p ≠ [] := by
 induction l with
 | nil => intro p h; cases h
 | cons t r ih =>
  intro p h
  by_cases h7 : t.f0 = 7
  ·rw [parts_end h7] at h
   rcases List.mem_cons.1 h with rfl | h
   ·simp
   ·exact ih p h
  ·cases hp : partsS r with
   | nil =>
    rw [partsS, if_neg h7, hp] at h
    rcases List.mem_cons.1 h with rfl | h
    ·simp
    ·cases h
   | cons q qs =>
    rw [parts_go h7 hp] at h
    rcases List.mem_cons.1 h with rfl | h
    ·simp
    ·exact ih p (by rw [hp]; exact List.mem_cons_of_mem _ h)
/-- where the first end stands -/
def endAt (l : List TokR) : Option Nat := l.findIdx? fun t => t.f0 == 7
theorem endAt_cons (t : TokR) (r : List TokR) : endAt (t :: r) = if t.f0 = 7 then some 0 else (endAt r).map (· + 1) := by
 unfold endAt
 rw [List.findIdx?_cons]
 by_cases h : t.f0 = 7
 ·rw [if_pos h, if_pos (by simp [h])]
 ·rw [if_neg h, if_neg (by simp [h])]
theorem endAt_lt : ∀ {l : List TokR} {j : Nat}, endAt l = some j → j < l.length
 | [], j, h => by cases h
 | t :: r, j, h => by
  rw [endAt_cons] at h
  by_cases h7 : t.f0 = 7
  ·rw [if_pos h7] at h; obtain rfl := Option.some.inj h; simp
  ·rw [if_neg h7] at h
   obtain ⟨j', hj, rfl⟩ := Option.map_eq_some_iff.1 h
   have := endAt_lt hj
   simp; omega
theorem parts_none : ∀ {l : List TokR}, l ≠ [] → endAt l = none → partsS l = [l]
 | [], h, _ => absurd rfl h
 | [t], _, h => by
  rw [endAt_cons] at h
  by_cases h7 : t.f0 = 7
  ·rw [if_pos h7] at h; cases h
  ·rw [partsS, if_neg h7]; rfl
 | t :: u :: r, _, h => by
  rw [endAt_cons] at h
  by_cases h7 : t.f0 = 7
  ·rw [if_pos h7] at h; cases h
  ·rw [if_neg h7] at h
   have h2 : endAt (u :: r) = none := by cases hh : endAt (u :: r) with | none => rfl | some j => rw [hh] at h; cases h
   exact parts_go h7 (parts_none (by simp) h2)
theorem parts_some : ∀ {l : List TokR} {j : Nat}, endAt l = some j → partsS l = l.take (j + 1) :: partsS (l.drop (j + 1))
 | [], j, h => by cases h
 | t :: r, j, h => by
  rw [endAt_cons] at h
  by_cases h7 : t.f0 = 7
  ·rw [if_pos h7] at h; obtain rfl := Option.some.inj h
   rw [parts_end h7]; rfl
  ·rw [if_neg h7] at h
   obtain ⟨j', hj, rfl⟩ := Option.map_eq_some_iff.1 h
   rw [parts_go h7 (parts_some hj)]
   rfl
theorem rdT_get (l : List TokR) (i : Nat) (h : i < l.length) : rd_T39 l (i : Int) = l[i] := by
 show l.getD i _ = l[i]
 rw [List.getD_eq_getElem?_getD, List.getElem?_eq_getElem h]; rfl
theorem rdT_drop {l r : List TokR} {t : TokR} {i : Nat} (h : l.drop i = t :: r) : i < l.length ∧ rd_T39 l (i : Int) = t ∧ l.drop (i + 1) = r := by
 have hl : (l.drop i).length = r.length + 1 := by rw [h]; rfl
 rw [List.length_drop] at hl
 have h2 : l[i]? = some t := by rw [← List.head?_drop, h]; rfl
 refine ⟨by omega, ?_, by rw [← List.drop_drop, h]; rfl⟩
 show l.getD i _ = t
 rw [List.getD_eq_getElem?_getD, h2]; rfl
theorem w64n {i : Nat} (h : i ≤ 1000000000) : wrap64 ((i : Int) + 1) = ((i + 1 : Nat) : Int) := by rw [w64 (by omega) (by omega)]; omega
/-- slices.IndexFunc of the ends -/
theorem index_loop (l : List TokR) (hn : l.length ≤ 1000000) (r : List TokR) : ∀ i : Nat, l.drop i = r → i ≤ l.length →
  Ev (fun k => api_Token_20.l0 k l (l.length : Int) (i : Int)) (match endAt r with | none => -1 | some j => ((i + j : Nat) : Int)) := by
 induction r with
 | nil =>
  intro i h hi
  have : l.length - i = 0 := by have := congrArg List.length h; simpa using this
  exact Ev.step (fun k => api_Token_20.l0.eq_2 ..) (ev_else (by omega) (Ev.now _))
 | cons t r ih =>
  intro i h hi
  obtain ⟨h1, h2, h3⟩ := rdT_drop h
  refine Ev.step (fun k => api_Token_20.l0.eq_2 ..) (ev_if (by omega) (ev_if (by omega) (ev_if (by omega) ?_)))
  rw [h2]
  refine ev_same (y := (t.f0 == 7)) rfl ?_
  rw [endAt_cons]
  by_cases h7 : t.f0 = 7
  ·rw [if_pos h7]
   exact ev_if (by simpa using h7) (ev_now (by simp))
  ·rw [if_neg h7]
   refine ev_else (by simpa using h7) ?_
   rw [w64n (by omega)]
   refine ev_eq (ih (i + 1) h3 (by omega)) ?_
   cases endAt r with
   | none => rfl
   | some j => show ((i + 1 + j : Nat) : Int) = ((i + (j + 1) : Nat) : Int); omega
theorem index_ev (l : List TokR) (hn : l.length ≤ 1000000) : Ev (fun k => api_Token_20.f k l) (match endAt l with | none => -1 | some j => (j : Int)) := by
 refine ev_eq (index_loop l hn l 0 rfl (Nat.zero_le _)) ?_
 cases endAt l with
 | none => rfl
 | some j => show ((0 + j : Nat) : Int) = (j : Int); omega
theorem parts_loop (N : Nat) : ∀ (x : List TokR) (acc : List (List TokR)), x.length < N → x.length ≤ 1000000 → acc.length + x.length ≤ 1000000 →
  Ev (fun k => api_Token_16.l0 k x acc) (acc ++ partsS x) := by
 induction N with
 | zero => intro x acc h; omega
 | succ N ih =>
  intro x acc hN hx ha
  by_cases h0 : x = []
  ·subst h0
   exact Ev.step (fun k => api_Token_16.l0.eq_2 ..) (ev_else (by simp) (ev_now (by simp [partsS])))
  have hp : 0 < x.length := List.length_pos_iff.2 h0
  refine Ev.step (fun k => api_Token_16.l0.eq_2 ..) (ev_if (by omega) (Ev.bind (index_ev x hx) ?_))
  cases he : endAt x with
  | none =>
   refine ev_if (show wrap64 (-1 + 1) = 0 from by rw [w64 (by omega) (by omega)]; rfl) (ev_if (by omega) (ev_if (by omega) (ev_if (by omega) ?_)))
   rw [show ((x.length : Int)).toNat = x.length from rfl, List.drop_length, List.take_length, parts_none h0 he]
   exact ev_eq (ih [] _ (by simp; omega) (by simp) (by simp; omega)) (by simp [partsS])
  | some j =>
   have hj := endAt_lt he
   simp only
   rw [w64n (by omega)]
   refine ev_else (by omega) (ev_if (by omega) (ev_if (by omega) (ev_if (by omega) ?_)))
   rw [show (((j + 1 : Nat) : Int)).toNat = j + 1 from rfl, parts_some he]
   exact ev_eq (ih (x.drop (j + 1)) _ (by rw [List.length_drop]; omega) (by rw [List.length_drop]; omega) (by rw [List.length_drop]; simp; omega)) (by simp)
theorem parts_ev (x : List TokR) (hx : x.length ≤ 1000000) : Ev (fun k => api_Token_16.f k x) (partsS x) :=
 ev_eq (parts_loop _ x [] (Nat.lt_succ_self _) hx (by simpa using hx)) (by simp)
def pieceOf (n : Nat) (p : List TokR) : PieceR := ⟨(p.headD z39).f1, (p.getLastD z39).f2, (n : Int), p⟩
def piecesG : Nat → List (List TokR) → List PieceR
 | _, [] => []
 | n, p :: ps => pieceOf n p :: piecesG (n + p.length) ps
def piecesT (l : List TokR) : List PieceR := piecesG 0 (partsS l)
def piecesS (s : List Int) : List PieceR := piecesT (lexS s)
theorem rdL_drop {l r : List (List TokR)} {t : List TokR} {i : Nat} (h : l.drop i = t :: r) : i < l.length ∧ rd_L4 l (i : Int) = t ∧ l.drop (i + 1) = r := by
 have hl : (l.drop i).length = r.length + 1 := by rw [h]; rfl
 rw [List.length_drop] at hl
 have h2 : l[i]? = some t := by rw [← List.head?_drop, h]; rfl
 refine ⟨by omega, ?_, by rw [← List.drop_drop, h]; rfl⟩
 show l.getD i _ = t
 rw [List.getD_eq_getElem?_getD, h2]; rfl
theorem rdT_head {p : List TokR} (h : p ≠ []) : rd_T39 p 0 = p.headD z39 := by
 cases p with
 | nil => exact absurd rfl h
 | cons t r => rfl
theorem rdT_last {p : List TokR} (h : p ≠ []) (hn : p.length ≤ 1000000) : rd_T39 p (wrap64 ((p.length : Int) - 1)) = p.getLastD z39 := by
 have hp : 0 < p.length := List.length_pos_iff.2 h
 rw [w64 (by omega) (by omega), show (p.length : Int) - 1 = ((p.length - 1 : Nat) : Int) by omega, rdT_get p (p.length - 1) (by omega)]
 cases p with
 | nil => exact absurd rfl h
 | cons t r => rw [List.getLastD_cons, List.getElem_length_sub_one_eq_getLast, List.getLast_eq_getLastD]
theorem pieces_loop (ps : List (List TokR)) (hne : ∀ p ∈ ps, p ≠ []) (hs : ps.flatten.length ≤ 1000000) (r : List (List TokR)) : ∀ (i n : Nat) (acc : List PieceR), ps.drop i = r → i ≤ ps.length → acc.length ≤ i → n + r.flatten.length ≤ 1000000 → ps.length ≤ 1000000 →
  Ev (fun k => split_Pieces.l0 k acc (n : Int) ps (ps.length : Int) (i : Int)) (acc ++ piecesG n r) := by
 induction r with
 | nil =>
  intro i n acc h hi _ _ hl
  have : ps.length - i = 0 := by have := congrArg List.length h; simpa using this
  exact Ev.step (fun k => split_Pieces.l0.eq_2 ..) (ev_else (by omega) (ev_now (by simp [piecesG])))
 | cons p r ih =>
  intro i n acc h hi ha hn hl
  obtain ⟨h1, h2, h3⟩ := rdL_drop h
  have hp : p ≠ [] := hne p (by rw [← List.take_append_drop i ps, h]; simp)
  have hp0 : 0 < p.length := List.length_pos_iff.2 hp
  rw [List.flatten_cons, List.length_append] at hn
  refine Ev.step (fun k => split_Pieces.l0.eq_2 ..) (ev_if (by omega) (ev_if (by omega) (ev_if (by omega) ?_)))
  rw [h2]
  refine ev_if (by omega) (ev_if (by rw [w64 (by omega) (by omega)]; omega) (ev_if (by rw [w64 (by omega) (by omega)]; omega) (ev_if (by omega) ?_)))
  rw [rdT_head hp, rdT_last hp (by omega), w64n (by omega), w64 (i := (n : Int) + (p.length : Int)) (by omega) (by omega), show (n : Int) + (p.length : Int) = ((n + p.length : Nat) : Int) by omega]
  refine ev_eq (ih (i + 1) (n + p.length) _ h3 (by omega) (by simp; omega) (by omega) hl) ?_
  rw [piecesG, List.append_assoc]; rfl
theorem parts_len (l : List TokR) : (partsS l).length ≤ l.length := by
 induction l with
 | nil => exact Nat.le_refl _
 | cons t r ih =>
  by_cases h : t.f0 = 7
  ·rw [parts_end h]; simp; omega
  ·cases hp : partsS r with
   | nil => rw [partsS, if_neg h, hp]; simp
   | cons p ps => rw [parts_go h hp]; rw [hp] at ih; simp at ih ⊢; omega
theorem pieces_ev (s : List Int) (hb : Bytes s) (hn : s.length ≤ 1000000) : Ev (fun k => split_Pieces.f k s) (piecesS s) := by
 have hl := lexS_len _ s (Nat.lt_succ_self _) hb
 unfold split_Pieces.f
 refine Ev.bind (lexAll_ev s hb hn) (Ev.bind (parts_ev _ (by omega)) ?_)
 have hp := parts_len (lexS s)
 refine ev_eq (pieces_loop (partsS (lexS s)) (parts_ne _) (by rw [parts_flat]; omega) (partsS (lexS s)) 0 0 [] rfl (Nat.zero_le _) (Nat.le_refl _) (by rw [parts_flat]; omega) (by omega)) ?_
 rw [List.nil_append]; rfl
end Go.Proofs.YtklpephnbkoinaaDoor.P
namespace Go.Proofs.YtklpephnbkoinaaDoor.P
set_option linter.unusedSimpArgs false
set_option linter.unusedVariables false
open Go.RowKit Go.Proofs.YtklpephnbkoinaaDoorW.PrintWords Go.Proofs.YtklpephnbkoinaaDoorW.PrintLast Go.Proofs.YtklpephnbkoinaaDoorW.PrintMore
def cutS (l : List Int) : List Int := l.drop (takeS l).1.toNat
theorem cutS_lt {l : List Int} (h : l ≠ []) : (cutS l).length < l.length := by
 cases l with
 | nil => exact absurd rfl h
 | cons c r =>
  have := take_pos c r
  unfold cutS
  rw [List.length_drop]
  simp at this ⊢
  omega
def eachS (l : List Int) : Nat × Bool := if h : l = [] then (0, true) else ((eachS (cutS l)).1 + 1, (takeS l).2 && (eachS (cutS l)).2)
termination_by l.length
decreasing_by all_goals exact cutS_lt h
end Go.Proofs.YtklpephnbkoinaaDoor.P
namespace Go.Proofs.YtklpephnbkoinaaDoor.P
set_option linter.unusedSimpArgs false
set_option linter.unusedVariables false
open Go.RowKit Go.Proofs.YtklpephnbkoinaaDoor.P Go.Proofs.YtklpephnbkoinaaDoorW.PrintWords Go.Proofs.YtklpephnbkoinaaDoorW.PrintLast Go.Proofs.YtklpephnbkoinaaDoorW.PrintMore
theorem restOk_take (n : Nat) : ∀ (lo hi : Int) (r : List Int), 128 ≤ lo → restOk n lo hi r = true → (∀ x ∈ r.take n, 128 ≤ x) ∧ n ≤ r.length ∧ ∀ z, restOk n lo hi (r.take n ++ z) = true := by
 induction n with
 | zero => intro _ _ r _ _; simp [restOk]
 | succ n ih =>
  intro lo hi r hlo h
  cases r with
  | nil => cases h
  | cons a t =>
   rw [restOk_cons, Bool.and_eq_true, decide_eq_true_eq] at h
   obtain ⟨i1, i2, i3⟩ := ih 128 191 t (by omega) h.2
   refine ⟨fun x hx => ?_, by simp; omega, fun z => ?_⟩
   ·rw [List.take_succ_cons, List.mem_cons] at hx
    rcases hx with rfl | hx
    ·omega
    ·exact i1 x hx
   ·rw [List.take_succ_cons, List.cons_append, restOk_cons, i3, decide_eq_true h.1]; rfl
theorem uLo_ge (c : Int) : 128 ≤ uLo c := by
 unfold uLo
 repeat' split
 all_goals omega
theorem uLong_low {c : Int} (h : c < 128) : uLong c = 1 := by unfold uLong; rw [if_pos h]
theorem takeS_low {c : Int} (h : c < 128) (r : List Int) : takeS (c :: r) = (1, true) := by rw [takeS_cons, uLong_low h]; rfl
/-- a text that may stand between quotes -/
def goodQ (s : List Int) : Prop := (eachS s).2 = true ∧ ∀ x ∈ s, (32 ≤ x ∨ x = 10) ∧ x ≠ 127
instance (s : List Int) : Decidable (goodQ s) := by unfold goodQ; infer_instance
end Go.Proofs.YtklpephnbkoinaaDoor.P
namespace Go.Proofs.YtklpephnbkoinaaDoor.P
set_option linter.unusedSimpArgs false
set_option linter.unusedVariables false
open Go.RowKit Go.Proofs.YtklpephnbkoinaaDoor.P Go.Proofs.YtklpephnbkoinaaDoorW.PrintWords Go.Proofs.YtklpephnbkoinaaDoorW.PrintLast Go.Proofs.YtklpephnbkoinaaDoorW.PrintMore
theorem dot_name : nameOf 46 = false := by decide +kernel
theorem dot_class : classOf 46 = 5 := by decide +kernel
theorem drest (n : Nat) : ∀ (lo hi : Int) (r z : List Int), 128 ≤ lo → restOk n lo hi (r ++ 46 :: z) = restOk n lo hi (r ++ [46]) := by
 induction n with
 | zero => intro lo hi r z _; cases r <;> rfl
 | succ n ih =>
  intro lo hi r z hlo
  match r with
  | [] =>
   show restOk (n + 1) lo hi (46 :: z) = restOk (n + 1) lo hi (46 :: [])
   rw [restOk_cons, restOk_cons, decide_eq_false (by omega), Bool.false_and, Bool.false_and]
  | a :: r =>
   show restOk (n + 1) lo hi (a :: (r ++ 46 :: z)) = restOk (n + 1) lo hi (a :: (r ++ [46]))
   rw [restOk_cons, restOk_cons, ih 128 191 r z (by omega)]
theorem dtake (c : Int) (r z : List Int) : takeS (c :: (r ++ 46 :: z)) = takeS (c :: (r ++ [46])) := by
 rw [takeS_cons, takeS_cons, drest _ _ _ r z (uLo_ge c)]
theorem dwithin (c : Int) (r z : List Int) : (takeS (c :: (r ++ 46 :: z))).1.toNat ≤ (c :: r).length := by
 rw [takeS_cons, List.length_cons]
 by_cases h0 : uLong c = 0
 ·rw [if_pos h0]; simp
 ·rw [if_neg h0]
  by_cases h1 : restOk (uLong c - 1) (uLo c) (uHi c) (r ++ 46 :: z) = true
  ·rw [if_pos h1]
   have h2 := (restOk_take _ _ _ _ (uLo_ge c) h1).1
   have h3 : uLong c - 1 ≤ r.length := by
    rcases Nat.lt_or_ge r.length (uLong c - 1) with h | h
    rotate_left
    ·exact h
    ·exfalso
     obtain ⟨m, hm⟩ : ∃ m, uLong c - 1 - r.length = m + 1 := ⟨uLong c - 1 - r.length - 1, by omega⟩
     have := h2 46 (by rw [List.take_append, hm, List.take_succ_cons]; simp)
     omega
   simp only [Int.toNat_natCast]
   omega
  ·rw [if_neg h1]; simp
theorem dstep (s z : List Int) : stepN (s ++ 46 :: z) = stepN (s ++ [46]) ∧ stepN (s ++ 46 :: z) ≤ s.length := by
 match s with
 | [] =>
  have e : ∀ z : List Int, stepN (46 :: z) = 0 := fun z => by
   rw [stepN, takeS_low (by omega), if_neg (fun h => by have := h.2 rfl; rw [dot_name] at this; cases this)]
  rw [List.nil_append, List.nil_append, e, e]
  exact ⟨rfl, Nat.zero_le _⟩
 | c :: r =>
  show stepN (c :: (r ++ 46 :: z)) = stepN (c :: (r ++ [46])) ∧ stepN (c :: (r ++ 46 :: z)) ≤ _
  have h := dwithin c r z
  rw [stepN, stepN, dtake c r z]
  rw [dtake c r z] at h
  refine ⟨rfl, ?_⟩
  split
  ·exact h
  ·exact Nat.zero_le _
theorem dname (N : Nat) : ∀ s z : List Int, s.length < N → nameS (s ++ 46 :: z) = nameS (s ++ [46]) ∧ nameS (s ++ 46 :: z) ≤ s.length := by
 induction N with
 | zero => intro s z h; omega
 | succ N ih =>
  intro s z h
  obtain ⟨h1, h2⟩ := dstep s z
  by_cases h0 : stepN (s ++ 46 :: z) = 0
  ·rw [nameS_stop h0, nameS_stop (h1.symm.trans h0)]
   exact ⟨rfl, Nat.zero_le _⟩
  ·rw [nameS_go h0, nameS_go (fun h => h0 (h1.trans h)), ← h1, List.drop_append_of_le_length h2, List.drop_append_of_le_length h2]
   have := ih (s.drop (stepN (s ++ 46 :: z))) z (by rw [List.length_drop]; omega)
   rw [List.length_drop] at this
   rw [this.1]
   refine ⟨rfl, ?_⟩
   have h3 := this.2
   rw [this.1] at h3
   omega
/-- a run of another class than the dot's ends ahead of it -/
theorem drun {cl : Int} (hcl : cl ≠ 5) (s z : List Int) : runS (s ++ 46 :: z) cl = runS s cl := by
 induction s with
 | nil => rw [List.nil_append, runS_cons, dot_class, if_neg (fun h => hcl h.symm)]; rfl
 | cons a s ih => rw [List.cons_append, runS_cons, runS_cons, ih]
/-- a run of the dot's class, if it ends ahead of it -/
theorem drun5 (s z : List Int) : runS (s ++ 46 :: z) 5 ≤ s.length → runS s 5 < s.length ∧ runS (s ++ 46 :: z) 5 = runS s 5 := by
 induction s with
 | nil =>
  intro h
  rw [List.nil_append, runS_cons, dot_class, if_pos rfl, List.length_nil] at h
  omega
 | cons a s ih =>
  intro h
  rw [List.cons_append, runS_cons] at h ⊢
  rw [runS_cons, List.length_cons] at *
  by_cases ha : classOf a = 5
  ·rw [if_pos ha] at h ⊢
   rw [if_pos ha]
   have := ih (by omega)
   omega
  ·rw [if_neg ha, if_neg ha]
   omega
theorem dapp {n : Nat} {s : List Int} (h : n ≤ s.length) (z : List Int) : (s ++ z).take n = s.take n := List.take_append_of_le_length h
theorem dsymbol (s z z' : List Int) (h : runS (s ++ 46 :: z) 5 ≤ s.length) : symbolS (s ++ 46 :: z') = symbolS (s ++ 46 :: z) := by
 obtain ⟨h1, h2⟩ := drun5 s z h
 have h3 : runS (s ++ 46 :: z') 5 = runS s 5 := by
  clear h h2
  induction s with
  | nil => simp at h1
  | cons a s ih =>
   rw [runS_cons, List.length_cons] at h1
   rw [List.cons_append, runS_cons, runS_cons]
   by_cases ha : classOf a = 5
   ·rw [if_pos ha] at h1 ⊢
    rw [if_pos ha, ih (by omega)]
   ·rw [if_neg ha, if_neg ha]
 unfold symbolS
 rw [h2, h3, dapp (by omega), dapp (by omega), List.drop_append_of_le_length (by omega), List.drop_append_of_le_length (by omega)]
 have he : endsS (s.drop (runS s 5) ++ 46 :: z') = endsS (s.drop (runS s 5) ++ 46 :: z) := by
  cases s.drop (runS s 5) <;> rfl
 rw [he]
theorem dnumber (s z : List Int) : numberS (s ++ 46 :: z) = numberS (s ++ [46]) := by
 have hr := runS_le s 4
 have e : takeD (s ++ 46 :: z) = takeD (s ++ [46]) := by
  unfold takeD headD
  rw [drun (by decide), drun (by decide), dapp hr, dapp hr]
 have e2 := takeD_le (s ++ [46])
 rw [drun (by decide)] at e2
 unfold numberS
 rw [e, e2, Int.toNat_natCast, dapp hr, dapp hr]
theorem itemQ_cons (c : Int) (r : List Int) : itemQ (c :: r) = (if c = 39 then (if r.headD 0 = 39 then ([39], 2, 0) else ([], 1, -1))
  else if c = 92 then (if r.headD 0 = 92 ∨ r.headD 0 = 39 then ([r.headD 0], 2, 0) else if r.headD 0 = 110 then ([10], 2, 0) else ([], 0, 13))
  else if c = 10 then ([], 0, 12)
  else if c < 32 ∨ c = 127 then ([], 0, 11)
  else if (takeS (c :: r)).2 = true then ((c :: r).take (takeS (c :: r)).1.toNat, (takeS (c :: r)).1.toNat, 0) else ([], 0, 10)) := rfl
/-- one item of a text between quotes -/
theorem ditem (c : Int) (r z : List Int) : itemQ (c :: (r ++ 46 :: z)) = itemQ (c :: (r ++ [46])) ∧ (itemQ (c :: (r ++ 46 :: z))).2.1 ≤ (c :: r).length := by
 have hw := dwithin c r z
 have ht := dtake c r z
 have hh : (r ++ 46 :: z).headD 0 = (r ++ [46]).headD 0 := by cases r <;> rfl
 have hr : ∀ v : Int, v ≠ 46 → (r ++ [46]).headD 0 = v → 1 ≤ r.length := by
  intro v hv h
  cases r with
  | nil => exact absurd h.symm hv
  | cons a r => simp
 rw [itemQ_cons, itemQ_cons, hh]
 have hl : (c :: r).length = r.length + 1 := rfl
 by_cases h1 : c = 39
 ·rw [if_pos h1, if_pos h1]
  refine ⟨rfl, ?_⟩
  by_cases h2 : (r ++ [46]).headD 0 = 39
  ·have := hr 39 (by decide) h2
   rw [if_pos h2]; simp only; omega
  ·rw [if_neg h2]; simp only; omega
 ·rw [if_neg h1, if_neg h1]
  by_cases h2 : c = 92
  ·rw [if_pos h2, if_pos h2]
   refine ⟨rfl, ?_⟩
   by_cases h3 : (r ++ [46]).headD 0 = 92 ∨ (r ++ [46]).headD 0 = 39
   ·have : 1 ≤ r.length := by
     rcases h3 with h | h
     ·exact hr _ (by decide) h
     ·exact hr _ (by decide) h
    rw [if_pos h3]; simp only; omega
   ·rw [if_neg h3]
    by_cases h4 : (r ++ [46]).headD 0 = 110
    ·have := hr _ (by decide) h4
     rw [if_pos h4]; simp only; omega
    ·rw [if_neg h4]; simp
  ·rw [if_neg h2, if_neg h2]
   by_cases h3 : c = 10
   ·rw [if_pos h3, if_pos h3]; exact ⟨rfl, by simp⟩
   ·rw [if_neg h3, if_neg h3]
    by_cases h4 : c < 32 ∨ c = 127
    ·rw [if_pos h4, if_pos h4]; exact ⟨rfl, by simp⟩
    ·rw [if_neg h4, if_neg h4, ht]
     rw [ht] at hw
     by_cases h5 : (takeS (c :: (r ++ [46]))).2 = true
     ·rw [if_pos h5, if_pos h5]
      refine ⟨?_, hw⟩
      have e1 : (c :: (r ++ 46 :: z)).take (takeS (c :: (r ++ [46]))).1.toNat = (c :: r).take (takeS (c :: (r ++ [46]))).1.toNat := dapp (s := c :: r) hw _
      have e2 : (c :: (r ++ [46])).take (takeS (c :: (r ++ [46]))).1.toNat = (c :: r).take (takeS (c :: (r ++ [46]))).1.toNat := dapp (s := c :: r) hw _
      rw [e1, e2]
     ·rw [if_neg h5, if_neg h5]; exact ⟨rfl, by simp⟩
theorem dtext (N : Nat) : ∀ s z : List Int, s.length < N → (textQ (s ++ 46 :: z)).2.1 ≤ s.length → ∀ z' : List Int, textQ (s ++ 46 :: z') = textQ (s ++ 46 :: z) := by
 induction N with
 | zero => intro s z h; omega
 | succ N ih =>
  intro s z h hn z'
  match s, h, hn with
  | [], _, hn =>
   exfalso
   have e : itemQ (46 :: z) = ([46], 1, 0) := by
    rw [itemQ_cons, if_neg (by decide), if_neg (by decide), if_neg (by decide), if_neg (by decide), takeS_low (by omega), if_pos rfl]; rfl
   rw [List.nil_append, textQ_go (by rw [e]), e] at hn
   simp only [List.length_nil] at hn
   omega
  | c :: r, h, hn =>
   obtain ⟨h1, h2⟩ := ditem c r z
   have h3 := (ditem c r z').1
   rw [List.cons_append] at hn ⊢
   rw [List.cons_append]
   have e : itemQ (c :: (r ++ 46 :: z')) = itemQ (c :: (r ++ 46 :: z)) := h3.trans h1.symm
   by_cases h0 : (itemQ (c :: (r ++ 46 :: z))).2.2 = 0
   ·have hpos := (itemQ_le (c :: (r ++ 46 :: z))).2.1 h0
    rw [textQ_go h0] at hn ⊢
    rw [textQ_go (by rw [e]; exact h0), e]
    have d1 : (c :: (r ++ 46 :: z)).drop (itemQ (c :: (r ++ 46 :: z))).2.1 = (c :: r).drop (itemQ (c :: (r ++ 46 :: z))).2.1 ++ 46 :: z := List.drop_append_of_le_length (l₁ := c :: r) h2
    have d2 : (c :: (r ++ 46 :: z')).drop (itemQ (c :: (r ++ 46 :: z))).2.1 = (c :: r).drop (itemQ (c :: (r ++ 46 :: z))).2.1 ++ 46 :: z' := List.drop_append_of_le_length (l₁ := c :: r) h2
    rw [d1] at hn ⊢
    rw [d2]
    simp only at hn
    rw [ih _ z (by rw [List.length_drop]; omega) (by rw [List.length_drop]; omega) z']
   ·rw [textQ_stop h0, textQ_stop (by rw [e]; exact h0), e]
theorem dline (s z z' : List Int) : lineS (s ++ 46 :: z) ≤ s.length → lineS (s ++ 46 :: z') = lineS (s ++ 46 :: z) := by
 induction s with
 | nil => intro h; simp [lineS] at h
 | cons a s ih =>
  intro h
  unfold lineS at h ih ⊢
  rw [List.cons_append, List.takeWhile_cons] at h ⊢
  rw [List.cons_append, List.takeWhile_cons]
  by_cases ha : (a != 10) = true
  ·rw [if_pos ha] at h ⊢
   rw [if_pos ha, List.length_cons, List.length_cons]
   rw [List.length_cons, List.length_cons] at h
   rw [ih (by omega)]
  ·rw [if_neg ha, if_neg ha]
theorem comL_two (d : Nat) (x y : Int) (r : List Int) : comL d (x :: y :: r) = if x = 47 ∧ y = 42 then (comL (d + 1) r).map (· + 2) else if x = 42 ∧ y = 47 then (if d = 1 then some 2 else (comL (d - 1) r).map (· + 2)) else (comL d (y :: r)).map (· + 1) := by rw [comL]
theorem dcom (N : Nat) : ∀ (u : List Int) (d n : Nat) (z z' : List Int), u.length < N → comL d (u ++ 46 :: z) = some n → n ≤ u.length → comL d (u ++ 46 :: z') = some n := by
 induction N with
 | zero => intro u d n z z' h; omega
 | succ N ih =>
  intro u d n z z' h hc hn
  have h2 := (comL_le _ _ _ hc).1
  match u, h, hc, hn with
  | [], _, _, hn => simp at hn; omega
  | [x], _, _, hn => simp at hn; omega
  | x :: y :: r, h, hc, hn =>
   rw [List.length_cons, List.length_cons] at h hn
   rw [List.cons_append, List.cons_append, comL_two] at hc ⊢
   by_cases h1 : x = 47 ∧ y = 42
   ·rw [if_pos h1] at hc ⊢
    obtain ⟨m, hm, rfl⟩ := Option.map_eq_some_iff.1 hc
    rw [ih r _ m z z' (by omega) hm (by omega)]; rfl
   ·rw [if_neg h1] at hc ⊢
    by_cases h3 : x = 42 ∧ y = 47
    ·rw [if_pos h3] at hc ⊢
     by_cases h4 : d = 1
     ·rw [if_pos h4] at hc ⊢; exact hc
     ·rw [if_neg h4] at hc ⊢
      obtain ⟨m, hm, rfl⟩ := Option.map_eq_some_iff.1 hc
      rw [ih r _ m z z' (by omega) hm (by omega)]; rfl
    ·rw [if_neg h3] at hc ⊢
     obtain ⟨m, hm, rfl⟩ := Option.map_eq_some_iff.1 hc
     have := ih (y :: r) d m z z' (by rw [List.length_cons]; omega) hm (by rw [List.length_cons]; omega)
     rw [List.cons_append] at this
     rw [this]; rfl
theorem stepS_cons (c : Int) (r : List Int) : stepS (c :: r) = (if classOf c = 1 then (1, 0) else if c = 37 then (lineS (c :: r), 0) else if two 47 42 (c :: r) = true then (match comS (c :: r) with | some n => (n, 0) | none => (0, 14)) else (0, 0) : Nat × Int) := rfl
theorem stepS_ok (l : List Int) (h : (stepS l).1 ≠ 0) : (stepS l).2 = 0 := by
 match l with
 | [] => rfl
 | c :: r =>
  rw [stepS_cons] at h ⊢
  by_cases h1 : classOf c = 1
  ·rw [if_pos h1]
  ·rw [if_neg h1] at h ⊢
   by_cases h2 : c = 37
   ·rw [if_pos h2]
   ·rw [if_neg h2] at h ⊢
    by_cases h3 : two 47 42 (c :: r) = true
    ·rw [if_pos h3] at h ⊢
     cases hc : comS (c :: r) with
     | none => rw [hc] at h; exact absurd rfl h
     | some n => rfl
    ·rw [if_neg h3]
theorem dstepS (c : Int) (r z z' : List Int) (h1 : (stepS (c :: (r ++ 46 :: z))).1 ≤ (c :: r).length) (h2 : (stepS (c :: (r ++ 46 :: z))).2 = 0) : stepS (c :: (r ++ 46 :: z')) = stepS (c :: (r ++ 46 :: z)) := by
 have ht : two 47 42 (c :: (r ++ 46 :: z')) = two 47 42 (c :: (r ++ 46 :: z)) := by cases r <;> rfl
 rw [stepS_cons] at h1 h2 ⊢
 rw [stepS_cons]
 by_cases k1 : classOf c = 1
 ·rw [if_pos k1, if_pos k1]
 ·rw [if_neg k1] at h1 h2 ⊢
  rw [if_neg k1]
  by_cases k2 : c = 37
  ·rw [if_pos k2] at h1 h2 ⊢
   rw [if_pos k2]
   rw [show lineS (c :: (r ++ 46 :: z')) = lineS (c :: (r ++ 46 :: z)) from dline (c :: r) z z' h1]
  ·rw [if_neg k2] at h1 h2 ⊢
   rw [if_neg k2, ht]
   by_cases k3 : two 47 42 (c :: (r ++ 46 :: z)) = true
   ·rw [if_pos k3] at h1 h2 ⊢
    rw [if_pos k3]
    cases hc : comS (c :: (r ++ 46 :: z)) with
    | none => rw [hc] at h2; exact absurd h2 (by decide)
    | some n =>
     rw [hc] at h1
     simp only at h1
     match r, hc, h1, k3 with
     | [], _, _, k3 =>
      have : two 47 42 (c :: 46 :: z) = (c == 47 && (46 : Int) == 42) := rfl
      rw [List.nil_append, this] at k3
      simp at k3
     | y :: r, hc, h1, _ =>
      unfold comS at hc ⊢
      obtain ⟨m, hm, rfl⟩ := Option.map_eq_some_iff.1 hc
      have hm' : comL 1 (r ++ 46 :: z) = some m := hm
      rw [List.length_cons, List.length_cons] at h1
      have := dcom _ r 1 m z z' (Nat.lt_succ_self _) hm' (by omega)
      have e : comL 1 ((c :: (y :: r ++ 46 :: z')).drop 2) = some m := this
      rw [e]; rfl
   ·rw [if_neg k3, if_neg k3]
theorem dstep0 (z : List Int) : stepS (46 :: z) = (0, 0) := by
 rw [stepS_cons, dot_class, if_neg (by decide), if_neg (by decide), if_neg]
 cases z with
 | nil => decide
 | cons y z => show ¬ (((46 : Int) == 47 && y == 42) = true); simp
theorem dskip (N : Nat) : ∀ u z : List Int, u.length < N → (skipS (u ++ 46 :: z)).2 = 0 → (skipS (u ++ 46 :: z)).1 ≤ u.length → ∀ z' : List Int, skipS (u ++ 46 :: z') = skipS (u ++ 46 :: z) := by
 induction N with
 | zero => intro u z h; omega
 | succ N ih =>
  intro u z h h0 hn z'
  match u, h, h0, hn with
  | [], _, _, _ =>
   rw [List.nil_append, List.nil_append, skipS_stop (by rw [dstep0]), skipS_stop (by rw [dstep0]), dstep0, dstep0]
  | c :: r, h, h0, hn =>
   rw [List.cons_append] at h0 hn ⊢
   rw [List.cons_append]
   by_cases k : (stepS (c :: (r ++ 46 :: z))).1 = 0
   ·rw [skipS_stop k] at h0 hn ⊢
    have e := dstepS c r z z' hn h0
    rw [skipS_stop (by rw [e]; exact k), e]
   ·rw [skipS_go k] at h0 hn ⊢
    simp only at h0 hn
    have e := dstepS c r z z' (by omega) (stepS_ok _ k)
    rw [skipS_go (by rw [e]; exact k), e]
    have d1 : (c :: (r ++ 46 :: z)).drop (stepS (c :: (r ++ 46 :: z))).1 = (c :: r).drop (stepS (c :: (r ++ 46 :: z))).1 ++ 46 :: z := List.drop_append_of_le_length (l₁ := c :: r) (by omega)
    have d2 : (c :: (r ++ 46 :: z')).drop (stepS (c :: (r ++ 46 :: z))).1 = (c :: r).drop (stepS (c :: (r ++ 46 :: z))).1 ++ 46 :: z' := List.drop_append_of_le_length (l₁ := c :: r) (by omega)
    rw [d1] at h0 hn ⊢
    rw [d2, ih _ z (by rw [List.length_drop]; omega) h0 (by rw [List.length_drop]; omega) z']
theorem dscan (cl c : Int) (r z z' : List Int) (h : (scanS cl (c :: (r ++ 46 :: z))).2.1.toNat ≤ (c :: r).length) : scanS cl (c :: (r ++ 46 :: z')) = scanS cl (c :: (r ++ 46 :: z)) := by
 have n1 := dname ((c :: r).length + 1) (c :: r) z (Nat.lt_succ_self _)
 have n2 := dname ((c :: r).length + 1) (c :: r) z' (Nat.lt_succ_self _)
 have he : nameS (c :: (r ++ 46 :: z')) = nameS (c :: (r ++ 46 :: z)) := n2.1.trans n1.1.symm
 have ht : (c :: (r ++ 46 :: z')).take (nameS (c :: (r ++ 46 :: z'))) = (c :: (r ++ 46 :: z)).take (nameS (c :: (r ++ 46 :: z))) := by
  show ((c :: r) ++ 46 :: z').take (nameS ((c :: r) ++ 46 :: z')) = ((c :: r) ++ 46 :: z).take (nameS ((c :: r) ++ 46 :: z))
  rw [dapp n2.2, dapp n1.2, n2.1, n1.1]
 have hh : highS (c :: (r ++ 46 :: z')) = highS (c :: (r ++ 46 :: z)) := by
  unfold highS
  rw [dtake c r z, dtake c r z', ht, he]
 have hd : numberS (c :: (r ++ 46 :: z')) = numberS (c :: (r ++ 46 :: z)) := (dnumber (c :: r) z').trans (dnumber (c :: r) z).symm
 unfold scanS at h ⊢
 rw [ht, he, hh, hd]
 by_cases k2 : cl = 2
 ·rw [if_pos k2, if_pos k2]
 ·rw [if_neg k2] at h ⊢
  rw [if_neg k2]
  by_cases k3 : cl = 3
  ·rw [if_pos k3, if_pos k3]
  ·rw [if_neg k3] at h ⊢
   rw [if_neg k3]
   by_cases k9 : cl = 9
   ·rw [if_pos k9, if_pos k9]
   ·rw [if_neg k9] at h ⊢
    rw [if_neg k9]
    by_cases k5 : cl = 5
    ·rw [if_pos k5] at h ⊢
     rw [if_pos k5]
     exact dsymbol (c :: r) z z' h
    ·rw [if_neg k5] at h ⊢
     rw [if_neg k5]
     by_cases k4 : cl = 4
     ·rw [if_pos k4, if_pos k4]
     ·rw [if_neg k4] at h ⊢
      rw [if_neg k4]
      by_cases k7 : cl = 7
      ·rw [if_pos k7] at h ⊢
       rw [if_pos k7]
       unfold quotedS at h ⊢
       have e : quoteS (c :: (r ++ 46 :: z')) = quoteS (c :: (r ++ 46 :: z)) := by
        unfold quoteS at h ⊢
        rw [show (c :: (r ++ 46 :: z')).headD 0 = c from rfl, show (c :: (r ++ 46 :: z)).headD 0 = c from rfl] at *
        by_cases k : c = 39
        ·rw [if_pos k] at h ⊢
         rw [if_pos k]
         have hsz : (textQ (r ++ 46 :: z)).2.1 ≤ r.length := by
          have e1 : (resQ [] 1 (textQ (r ++ 46 :: z))).2.1 = ((1 + (textQ (r ++ 46 :: z)).2.1 : Nat) : Int) := by unfold resQ; split <;> rfl
          have h' : (resQ [] 1 (textQ (r ++ 46 :: z))).2.1.toNat ≤ (c :: r).length := h
          rw [e1, List.length_cons] at h'
          omega
         show resQ [] 1 (textQ (r ++ 46 :: z')) = resQ [] 1 (textQ (r ++ 46 :: z))
         rw [dtext _ r z (Nat.lt_succ_self _) hsz z']
        ·rw [if_neg k, if_neg k]
       rw [e]
      ·rw [if_neg k7, if_neg k7]; rfl
theorem dtok (c : Int) (r z z' : List Int) (h : (tokS (c :: (r ++ 46 :: z))).2.1.toNat ≤ (c :: r).length) : tokS (c :: (r ++ 46 :: z')) = tokS (c :: (r ++ 46 :: z)) := by
 rw [tokS_size] at h
 have e : scanS (classOf ((c :: (r ++ 46 :: z')).headD 0)) (c :: (r ++ 46 :: z')) = scanS (classOf ((c :: (r ++ 46 :: z)).headD 0)) (c :: (r ++ 46 :: z)) := dscan _ c r z z' h
 unfold tokS
 rw [e]
/-- a token that ends ahead of a dot is the same whatever stands behind the dot -/
theorem dhead {u z : List Int} (hb : Bytes (u ++ 46 :: z)) {n : Nat} {t : TokR} (h : headT (u ++ 46 :: z) = some (n, t)) (hn : n ≤ u.length) (z' : List Int) : headT (u ++ 46 :: z') = some (n, t) := by
 have hbd := headT_bd hb h
 have hk : (skipS (u ++ 46 :: z)).2 = 0 := by
  apply Classical.byContradiction
  intro h1
  unfold headT at h
  rw [if_pos h1] at h
  simp only [Option.some.injEq, Prod.mk.injEq] at h
  have := h.1
  rw [List.length_append, List.length_cons] at this
  omega
 have hle : (skipS (u ++ 46 :: z)).1 < n := by
  have h1 := hbd.2.2.1
  have h2 := hbd.2.2.2.1
  have h3 := hbd.2.2.2.2
  omega
 have e := dskip _ u z (Nat.lt_succ_self _) hk (by omega) z'
 unfold headT at h ⊢
 rw [e]
 rw [if_neg (by simpa using hk)] at h ⊢
 generalize (skipS (u ++ 46 :: z)).1 = k at *
 rw [List.drop_append_of_le_length (by omega)] at h ⊢
 have hd : u.drop k ≠ [] := fun hh => by
  have := congrArg List.length hh
  rw [List.length_drop, List.length_nil] at this
  omega
 match hx : u.drop k, hd with
 | c :: r, _ =>
  rw [hx] at h
  rw [List.cons_append, if_neg (by simp)] at h ⊢
  have hr : (c :: r).length = u.length - k := by rw [← hx, List.length_drop]
  simp only [Option.some.injEq, Prod.mk.injEq] at h
  rw [dtok c r z z' (by have := h.1; omega)]
  rw [h.1, h.2]
end Go.Proofs.YtklpephnbkoinaaDoor.P
namespace Go.Proofs.YtklpephnbkoinaaDoor.P
set_option linter.unusedSimpArgs false
set_option linter.unusedVariables false
open Go.RowKit Go.Proofs.YtklpephnbkoinaaDoor.P Go.Proofs.YtklpephnbkoinaaDoorW.PrintWords Go.Proofs.YtklpephnbkoinaaDoorW.PrintLast Go.Proofs.YtklpephnbkoinaaDoorW.PrintMore
theorem nl_class : classOf 10 = 1 := by decide +kernel
theorem run_len {l : List Int} (h : l.take (runS l 5) = [46]) : runS l 5 = 1 := by
 have h1 := runS_le l 5
 have h2 := congrArg List.length h
 rw [List.length_take, List.length_singleton] at h2
 omega
/-- a byte behind a dot that lets the dot end -/
def DotEnd (y : Int) : Prop := (0 ≤ y ∧ y < 256) ∧ ∀ z : List Int, tokS (46 :: y :: z) = (7, 1, strOfNums [46], 0)
theorem dotEnd_of {y : Int} (h0 : 0 ≤ y ∧ y < 256) {r : List Int} (h : endsS (y :: r) = true) : DotEnd y := by
 have hc : (classOf y == 1 || classOf y == 8) = true := h
 have hn5 : classOf y ≠ 5 := by intro h5; rw [h5] at hc; exact absurd hc (by decide)
 refine ⟨h0, fun z => ?_⟩
 have hr : runS (46 :: y :: z) 5 = 1 := by
  rw [runS_cons, dot_class, if_pos rfl, runS_cons, if_neg hn5]
 have e : symbolS (46 :: y :: z) = (7, 1, strOfNums [46], 0) := by
  unfold symbolS
  rw [hr]
  have : endsS (y :: z) = true := hc
  rw [if_pos ⟨rfl, this⟩]; rfl
 have e2 : scanS (classOf ((46 :: y :: z : List Int).headD 0)) (46 :: y :: z) = symbolS (46 :: y :: z) := by
  rw [show (46 :: y :: z : List Int).headD 0 = 46 from rfl, dot_class]; rfl
 unfold tokS
 rw [e2, e]; rfl
theorem dotEnd_nl : DotEnd 10 := dotEnd_of (r := []) (by omega) (by show (classOf 10 == 1 || classOf 10 == 8) = true; rw [nl_class]; rfl)
/-- a token that ends: a dot, and the same with a byte behind it that lets it end -/
theorem dendY {y : Int} (hy : DotEnd y) {s : List Int} (hb : Bytes s) {n : Nat} {t : TokR} (h : headT s = some (n, t)) (h7 : t.f0 = 7) :
  ∃ u r, s = u ++ 46 :: r ∧ n = u.length + 1 ∧ endsS r = true ∧ ∀ z : List Int, headT (u ++ 46 :: y :: z) = some (n, t) := by
 have hle := skipS_le (s.length + 1) s (Nat.lt_succ_self _)
 have h0 := h
 unfold headT at h
 by_cases h1 : (skipS s).2 ≠ 0
 ·rw [if_pos h1] at h
  simp only [Option.some.injEq, Prod.mk.injEq] at h
  rw [← h.2] at h7
  simp at h7
 ·rw [if_neg h1] at h
  have h1' : (skipS s).2 = 0 := by simpa using h1
  by_cases h2 : s.drop (skipS s).1 = []
  ·rw [if_pos h2] at h; cases h
  ·rw [if_neg h2] at h
   simp only [Option.some.injEq, Prod.mk.injEq] at h
   match hx : s.drop (skipS s).1, h2 with
   | c :: r, _ =>
    rw [hx] at h
    have hbx : Bytes (c :: r) := by rw [← hx]; exact hb.drop _
    have ht7 : (tokS (c :: r)).1 = 7 := by rw [← h.2] at h7; exact h7
    have hsym : tokS (c :: r) = symbolS (c :: r) := by
     rcases tok_cases c r hbx with ⟨e, _⟩ | ⟨e, _⟩ | ⟨e, _⟩ | ⟨e, _⟩ | ⟨tx, e, _⟩ | ⟨e, _⟩ | ⟨m, e', e, _⟩
     ·rw [e] at ht7; simp at ht7
     ·rw [e] at ht7; simp at ht7
     ·exact e
     ·rw [e] at ht7; simp at ht7
     ·rw [e] at ht7; simp at ht7
     ·rw [e] at ht7; simp at ht7
     ·rw [e] at ht7; simp at ht7
    have hdot : (c :: r).take (runS (c :: r) 5) = [46] := by
     rw [hsym] at ht7
     unfold symbolS at ht7
     by_cases k : (c :: r).take (runS (c :: r) 5) = [46] ∧ endsS ((c :: r).drop (runS (c :: r) 5)) = true
     ·exact k.1
     ·rw [if_neg k] at ht7; simp at ht7
    have hr := run_len hdot
    rw [hr] at hdot
    have hc : c = 46 := by simpa using hdot
    subst hc
    have htok : tokS (46 :: r) = (7, 1, strOfNums [46], 0) := by
     rw [hsym] at ht7 ⊢
     unfold symbolS at ht7 ⊢
     rw [hr] at ht7 ⊢
     by_cases k : (46 :: r : List Int).take 1 = [46] ∧ endsS ((46 :: r : List Int).drop 1) = true
     ·rw [if_pos k]; rfl
     ·rw [if_neg k] at ht7; simp at ht7
    have hs : s = s.take (skipS s).1 ++ 46 :: r := by rw [← hx, List.take_append_drop]
    have hu : (s.take (skipS s).1).length = (skipS s).1 := by rw [List.length_take]; omega
    rw [htok] at h
    have h11 : (skipS s).1 + 1 = n := h.1
    have hends : endsS r = true := by
     rw [hsym] at ht7
     unfold symbolS at ht7
     rw [hr] at ht7
     by_cases k : (46 :: r : List Int).take 1 = [46] ∧ endsS ((46 :: r : List Int).drop 1) = true
     ·exact k.2
     ·rw [if_neg k] at ht7; simp at ht7
    refine ⟨s.take (skipS s).1, r, hs, by rw [hu]; exact h11.symm, hends, fun z => ?_⟩
    have hsk : skipS (s.take (skipS s).1 ++ 46 :: r) = ((skipS s).1, 0) := by rw [← hs]; exact Prod.ext rfl h1'
    have e := dskip _ (s.take (skipS s).1) r (Nat.lt_succ_self _) (by rw [hsk]) (by rw [hsk, hu]; exact Nat.le_refl _) (y :: z)
    rw [hsk] at e
    unfold headT
    rw [e]
    simp only
    have hd : (s.take (skipS s).1 ++ 46 :: y :: z).drop (skipS s).1 = 46 :: y :: z := by
     have := List.drop_left (l₁ := s.take (skipS s).1) (l₂ := 46 :: y :: z)
     rw [hu] at this
     exact this
    rw [if_neg (by simp), hd, if_neg (by simp), hy.2 z]
    rw [← h.1, ← h.2]
theorem dlexY {y : Int} (hy : DotEnd y) (N : Nat) : ∀ s : List Int, s.length < N → Bytes s → ∀ (j : Nat) (t : TokR), (lexS s)[j]? = some t → t.f0 = 7 →
  ∃ u r, s = u ++ 46 :: r ∧ t.f2 = ((u.length + 1 : Nat) : Int) ∧ endsS r = true ∧ ∀ z : List Int, Bytes z → lexS (u ++ 46 :: y :: z) = (lexS s).take (j + 1) ++ (lexS (y :: z)).map (shiftT (u.length + 1)) := by
 induction N with
 | zero => intro s h; omega
 | succ N ih =>
  intro s hN hb j t hj h7
  cases hh : headT s with
  | none => rw [lexS_none hh] at hj; simp at hj
  | some q =>
   obtain ⟨n, t0⟩ := q
   have hd := headT_bd hb hh
   have hl := lexS_some hb hh
   have h10 : ∀ z : List Int, Bytes z → Bytes (y :: z) := fun z hz x hx => by
    rcases List.mem_cons.1 hx with h | h
    ·rw [h]; exact hy.1
    ·exact hz x h
   have h46 : ∀ (u r z : List Int), s = u ++ 46 :: r → Bytes z → Bytes (u ++ 46 :: y :: z) := fun u r z e hz => by
    rw [e] at hb
    refine lapp (fun x hx => hb x (by simp [hx])) (fun x hx => ?_)
    rcases List.mem_cons.1 hx with h | h
    ·rw [h]; omega
    ·exact h10 z hz x h
   match j, hj with
   | 0, hj =>
    rw [hl] at hj
    have ht : t0 = t := Option.some.inj hj
    subst ht
    obtain ⟨u, r, e, hn, hen, hz⟩ := dendY hy hb hh h7
    refine ⟨u, r, e, by rw [hd.2.2.2.1, hn], hen, fun z hbz => ?_⟩
    rw [lexS_some (h46 u r z e hbz) (hz z), hl]
    have ed : (u ++ 46 :: y :: z).drop n = y :: z := by
     rw [hn, ← List.drop_drop, List.drop_left]; rfl
    rw [ed, hn]; rfl
   | j + 1, hj =>
    rw [hl, List.getElem?_cons_succ, List.getElem?_map] at hj
    obtain ⟨t', ht', rfl⟩ := Option.map_eq_some_iff.1 hj
    obtain ⟨u, r, e, h2, hen, hz⟩ := ih (s.drop n) (by rw [List.length_drop]; omega) (hb.drop n) j t' ht' h7
    have es : s = (s.take n ++ u) ++ 46 :: r := by rw [List.append_assoc, ← e, List.take_append_drop]
    have hul : (s.take n ++ u).length = n + u.length := by rw [List.length_append, List.length_take]; omega
    refine ⟨s.take n ++ u, r, es, ?_, hen, fun z hbz => ?_⟩
    ·show t'.f2 + (n : Int) = _
     rw [h2, hul]; omega
    ·have hh' := dhead (u := s.take n ++ u) (z := r) (by rw [← es]; exact hb) (by rw [← es]; exact hh) (by omega) (y :: z)
     rw [lexS_some (h46 _ r z es hbz) hh', hl]
     have ed : (s.take n ++ u ++ 46 :: y :: z).drop n = u ++ 46 :: y :: z := by
      have := List.drop_left (l₁ := s.take n) (l₂ := u ++ 46 :: y :: z)
      rw [List.length_take, Nat.min_eq_left hd.2.1] at this
      rw [List.append_assoc]; exact this
     rw [ed, hz z hbz, List.map_append, map_shift, hul, List.take_succ_cons, List.map_take, Nat.add_assoc]; rfl
end Go.Proofs.YtklpephnbkoinaaDoor.P
namespace Go.Proofs.YtklpephnbkoinaaDoor.P
set_option linter.unusedSimpArgs false
set_option linter.unusedVariables false
open Go.RowKit Go.Proofs.YtklpephnbkoinaaDoor.P Go.Proofs.YtklpephnbkoinaaDoorW.PrintWords Go.Proofs.YtklpephnbkoinaaDoorW.PrintLast Go.Proofs.YtklpephnbkoinaaDoorW.PrintMore
/-- nothing, or what an end ends -/
def Ended (l : List TokR) : Prop := l = [] ∨ ∃ a t, l = a ++ [t] ∧ t.f0 = 7
theorem Ended.tail {u : TokR} {l : List TokR} (h : Ended (u :: l)) : Ended l := by
 rcases h with h | ⟨a, t, h, h7⟩
 ·cases h
 ·cases a with
  | nil => exact .inl (by simpa using (List.cons.inj h).2)
  | cons x a => exact .inr ⟨a, t, (List.cons.inj h).2, h7⟩
theorem Ended.one {u : TokR} {l : List TokR} (h : Ended (u :: l)) (hu : u.f0 ≠ 7) : l ≠ [] := by
 rintro rfl
 rcases h with h | ⟨a, t, h, h7⟩
 ·cases h
 ·cases a with
  | nil => exact hu (by rw [(List.cons.inj h).1]; exact h7)
  | cons x a => have := congrArg List.length h; simp at this
theorem parts_app {A : List TokR} (h : Ended A) (B : List TokR) : partsS (A ++ B) = partsS A ++ partsS B := by
 induction A with
 | nil => rfl
 | cons u A ih =>
  by_cases h7 : u.f0 = 7
  ·rw [List.cons_append, parts_end h7, parts_end h7, ih h.tail]; rfl
  ·cases hp : partsS A with
   | nil => exact absurd (parts_nil hp) (h.one h7)
   | cons p ps =>
    have e := ih h.tail
    rw [hp, List.cons_append] at e
    rw [List.cons_append, parts_go h7 e, parts_go h7 hp]; rfl
theorem pieces_app (X Y : List (List TokR)) : ∀ n : Nat, piecesG n (X ++ Y) = piecesG n X ++ piecesG (n + X.flatten.length) Y := by
 induction X with
 | nil => intro n; simp [piecesG]
 | cons p X ih =>
  intro n
  rw [List.cons_append, piecesG, piecesG, ih, List.flatten_cons, List.length_append, Nat.add_assoc]; rfl
theorem take_ended {L : List TokR} {j : Nat} {t : TokR} (h : L[j]? = some t) (h7 : t.f0 = 7) : Ended (L.take (j + 1)) :=
 .inr ⟨L.take j, t, by rw [List.take_add_one, h]; rfl, h7⟩
/-- a clause's last token, and where it stands -/
theorem last_piece {L : List TokR} : ∀ (X : List (List TokR)) (m : Nat) (Y : List TokR), Y ++ X.flatten = L → (∀ p ∈ X, p ≠ []) → ∀ q ∈ piecesG m X, q.f3 ≠ [] ∧ q.f1 = (q.f3.getLastD z39).f2 ∧ ∃ j : Nat, L[j]? = some (q.f3.getLastD z39)
 | [], _, _, _, _, q, hq => by cases hq
 | p :: X, m, Y, h, hne, q, hq => by
  have hp := hne p (by simp)
  rw [piecesG] at hq
  rcases List.mem_cons.1 hq with rfl | hq
  ·refine ⟨hp, rfl, Y.length + (p.length - 1), ?_⟩
   have hl : 1 ≤ p.length := List.length_pos_iff.2 hp
   rw [← h, List.flatten_cons, List.getElem?_append_right (by omega), Nat.add_sub_cancel_left, List.getElem?_append_left (by omega)]
   show p[p.length - 1]? = some (p.getLastD z39)
   rw [← List.getLast?_eq_getElem?, List.getLastD_eq_getLast?, List.getLast?_eq_some_getLast hp]; rfl
  ·exact last_piece X (m + p.length) (Y ++ p) (by rw [← h, List.flatten_cons, List.append_assoc]) (fun q hq => hne q (by simp [hq])) q hq
theorem cpieces_part (ps : List (List TokR)) : ∀ n, ∀ p ∈ piecesG n ps, p.f3 ∈ ps := by
 induction ps with
 | nil => intro n p h; cases h
 | cons q ps ih =>
  intro n p h
  rw [piecesG] at h
  rcases List.mem_cons.1 h with rfl | h
  ·exact List.mem_cons_self
  ·exact List.mem_cons_of_mem _ (ih _ p h)
theorem cpart_len (l p : List TokR) (h : p ∈ partsS l) : p.length ≤ l.length := by
 have h1 := congrArg List.length (parts_flat l)
 have h2 := List.sublist_flatten_of_mem h
 have := h2.length_le
 omega
end Go.Proofs.YtklpephnbkoinaaDoor.P
namespace Go.Proofs.YtklpephnbkoinaaDoor.P
set_option linter.unusedSimpArgs false
set_option linter.unusedVariables false
open Go.RowKit Go.Proofs.YtklpephnbkoinaaDoor.P Go.Proofs.YtklpephnbkoinaaDoorW.PrintWords Go.Proofs.YtklpephnbkoinaaDoorW.PrintLast Go.Proofs.YtklpephnbkoinaaDoorW.PrintMore
/-- in order, from one place on, up to another -/
def Ord (n : Int) : Int → List TokR → Prop
 | _, [] => True
 | a, t :: r => a ≤ t.f1 ∧ t.f1 < t.f2 ∧ t.f2 ≤ n ∧ Ord n t.f2 r
theorem Ord.shift {n : Int} (m : Nat) : ∀ {a : Int} {l : List TokR}, Ord n a l → Ord (n + (m : Int)) (a + (m : Int)) (l.map (shiftT m))
 | _, [], _ => trivial
 | a, t :: r, h => by
  obtain ⟨h1, h2, h3, h4⟩ := h
  refine ⟨?_, ?_, ?_, Ord.shift m h4⟩
  ·show a + (m : Int) ≤ t.f1 + (m : Int); omega
  ·show t.f1 + (m : Int) < t.f2 + (m : Int); omega
  ·show t.f2 + (m : Int) ≤ n + (m : Int); omega
theorem lex_ord (N : Nat) : ∀ s : List Int, s.length < N → Bytes s → Ord (s.length : Int) 0 (lexS s) := by
 induction N with
 | zero => intro s h; omega
 | succ N ih =>
  intro s hN hb
  cases hh : headT s with
  | none => rw [lexS_none hh]; trivial
  | some q =>
   obtain ⟨n, t⟩ := q
   have hd := headT_bd hb hh
   rw [lexS_some hb hh]
   have h := (ih (s.drop n) (by rw [List.length_drop]; omega) (hb.drop n)).shift n
   rw [List.length_drop] at h
   refine ⟨by omega, hd.2.2.2.2, by omega, ?_⟩
   have e1 : ((s.length - n : Nat) : Int) + (n : Int) = (s.length : Int) := by omega
   have e2 : (0 : Int) + (n : Int) = t.f2 := by omega
   rw [e1, e2] at h
   exact h
theorem Ord.mem {n : Int} : ∀ {a : Int} {l : List TokR}, Ord n a l → ∀ t ∈ l, a ≤ t.f1 ∧ t.f1 < t.f2 ∧ t.f2 ≤ n
 | _, [], _, t, h => by cases h
 | a, u :: r, ⟨h1, h2, h3, h4⟩, t, h => by
  rcases List.mem_cons.1 h with rfl | h
  ·exact ⟨h1, h2, h3⟩
  ·have := Ord.mem h4 t h
   exact ⟨by omega, this.2⟩
theorem Ord.ends {n : Int} : ∀ {a : Int} {l : List TokR}, Ord n a l → ∀ u r, l = u :: r → u.f1 < (l.getLastD z39).f2
 | a, u :: r, ⟨h1, h2, h3, h4⟩, v, s, e => by
  obtain ⟨rfl, rfl⟩ := List.cons.inj e
  cases r with
  | nil => exact h2
  | cons w r =>
   have := Ord.ends h4 w r rfl
   have hw : u.f2 ≤ w.f1 := h4.1
   show u.f1 < ((w :: r).getLastD u).f2
   rw [List.getLastD_cons] at this
   rw [List.getLastD_cons]
   omega
theorem Ord.right {n : Int} : ∀ {a : Int} {l m : List TokR}, Ord n a (l ++ m) → ∃ b, a ≤ b ∧ Ord n b m
 | a, [], m, h => ⟨a, Int.le_refl _, h⟩
 | a, u :: r, m, ⟨h1, h2, h3, h4⟩ => by
  obtain ⟨b, hb, h⟩ := Ord.right h4
  exact ⟨b, by omega, h⟩
theorem Ord.left {n : Int} : ∀ {a : Int} {l m : List TokR}, Ord n a (l ++ m) → Ord n a l
 | a, [], m, h => trivial
 | a, u :: r, m, ⟨h1, h2, h3, h4⟩ => ⟨h1, h2, h3, Ord.left h4⟩
/-- where a piece stands -/
theorem piece_bd {s : List Int} (hb : Bytes s) {p : PieceR} (hp : p ∈ piecesS s) : 0 ≤ p.f0 ∧ p.f0 < p.f1 ∧ p.f1 ≤ (s.length : Int) ∧ p.f3 ≠ [] ∧ p.f0 = (p.f3.headD z39).f1 ∧ p.f1 = (p.f3.getLastD z39).f2 := by
 have ho := lex_ord _ s (Nat.lt_succ_self _) hb
 have hpart := cpieces_part _ _ p hp
 have hne := parts_ne _ _ hpart
 obtain ⟨A, B, hAB⟩ := List.append_of_mem hpart
 have hf := parts_flat (lexS s)
 rw [hAB, List.flatten_append, List.flatten_cons] at hf
 rw [← hf] at ho
 obtain ⟨b, hb0, ho⟩ := ho.right
 have ho := ho.left
 have hp0 : p.f0 = (p.f3.headD z39).f1 ∧ p.f1 = (p.f3.getLastD z39).f2 := by
  have : ∀ (X : List (List TokR)) (m : Nat), ∀ q ∈ piecesG m X, q.f0 = (q.f3.headD z39).f1 ∧ q.f1 = (q.f3.getLastD z39).f2 := by
   intro X
   induction X with
   | nil => intro m q hq; cases hq
   | cons x X ih =>
    intro m q hq
    rw [piecesG] at hq
    rcases List.mem_cons.1 hq with rfl | hq
    ·exact ⟨rfl, rfl⟩
    ·exact ih _ q hq
  exact this _ _ p hp
 refine ⟨?_, ?_, ?_, hne, hp0⟩
 ·rw [hp0.1]
  cases hl : p.f3 with
  | nil => exact absurd hl hne
  | cons u r =>
   rw [hl] at ho
   have := ho.mem u (by simp)
   show 0 ≤ u.f1
   omega
 ·rw [hp0.1, hp0.2]
  cases hl : p.f3 with
  | nil => exact absurd hl hne
  | cons u r => rw [hl] at ho; exact ho.ends u r rfl
 ·rw [hp0.2]
  have hm : p.f3.getLastD z39 ∈ p.f3 := by
   rw [List.getLastD_eq_getLast?, List.getLast?_eq_some_getLast hne]; exact List.getLast_mem hne
  exact (ho.mem _ hm).2.2
theorem piecesG_len (ps : List (List TokR)) : ∀ n, (piecesG n ps).length = ps.length := by
 induction ps with
 | nil => intro n; rfl
 | cons p ps ih => intro n; rw [piecesG, List.length_cons, List.length_cons, ih]
theorem pieces_len {s : List Int} (hb : Bytes s) : (piecesS s).length ≤ s.length := by
 unfold piecesS piecesT
 rw [piecesG_len]
 exact Nat.le_trans (parts_len _) (lexS_len _ s (Nat.lt_succ_self _) hb)
end Go.Proofs.YtklpephnbkoinaaDoor.P
namespace Go.Proofs.YtklpephnbkoinaaDoor.P
set_option linter.unusedSimpArgs false
set_option linter.unusedVariables false
open Go.RowKit Go.Proofs.YtklpephnbkoinaaDoor.P Go.Proofs.YtklpephnbkoinaaDoorW.PrintWords Go.Proofs.YtklpephnbkoinaaDoorW.PrintLast Go.Proofs.YtklpephnbkoinaaDoorW.PrintMore
/-- from i on, d steps at most: the first one where P is not so -/
def upto (P : Nat → Bool) : Nat → Nat → Nat
 | 0, i => i
 | d + 1, i => if P i = true then upto P d (i + 1) else i
theorem upto_spec (P : Nat → Bool) : ∀ d i, i ≤ upto P d i ∧ upto P d i ≤ i + d ∧ (∀ k, i ≤ k → k < upto P d i → P k = true) ∧ (upto P d i < i + d → P (upto P d i) = false)
 | 0, i => ⟨Nat.le_refl _, Nat.le_refl _, fun k h1 h2 => by simp only [upto] at h2; omega, fun h => by simp only [upto] at h; omega⟩
 | d + 1, i => by
  cases hp : P i with
  | true =>
   obtain ⟨h1, h2, h3, h4⟩ := upto_spec P d (i + 1)
   rw [upto, if_pos hp]
   refine ⟨by omega, by omega, fun k k1 k2 => ?_, fun h => h4 (by omega)⟩
   by_cases e : k = i
   ·rw [e]; exact hp
   ·exact h3 k (by omega) k2
  | false =>
   rw [upto, if_neg (by rw [hp]; decide)]
   exact ⟨Nat.le_refl _, by omega, fun k k1 k2 => by omega, fun _ => hp⟩
theorem upto_ge {P : Nat → Bool} {d i n : Nat} (h : ∀ k, i ≤ k → k < n → P k = true) (hn : n ≤ i + d) (hi : i ≤ n) : n ≤ upto P d i := by
 obtain ⟨h1, h2, h3, h4⟩ := upto_spec P d i
 by_cases c : n ≤ upto P d i
 ·exact c
 ·have := h4 (by omega)
  rw [h _ h1 (by omega)] at this
  cases this
/-- a piece's bytes lie in the text -/
def inP (b : List Int) (p : PieceR) : Prop := 0 ≤ p.f0 ∧ p.f0 ≤ p.f1 ∧ p.f1 ≤ (b.length : Int)
instance (b : List Int) (p : PieceR) : Decidable (inP b p) := by unfold inP; exact inferInstance
/-- a piece's bytes -/
def bytP (b : List Int) (p : PieceR) : List Int := (b.take p.f1.toNat).drop p.f0.toNat
def sameP (a b : List Int) (p q : PieceR) : Bool := decide (inP a p) && (decide (inP b q) && decide (bytP a p = bytP b q))
def zP : PieceR := z36
def atP (l : List PieceR) (i : Nat) : PieceR := l.getD i zP
def aheadP (a b : List Int) (l r : List PieceR) (i : Nat) : Bool := sameP a b (atP l i) (atP r i) && decide ((atP l i).f0 = (atP r i).f0)
def behindP (a b : List Int) (l r : List PieceR) (i : Nat) : Bool :=
 sameP a b (atP l (l.length - 1 - i)) (atP r (r.length - 1 - i)) && decide ((a.length : Int) - (atP l (l.length - 1 - i)).f1 = (b.length : Int) - (atP r (r.length - 1 - i)).f1)
def aheadN (a b : List Int) (l r : List PieceR) : Nat := upto (aheadP a b l r) (min l.length r.length) 0
def behindN (a b : List Int) (l r : List PieceR) : Nat := upto (behindP a b l r) (min l.length r.length - aheadN a b l r) 0
theorem keep_le (a b : List Int) (l r : List PieceR) : aheadN a b l r + behindN a b l r ≤ min l.length r.length := by
 have h1 := (upto_spec (aheadP a b l r) (min l.length r.length) 0).2.1
 have h2 := (upto_spec (behindP a b l r) (min l.length r.length - aheadN a b l r) 0).2.1
 unfold behindN; unfold aheadN at *
 omega
theorem sameP_spec {a b : List Int} {p q : PieceR} (h : sameP a b p q = true) : inP a p ∧ inP b q ∧ bytP a p = bytP b q := by
 unfold sameP at h
 simpa using h
theorem bytP_len {b : List Int} {p : PieceR} (h : inP b p) : ((bytP b p).length : Int) = p.f1 - p.f0 := by
 obtain ⟨h1, h2, h3⟩ := h
 unfold bytP
 rw [List.length_drop, List.length_take]
 omega
theorem same_len {a b : List Int} {p q : PieceR} (h : sameP a b p q = true) : p.f1 - p.f0 = q.f1 - q.f0 := by
 obtain ⟨h1, h2, h3⟩ := sameP_spec h
 rw [← bytP_len h1, ← bytP_len h2, h3]
/-- a row's parts up to one that ends are the parts of the tokens up to its end -/
theorem part_cut (i : Nat) : ∀ (L : List TokR) (p : List TokR), (partsS L)[i]? = some p → (p.getLastD z39).f0 = 7 →
  ∃ j : Nat, L[j]? = some (p.getLastD z39) ∧ partsS (L.take (j + 1)) = (partsS L).take (i + 1) := by
 induction i with
 | zero =>
  intro L p h h7
  by_cases h0 : L = []
  ·subst h0; cases h
  cases he : endAt L with
  | none =>
   rw [parts_none h0 he] at h
   have hp : L = p := Option.some.inj h
   subst hp
   unfold endAt at he
   rw [List.findIdx?_eq_none_iff] at he
   have hm : L.getLastD z39 ∈ L := by
    rw [List.getLastD_eq_getLast?, List.getLast?_eq_some_getLast h0]; exact List.getLast_mem h0
   have := he _ hm
   rw [h7] at this; cases this
  | some j =>
   have hj := endAt_lt he
   have hps := parts_some he
   rw [hps] at h
   have hp : L.take (j + 1) = p := Option.some.inj h
   subst hp
   have hl : (L.take (j + 1)).getLastD z39 = L[j] := by
    rw [List.take_succ_eq_append_getElem hj, List.getLastD_concat]
   have h1 : partsS (L.take (j + 1)) = [L.take (j + 1)] := by
    have e : Ended [L[j]] := .inr ⟨[], L[j], rfl, by rw [← hl]; exact h7⟩
    have hcut := parts_some (l := L.take (j + 1)) (j := j) ?_
    ·rw [hcut, List.take_take, Nat.min_self, List.drop_take]; simp [partsS]
    ·unfold endAt at he ⊢
     rw [List.findIdx?_take, he]; simp
   exact ⟨j, by rw [hl]; exact List.getElem?_eq_getElem hj, by rw [h1, hps]; rfl⟩
 | succ i ih =>
  intro L p h h7
  by_cases h0 : L = []
  ·subst h0; cases h
  cases he : endAt L with
  | none => rw [parts_none h0 he] at h; cases h
  | some j =>
   have hj := endAt_lt he
   have hps := parts_some he
   rw [hps, List.getElem?_cons_succ] at h
   obtain ⟨j', h1, h2⟩ := ih _ p h h7
   refine ⟨j + 1 + j', by rw [← List.getElem?_drop]; exact h1, ?_⟩
   have hA : partsS (L.take (j + 1)) = [L.take (j + 1)] := by
    have hcut := parts_some (l := L.take (j + 1)) (j := j) ?_
    ·rw [hcut, List.take_take, Nat.min_self, List.drop_take]; simp [partsS]
    ·unfold endAt at he ⊢
     rw [List.findIdx?_take, he]; simp
   have hE : Ended (L.take (j + 1)) := by
    refine .inr ⟨L.take j, L[j], List.take_succ_eq_append_getElem hj, ?_⟩
    unfold endAt at he
    have := (List.findIdx?_eq_some_iff_getElem.1 he).2.1
    simpa using this
   have hs : L.take (j + 1 + j' + 1) = L.take (j + 1) ++ (L.drop (j + 1)).take (j' + 1) := by
    rw [show j + 1 + j' + 1 = (j + 1) + (j' + 1) by omega, List.take_add]
   rw [hs, parts_app hE, hA, h2, hps]; rfl
theorem piecesG_take (ps : List (List TokR)) : ∀ n i, piecesG n (ps.take i) = (piecesG n ps).take i := by
 induction ps with
 | nil => intro n i; simp [piecesG]
 | cons p ps ih =>
  intro n i
  cases i with
  | zero => rfl
  | succ i => rw [List.take_succ_cons, piecesG, piecesG, List.take_succ_cons, ih]
theorem piecesG_get (ps : List (List TokR)) : ∀ (n i : Nat) (q : PieceR), (piecesG n ps)[i]? = some q → ps[i]? = some q.f3 := by
 induction ps with
 | nil => intro n i q h; simp [piecesG] at h
 | cons p ps ih =>
  intro n i q h
  rw [piecesG] at h
  cases i with
  | zero => have := Option.some.inj h; rw [← this]; rfl
  | succ i => rw [List.getElem?_cons_succ] at h ⊢; exact ih _ i q h
/-- a clause that ends, and one byte behind it: with anything behind these it stands, and all ahead of it -/
theorem keep_pieces {s : List Int} (hb : Bytes s) {i : Nat} {q : PieceR} (hq : (piecesS s)[i]? = some q) (h7 : (q.f3.getLastD z39).f0 = 7) {at' : Nat} (hat : q.f1 < (at' : Int)) (hal : at' ≤ s.length) {z : List Int} (hz : Bytes z) :
  (piecesS (s.take at' ++ z)).take (i + 1) = (piecesS s).take (i + 1) := by
 have hpart := piecesG_get _ _ _ _ hq
 obtain ⟨j, hj, hcut⟩ := part_cut i (lexS s) q.f3 hpart h7
 have hf1 : q.f1 = (q.f3.getLastD z39).f2 :=
  (last_piece (L := lexS s) (partsS (lexS s)) 0 [] (by rw [List.nil_append, parts_flat]) (parts_ne _) q (List.mem_of_getElem? hq)).2.1
 obtain ⟨u, r, es, hu, hen, _⟩ := dlexY dotEnd_nl _ s (Nat.lt_succ_self _) hb j _ hj h7
 have hlen : s.length = u.length + 1 + r.length := by rw [es]; simp; omega
 match r, es, hen with
 | [], es, _ => simp at hlen; omega
 | y :: r, es, hen =>
  have hy : DotEnd y := dotEnd_of (hb y (by rw [es]; simp)) hen
  obtain ⟨u', r', es', hu', _, hz'⟩ := dlexY hy _ s (Nat.lt_succ_self _) hb j _ hj h7
  have hul : u'.length = u.length := by omega
  have hue : u' = u ∧ r' = y :: r := by
   have e := es'.symm.trans es
   have e1 := List.append_inj e hul
   exact ⟨e1.1, (List.cons.inj e1.2).2⟩
  obtain ⟨rfl, rfl⟩ := hue
  have h1 := hz' r (fun x hx => hb x (by rw [es]; simp [hx]))
  have h2 := hz' (r.take (at' - (u'.length + 2)) ++ z) (lapp (fun x hx => hb x (by rw [es]; have := List.mem_of_mem_take hx; simp [this])) hz)
  have ht : s.take at' ++ z = u' ++ 46 :: y :: (r.take (at' - (u'.length + 2)) ++ z) := by
   have e2 : s = (u' ++ [46, y]) ++ r := by rw [es]; simp
   have : s.take at' = (u' ++ [46, y]) ++ r.take (at' - (u'.length + 2)) := by
    rw [e2, List.take_append, List.take_of_length_le (by simp; omega)]
    simp
   rw [this]; simp
  have hE : Ended ((lexS s).take (j + 1)) := take_ended hj h7
  rw [ht]
  unfold piecesS piecesT
  rw [h2, parts_app hE, hcut, pieces_app, List.take_append_of_le_length, ]
  ·rw [piecesG_take, List.take_take, Nat.min_self]
  ·have : i < (piecesG 0 (partsS (lexS s))).length := (List.getElem?_eq_some_iff.1 hq).1
   rw [piecesG_take, List.length_take]; omega
end Go.Proofs.YtklpephnbkoinaaDoor.P
namespace Go.Proofs.YtklpephnbkoinaaDoor.P
set_option linter.unusedSimpArgs false
set_option linter.unusedVariables false
open Go.RowKit Go.Proofs.YtklpephnbkoinaaDoor.P Go.Proofs.YtklpephnbkoinaaDoorW.PrintWords Go.Proofs.YtklpephnbkoinaaDoorW.PrintLast Go.Proofs.YtklpephnbkoinaaDoorW.PrintMore
theorem strs_inj {x y : List Int} (hx : Bytes x) (hy : Bytes y) (h : (strOfNums x).toList = (strOfNums y).toList) : x = y := by
 rw [strOf_list, strOf_list] at h
 have g : ∀ {l : List Int}, Bytes l → (l.map fun n => UInt8.ofNat n.toNat).map (fun u => (u.toNat : Int)) = l := by
  intro l hl
  rw [List.map_map]
  conv => rhs; rw [← List.map_id l]
  refine List.map_congr_left fun a ha => ?_
  have := hl a ha
  simp only [Function.comp, id]
  rw [UInt8.toNat_ofNat', Nat.mod_eq_of_lt (by omega)]
  omega
 rw [← g hx, ← g hy, h]
theorem strs_beq {x y : List Int} (hx : Bytes x) (hy : Bytes y) : ((strOfNums x).toList == (strOfNums y).toList) = decide (x = y) := by
 by_cases e : x = y
 ·rw [e]; simp
 ·rw [decide_eq_false e]
  exact beq_eq_false_iff_ne.2 fun h => e (strs_inj hx hy h)
theorem bytP_bytes {b : List Int} (hb : Bytes b) (p : PieceR) : Bytes (bytP b p) := fun x hx => hb x (List.mem_of_mem_take (List.mem_of_mem_drop hx))
theorem of_eq (b : List Int) (p : PieceR) : match_of.f b p.f0 p.f1 p.f2 p.f3 = some (if inP b p then (bytP b p, true) else ([], false)) := by
 have hi : inP b p ↔ 0 ≤ p.f0 ∧ p.f0 ≤ p.f1 ∧ p.f1 ≤ (b.length : Int) := Iff.rfl
 by_cases h : inP b p
 ·rw [if_pos h]
  have h' := hi.1 h
  unfold match_of.f
  rw [if_neg (by omega), if_neg (by omega), if_neg (by omega), if_pos (by omega), if_pos (by omega), if_pos (by omega)]; rfl
 ·rw [if_neg h]
  have h' := mt hi.2 h
  unfold match_of.f
  by_cases h0 : p.f0 < 0
  ·rw [if_pos h0]
  ·rw [if_neg h0]
   by_cases h1 : p.f1 < p.f0
   ·rw [if_pos h1]
   ·rw [if_neg h1, if_pos (by omega)]
theorem same_eq {a b : List Int} (ha : Bytes a) (hb : Bytes b) (p q : PieceR) : match_Keep_1.f p.f0 p.f1 p.f2 p.f3 q.f0 q.f1 q.f2 q.f3 a b = some (sameP a b p q) := by
 unfold match_Keep_1.f
 rw [of_eq, of_eq]
 unfold sameP
 by_cases h1 : inP a p
 ·by_cases h2 : inP b q
  ·simp only [Option.bind_some, if_pos h1, if_pos h2, if_true, bytes_Equal.f]
   rw [strs_beq (bytP_bytes ha p) (bytP_bytes hb q), decide_eq_true h1, decide_eq_true h2]; rfl
  ·simp [h1, h2]
 ·simp [h1]
theorem rdP_at (l : List PieceR) (i : Nat) : rd_T36 l (i : Int) = atP l i := rfl
theorem behind_ix {l : List PieceR} {j m : Nat} (hm : m ≤ l.length) (hj : j < m) (hl : l.length ≤ 1000000) : wrap64 (wrap64 ((l.length : Int) - 1) - (j : Int)) = ((l.length - 1 - j : Nat) : Int) := by
 rw [w64 (i := (l.length : Int) - 1) (by omega) (by omega), w64 (by omega) (by omega)]
 omega
theorem behind_loop {a b : List Int} (ha : Bytes a) (hb : Bytes b) (hal : a.length ≤ 1000000) (hbl : b.length ≤ 1000000) (l r : List PieceR) (hl : l.length ≤ 1000000) (hr : r.length ≤ 1000000) (n m : Nat) (hm : m ≤ l.length) (hm2 : m ≤ r.length) (d : Nat) :
  ∀ j : Nat, n + j + d = m → Ev (fun k => match_Keep.l1 k l r a b (n : Int) (j : Int) (m : Int)) ((n : Int), ((upto (behindP a b l r) d j : Nat) : Int)) := by
 induction d with
 | zero =>
  intro j h
  refine Ev.step (fun k => match_Keep.l1.eq_2 ..) ?_
  rw [w64 (i := (n : Int) + (j : Int)) (by omega) (by omega)]
  exact ev_else (by omega) (Ev.now _)
 | succ d ih =>
  intro j h
  refine Ev.step (fun k => match_Keep.l1.eq_2 ..) ?_
  rw [w64 (i := (n : Int) + (j : Int)) (by omega) (by omega), behind_ix hm (j := j) (by omega) hl, behind_ix hm2 (j := j) (by omega) hr, rdP_at, rdP_at, same_eq ha hb]
  refine ev_if (by omega) (ev_if (by omega) (ev_if (by omega) (ev_if (by omega) (ev_if (by omega) (ev_same rfl ?_)))))
  have e : behindP a b l r j = (sameP a b (atP l (l.length - 1 - j)) (atP r (r.length - 1 - j)) && decide ((a.length : Int) - (atP l (l.length - 1 - j)).f1 = (b.length : Int) - (atP r (r.length - 1 - j)).f1)) := rfl
  rw [upto]
  cases hs : sameP a b (atP l (l.length - 1 - j)) (atP r (r.length - 1 - j)) with
  | false =>
   rw [hs] at e
   refine ev_else (by decide) (ev_now ?_)
   rw [e, Bool.false_and, if_neg (by decide)]
  | true =>
   rw [hs, Bool.true_and] at e
   obtain ⟨⟨p1, p2, p3⟩, ⟨q1, q2, q3⟩, _⟩ := sameP_spec hs
   refine ev_if rfl ?_
   rw [w64 (i := (a.length : Int) - _) (by omega) (by omega), w64 (i := (b.length : Int) - _) (by omega) (by omega)]
   by_cases c : (a.length : Int) - (atP l (l.length - 1 - j)).f1 = (b.length : Int) - (atP r (r.length - 1 - j)).f1
   ·rw [e, decide_eq_true c, if_pos rfl]
    refine ev_if c ?_
    rw [w64n (by omega)]
    exact ih (j + 1) (by omega)
   ·rw [e, decide_eq_false c, if_neg (by decide)]
    exact ev_else c (Ev.now _)
theorem ahead_loop {a b : List Int} (ha : Bytes a) (hb : Bytes b) (hal : a.length ≤ 1000000) (hbl : b.length ≤ 1000000) (l r : List PieceR) (hl : l.length ≤ 1000000) (hr : r.length ≤ 1000000) (m : Nat) (hm : m = min l.length r.length) (d : Nat) :
  ∀ i : Nat, i + d = m → upto (aheadP a b l r) d i = aheadN a b l r → Ev (fun k => match_Keep.l0 k l r a b (i : Int) 0 (m : Int)) (((aheadN a b l r : Nat) : Int), ((behindN a b l r : Nat) : Int)) := by
 have hlast : ∀ i : Nat, i ≤ m → i = aheadN a b l r → Ev (fun k => match_Keep.j1 k l r a b (i : Int) 0 (m : Int)) (((aheadN a b l r : Nat) : Int), ((behindN a b l r : Nat) : Int)) := by
  intro i him hi
  refine Ev.step (fun k => match_Keep.j1.eq_2 ..) ?_
  rw [hi] at him ⊢
  refine ev_eq (behind_loop ha hb hal hbl l r hl hr (aheadN a b l r) m (by omega) (by omega) (m - aheadN a b l r) 0 (by omega)) ?_
  unfold behindN
  rw [hm]
 induction d with
 | zero =>
  intro i h hu
  refine Ev.step (fun k => match_Keep.l0.eq_2 ..) (ev_else (by omega) (hlast i (by omega) hu))
 | succ d ih =>
  intro i h hu
  refine Ev.step (fun k => match_Keep.l0.eq_2 ..) ?_
  rw [rdP_at, rdP_at, same_eq ha hb]
  refine ev_if (by omega) (ev_if (by omega) (ev_if (by omega) (ev_if (by omega) (ev_same rfl ?_))))
  have e : aheadP a b l r i = (sameP a b (atP l i) (atP r i) && decide ((atP l i).f0 = (atP r i).f0)) := rfl
  rw [upto] at hu
  cases hs : sameP a b (atP l i) (atP r i) with
  | false =>
   rw [hs, Bool.false_and] at e
   rw [e, if_neg (by decide)] at hu
   exact ev_else (by decide) (hlast i (by omega) hu)
  | true =>
   rw [hs, Bool.true_and] at e
   refine ev_if rfl ?_
   by_cases c : (atP l i).f0 = (atP r i).f0
   ·rw [e, decide_eq_true c, if_pos rfl] at hu
    refine ev_if c ?_
    rw [w64n (by omega)]
    exact ih (i + 1) (by omega) hu
   ·rw [e, decide_eq_false c, if_neg (by decide)] at hu
    exact ev_else c (hlast i (by omega) hu)
theorem keep_ev {a b : List Int} (ha : Bytes a) (hb : Bytes b) (hal : a.length ≤ 1000000) (hbl : b.length ≤ 1000000) (l r : List PieceR) (hl : l.length ≤ 1000000) (hr : r.length ≤ 1000000) :
  Ev (fun k => match_Keep.f k a b l r) (((aheadN a b l r : Nat) : Int), ((behindN a b l r : Nat) : Int)) := by
 unfold match_Keep.f
 have e : mn (l.length : Int) (r.length : Int) = ((min l.length r.length : Nat) : Int) := by unfold mn; split <;> omega
 rw [e]
 exact ahead_loop ha hb hal hbl l r hl hr _ rfl (min l.length r.length) 0 (by omega) rfl
theorem few_eq (l : List Int) : tmesislaw24_few.f l = some (l.take 200) := by
 unfold tmesislaw24_few.f
 have h1 : 0 ≤ mn (l.length : Int) 200 := by unfold mn; split <;> omega
 have h2 : mn (l.length : Int) 200 ≤ (l.length : Int) := by unfold mn; split <;> omega
 rw [if_pos h1, if_pos h2, mn_le _ _ (by omega)]
 congr 1
 rw [Nat.min_comm, ← List.take_take, List.take_length]
 rfl
theorem shown_ev : Ev (fun k => tmesislaw24_shown.f k) true := Ev.of (fun k => tmesislaw24_shown.mono k) (k := 60) (by kernel_rfl)
end Go.Proofs.YtklpephnbkoinaaDoor.P
namespace Go.Proofs.YtklpephnbkoinaaDoor.Pure
set_option linter.unusedSimpArgs false
set_option linter.unusedVariables false
open Go.RowKit Go.Proofs.YtklpephnbkoinaaDoor.P Go.Proofs.YtklpephnbkoinaaDoorW.PrintWords Go.Proofs.YtklpephnbkoinaaDoorW.PrintLast
theorem tm_bd (x : Int) {m : Int} (hm : 0 < m) : -m < Int.tmod x m ∧ Int.tmod x m < m := ⟨Int.lt_tmod_of_pos x hm, Int.tmod_lt_of_pos x hm⟩
theorem tm_pos {x m : Int} (hx : 0 ≤ x) (hm : 0 < m) : 0 ≤ Int.tmod x m ∧ Int.tmod x m < m := ⟨Int.tmod_nonneg m hx, Int.tmod_lt_of_pos x hm⟩
/-- where the edit is -/
theorem at_ex (n : Nat) (hn : n ≤ 200) (x : Int) : ∃ A : Nat, Int.tmod (wrap64 ((wrap64 ((Int.tmod x (wrap64 ((n : Int) + 1))) + (n : Int))) + 1)) (wrap64 ((n : Int) + 1)) = (A : Int) ∧ A ≤ n := by
 have e1 : wrap64 ((n : Int) + 1) = (n : Int) + 1 := w64 (by omega) (by omega)
 rw [e1]
 obtain ⟨h1, h2⟩ := tm_bd x (m := (n : Int) + 1) (by omega)
 generalize Int.tmod x ((n : Int) + 1) = t at h1 h2
 have e2 : wrap64 (wrap64 (t + (n : Int)) + 1) = t + (n : Int) + 1 := by rw [w64 (i := t + (n : Int)) (by omega) (by omega), w64 (by omega) (by omega)]
 rw [e2]
 obtain ⟨h3, h4⟩ := tm_pos (x := t + (n : Int) + 1) (m := (n : Int) + 1) (by omega) (by omega)
 generalize Int.tmod (t + (n : Int) + 1) ((n : Int) + 1) = u at h3 h4
 exact ⟨u.toNat, by omega, by omega⟩
/-- how many bytes go -/
theorem del_ex (l : Nat) (h0 : 0 < l) (hl : l ≤ 201) (y : Int) : ∃ D : Nat, Int.tmod (wrap64 ((Int.tmod y (l : Int)) + (l : Int))) (l : Int) = (D : Int) ∧ D < l := by
 obtain ⟨h1, h2⟩ := tm_bd y (m := (l : Int)) (by omega)
 generalize Int.tmod y (l : Int) = t at h1 h2
 have e2 : wrap64 (t + (l : Int)) = t + (l : Int) := w64 (by omega) (by omega)
 rw [e2]
 obtain ⟨h3, h4⟩ := tm_pos (x := t + (l : Int)) (m := (l : Int)) (by omega) (by omega)
 generalize Int.tmod (t + (l : Int)) (l : Int) = u at h3 h4
 exact ⟨u.toNat, by omega, by omega⟩
theorem one_eq (n : Nat) (hn : n ≤ 200) : wrap64 ((n : Int) + 1) = (n : Int) + 1 := w64 (by omega) (by omega)
theorem left_eq (n A : Nat) (hn : n ≤ 200) (hA : A ≤ n) : wrap64 (wrap64 ((n : Int) - (A : Int)) + 1) = ((n - A + 1 : Nat) : Int) := by rw [w64 (i := (n : Int) - (A : Int)) (by omega) (by omega), w64 (by omega) (by omega)]; omega
theorem sum_eq (A D : Nat) (hA : A ≤ 1000) (hD : D ≤ 1000) : wrap64 ((A : Int) + (D : Int)) = ((A + D : Nat) : Int) := by rw [w64 (by omega) (by omega)]; omega
theorem ord_cross {n : Int} : ∀ {a : Int} {l m : List TokR}, Ord n a (l ++ m) → ∀ t ∈ l, ∀ u ∈ m, t.f2 ≤ u.f1
 | _, [], _, _, t, ht, _, _ => by cases ht
 | a, x :: r, m, h, t, ht, u, hu => by
  obtain ⟨h1, h2, h3, h4⟩ := h
  rcases List.mem_cons.1 ht with rfl | ht
  ·exact (Ord.mem h4 u (by simp [hu])).1
  ·exact ord_cross h4 t ht u hu
theorem atP_get {l : List PieceR} {i : Nat} (h : i < l.length) : l[i]? = some (atP l i) := by
 unfold atP
 rw [List.getD_eq_getElem?_getD, List.getElem?_eq_getElem h]; rfl
theorem atP_mem {l : List PieceR} {i : Nat} (h : i < l.length) : atP l i ∈ l := List.mem_of_getElem? (atP_get h)
theorem last_mem {l : List TokR} (h : l ≠ []) : l.getLastD z39 ∈ l := by
 rw [List.getLastD_eq_getLast?, List.getLast?_eq_some_getLast h]; exact List.getLast_mem h
/-- pieces stand in order -/
theorem piece_ord {s : List Int} (hb : Bytes s) {k i : Nat} (hki : k ≤ i) (hi : i < (piecesS s).length) : (atP (piecesS s) k).f1 ≤ (atP (piecesS s) i).f1 := by
 by_cases e : k = i
 ·rw [e]; exact Int.le_refl _
 have hk : k < (piecesS s).length := by omega
 have gk := piecesG_get _ _ _ _ (atP_get hk)
 have gi := piecesG_get _ _ _ _ (atP_get hi)
 obtain ⟨_, _, _, nk, _, fk⟩ := piece_bd hb (atP_mem hk)
 obtain ⟨_, _, _, ni, _, fi⟩ := piece_bd hb (atP_mem hi)
 rw [fk, fi]
 have ho := lex_ord _ s (Nat.lt_succ_self _) hb
 rw [← parts_flat (lexS s), ← List.take_append_drop (k + 1) (partsS (lexS s)), List.flatten_append] at ho
 have m1 : (atP (piecesS s) k).f3 ∈ (partsS (lexS s)).take (k + 1) := List.mem_of_getElem? (i := k) (by rw [List.getElem?_take, if_pos (by omega)]; exact gk)
 have m2 : (atP (piecesS s) i).f3 ∈ (partsS (lexS s)).drop (k + 1) := List.mem_of_getElem? (i := i - (k + 1)) (by rw [List.getElem?_drop, show k + 1 + (i - (k + 1)) = i by omega]; exact gi)
 have t1 : (atP (piecesS s) k).f3.getLastD z39 ∈ ((partsS (lexS s)).take (k + 1)).flatten := List.mem_flatten.2 ⟨_, m1, last_mem nk⟩
 have t2 : (atP (piecesS s) i).f3.getLastD z39 ∈ ((partsS (lexS s)).drop (k + 1)).flatten := List.mem_flatten.2 ⟨_, m2, last_mem ni⟩
 have h1 := ord_cross ho _ t1 _ t2
 obtain ⟨_, _, hr⟩ := Ord.right ho
 have h2 := (hr.mem _ t2).2.1
 omega
theorem in_piece {s : List Int} (hb : Bytes s) {i : Nat} (hi : i < (piecesS s).length) : inP s (atP (piecesS s) i) := by
 obtain ⟨h1, h2, h3, _⟩ := piece_bd hb (atP_mem hi)
 exact ⟨h1, by omega, h3⟩
/-- of a text that is not changed all are kept -/
theorem keep_self {s : List Int} (hb : Bytes s) : aheadN s s (piecesS s) (piecesS s) = (piecesS s).length ∧ behindN s s (piecesS s) (piecesS s) = 0 := by
 have h1 : (piecesS s).length ≤ aheadN s s (piecesS s) (piecesS s) := by
  refine upto_ge (fun k _ hk => ?_) (by rw [Nat.min_self]; omega) (Nat.zero_le _)
  unfold aheadP sameP
  rw [decide_eq_true (in_piece hb hk)]; simp
 have h2 := (upto_spec (aheadP s s (piecesS s) (piecesS s)) (min (piecesS s).length (piecesS s).length) 0).2.1
 rw [Nat.min_self, Nat.zero_add] at h2
 have h3 : aheadN s s (piecesS s) (piecesS s) = (piecesS s).length := by
  unfold aheadN at *
  rw [Nat.min_self] at *
  omega
 refine ⟨h3, ?_⟩
 unfold behindN
 rw [h3, Nat.min_self, Nat.sub_self]; rfl
/-- the clauses that end two bytes ahead of the edit are kept -/
theorem edit_keeps {s z : List Int} (hb : Bytes s) (hz : Bytes z) {A i : Nat} (hA : A ≤ s.length) (hi : i < (piecesS s).length) (h7 : ((atP (piecesS s) i).f3.getLastD z39).f0 = 7) (hat : (atP (piecesS s) i).f1 < (A : Int)) :
  i < aheadN s (s.take A ++ z) (piecesS s) (piecesS (s.take A ++ z)) := by
 have hk := keep_pieces hb (atP_get hi) h7 hat hA hz
 have hcb : Bytes (s.take A ++ z) := lapp (hb.take A) hz
 generalize hc : s.take A ++ z = c at hk hcb
 have hlen : i + 1 ≤ (piecesS c).length := by
  have := congrArg List.length hk
  rw [List.length_take, List.length_take] at this
  omega
 have hsame : ∀ k, k < i + 1 → atP (piecesS c) k = atP (piecesS s) k := by
  intro k hk1
  have h1 : ((piecesS c).take (i + 1))[k]? = ((piecesS s).take (i + 1))[k]? := by rw [hk]
  rw [List.getElem?_take, List.getElem?_take, if_pos hk1, if_pos hk1, atP_get (by omega), atP_get (by omega)] at h1
  exact Option.some.inj h1
 show i + 1 ≤ _
 refine upto_ge (fun k _ hk1 => ?_) (by omega) (Nat.zero_le _)
 have hks : k < (piecesS s).length := by omega
 have i1 := in_piece hb hks
 have i2 := in_piece hcb (show k < (piecesS c).length by omega)
 have ho := piece_ord hb (show k ≤ i by omega) hi
 unfold aheadP sameP
 rw [hsame k hk1] at i2 ⊢
 rw [decide_eq_true i1, decide_eq_true i2]
 have hby : bytP s (atP (piecesS s) k) = bytP c (atP (piecesS s) k) := by
  unfold bytP
  have : c.take (atP (piecesS s) k).f1.toNat = s.take (atP (piecesS s) k).f1.toNat := by
   rw [← hc, List.take_append_of_le_length (by rw [List.length_take]; omega), List.take_take, Nat.min_eq_left (by omega)]
  rw [this]
 rw [hby]; simp
theorem first_loop (a c : List Int) (A : Nat) (old now : List PieceR) (n : Nat) (m : Int) (hob : ∀ i, i < old.length → 0 < (atP old i).f3.length ∧ (atP old i).f3.length ≤ 1000 ∧ 0 ≤ (atP old i).f1 ∧ (atP old i).f1 ≤ 1000)
  (hold : old.length ≤ 1000) (hk : ∀ i, i < old.length → ((atP old i).f3.getLastD z39).f0 = 7 → (atP old i).f1 + 1 < (A : Int) → i < n)
  (hend : Ev (fun k => tmesislaw24_MatchEdits.l1 k a c old now (n : Int) m 0) true) (d : Nat) :
  ∀ i : Nat, i + d = old.length → Ev (fun k => tmesislaw24_MatchEdits.l0 k a (A : Int) c old now (n : Int) m (i : Int)) true := by
 induction d with
 | zero => intro i h; exact Ev.step (fun k => tmesislaw24_MatchEdits.l0.eq_2 ..) (ev_else (by omega) hend)
 | succ d ih =>
  intro i h
  obtain ⟨b1, b2, b3, b4⟩ := hob i (by omega)
  have hw : wrap64 (((atP old i).f3.length : Int) - 1) = (((atP old i).f3.length - 1 : Nat) : Int) := by rw [w64 (by omega) (by omega)]; omega
  have next : Ev (fun k => tmesislaw24_MatchEdits.j3 k a (A : Int) c old now (n : Int) m (i : Int) false) true := by
   refine Ev.step (fun k => tmesislaw24_MatchEdits.j3.eq_2 ..) (ev_else Bool.false_ne_true ?_)
   rw [w64n (by omega)]
   exact ih (i + 1) (by omega)
  refine Ev.step (fun k => tmesislaw24_MatchEdits.l0.eq_2 ..) ?_
  rw [rdP_at]
  refine ev_if (by omega) (ev_if (by omega) (ev_if (by omega) (ev_if (by rw [hw]; omega) (ev_if (by rw [hw]; omega) ?_))))
  rw [rdT_last (List.length_pos_iff.1 b1) (by omega)]
  refine Ev.step (fun k => tmesislaw24_MatchEdits.j2.eq_2 ..) ?_
  by_cases h7 : ((atP old i).f3.getLastD z39).f0 = 7
  ·refine ev_if (by simpa using h7) (ev_if (by omega) (ev_if (by omega) ?_))
   rw [rdP_at, w64 (i := (atP old i).f1 + 1) (by omega) (by omega)]
   by_cases hc : (atP old i).f1 + 1 < (A : Int)
   ·have := hk i (by omega) h7 hc
    refine ev_if hc ?_
    rw [show decide ((i : Int) ≥ (n : Int)) = false from decide_eq_false (by omega)]
    exact next
   ·exact ev_else hc next
  ·exact ev_else (by simpa using h7) next
theorem second_loop {a c : List Int} (ha : Bytes a) (hc : Bytes c) (old now : List PieceR) (n : Nat) (m : Int) (hno : n ≤ old.length) (hnn : n ≤ now.length) (hold : n ≤ 1000) (hk : ∀ i, i < n → aheadP a c old now i = true)
  (hend : Ev (fun k => tmesislaw24_MatchEdits.l2 k a c old now m 1) true) (d : Nat) :
  ∀ i : Nat, i + d = n → Ev (fun k => tmesislaw24_MatchEdits.l1 k a c old now (n : Int) m (i : Int)) true := by
 induction d with
 | zero => intro i h; exact Ev.step (fun k => tmesislaw24_MatchEdits.l1.eq_2 ..) (ev_else (by omega) hend)
 | succ d ih =>
  intro i h
  have hp := hk i (by omega)
  unfold aheadP at hp
  rw [Bool.and_eq_true] at hp
  obtain ⟨hs, hf⟩ := hp
  have hf := of_decide_eq_true hf
  obtain ⟨⟨p1, p2, p3⟩, ⟨q1, q2, q3⟩, hbt⟩ := sameP_spec hs
  have hl := same_len hs
  refine Ev.step (fun k => tmesislaw24_MatchEdits.l1.eq_2 ..) ?_
  rw [rdP_at, rdP_at]
  refine ev_if (by omega) (ev_if (by omega) (ev_if (by omega) (ev_if (by omega) (ev_if hf (ev_if (by omega) (ev_if p1 (ev_if p2 (ev_if p3 (ev_if q1 (ev_if q2 (ev_if q3 ?_)))))))))))
  have hb2 : ((strOfNums ((a.take (atP old i).f1.toNat).drop (atP old i).f0.toNat)).toList != (strOfNums ((c.take (atP now i).f1.toNat).drop (atP now i).f0.toNat)).toList) = false := by
   have : (a.take (atP old i).f1.toNat).drop (atP old i).f0.toNat = (c.take (atP now i).f1.toNat).drop (atP now i).f0.toNat := hbt
   rw [this, bne_self_eq_false]
  rw [hb2]
  refine Ev.step (fun k => tmesislaw24_MatchEdits.j5.eq_2 ..) (ev_else Bool.false_ne_true ?_)
  rw [w64n (by omega)]
  exact ih (i + 1) (by omega)
theorem third_loop {a c : List Int} (ha : Bytes a) (hc : Bytes c) (hal : a.length ≤ 1000) (hcl : c.length ≤ 1000) (old now : List PieceR) (m : Nat) (hno : m ≤ old.length) (hnn : m ≤ now.length) (ho : old.length ≤ 1000) (hn : now.length ≤ 1000) (hk : ∀ i, i < m → behindP a c old now i = true) (d : Nat) :
  ∀ i : Nat, i + d = m → Ev (fun k => tmesislaw24_MatchEdits.l2 k a c old now (m : Int) ((i + 1 : Nat) : Int)) true := by
 induction d with
 | zero => intro i h; exact Ev.step (fun k => tmesislaw24_MatchEdits.l2.eq_2 ..) (ev_else (by omega) (Ev.now _))
 | succ d ih =>
  intro i h
  have hp := hk i (by omega)
  unfold behindP at hp
  rw [Bool.and_eq_true] at hp
  obtain ⟨hs, hf⟩ := hp
  have hf := of_decide_eq_true hf
  obtain ⟨⟨p1, p2, p3⟩, ⟨q1, q2, q3⟩, hbt⟩ := sameP_spec hs
  have hl := same_len hs
  have e1 : wrap64 ((old.length : Int) - ((i + 1 : Nat) : Int)) = ((old.length - 1 - i : Nat) : Int) := by rw [w64 (by omega) (by omega)]; omega
  have e2 : wrap64 ((now.length : Int) - ((i + 1 : Nat) : Int)) = ((now.length - 1 - i : Nat) : Int) := by rw [w64 (by omega) (by omega)]; omega
  refine Ev.step (fun k => tmesislaw24_MatchEdits.l2.eq_2 ..) ?_
  rw [e1, e2, rdP_at, rdP_at]
  generalize hP : atP old (old.length - 1 - i) = P at *
  generalize hQ : atP now (now.length - 1 - i) = Q at *
  have e3 : wrap64 (Q.f0 - P.f0) = wrap64 ((c.length : Int) - (a.length : Int)) := by rw [w64 (by omega) (by omega), w64 (by omega) (by omega)]; omega
  refine ev_if (by omega) (ev_if (by omega) (ev_if (by omega) (ev_if (by omega) (ev_if (by omega) (ev_if e3 (ev_if p1 (ev_if p2 (ev_if p3 (ev_if q1 (ev_if q2 (ev_if q3 ?_)))))))))))
  have hb2 : ((strOfNums ((a.take P.f1.toNat).drop P.f0.toNat)).toList != (strOfNums ((c.take Q.f1.toNat).drop Q.f0.toNat)).toList) = false := by
   have : (a.take P.f1.toNat).drop P.f0.toNat = (c.take Q.f1.toNat).drop Q.f0.toNat := hbt
   rw [this, bne_self_eq_false]
  rw [hb2]
  refine Ev.step (fun k => tmesislaw24_MatchEdits.j7.eq_2 ..) (ev_else Bool.false_ne_true ?_)
  rw [w64n (by omega)]
  exact ih (i + 1) (by omega)
/-- all behind the first tests -/
theorem edits_ev {a z : List Int} (ha : Bytes a) (hz : Bytes z) (hal : a.length ≤ 200) (hzl : z.length ≤ 300) (A : Nat) (hA : A ≤ a.length) (c : List Int) (hc : c = a.take A ++ z) :
  Ev (fun k => tmesislaw24_MatchEdits.j0 k a (A : Int) c (piecesS a) (piecesS c) ((aheadN a c (piecesS a) (piecesS c) : Nat) : Int) ((behindN a c (piecesS a) (piecesS c) : Nat) : Int) false) true := by
 have hcb : Bytes c := by rw [hc]; exact lapp (ha.take A) hz
 have hcl : c.length ≤ 1000 := by rw [hc, List.length_append, List.length_take]; omega
 have l1 := pieces_len ha
 have l2 := pieces_len hcb
 have hle := keep_le a c (piecesS a) (piecesS c)
 have hkeep : ∀ i, i < (piecesS a).length → ((atP (piecesS a) i).f3.getLastD z39).f0 = 7 → (atP (piecesS a) i).f1 + 1 < (A : Int) → i < aheadN a c (piecesS a) (piecesS c) := by
  intro i hi h7 hlt
  have := edit_keeps ha hz hA hi h7 (by omega)
  rwa [← hc] at this
 have hah := (upto_spec (aheadP a c (piecesS a) (piecesS c)) (min (piecesS a).length (piecesS c).length) 0).2.2.1
 have hbh := (upto_spec (behindP a c (piecesS a) (piecesS c)) (min (piecesS a).length (piecesS c).length - aheadN a c (piecesS a) (piecesS c)) 0).2.2.1
 have hob : ∀ i, i < (piecesS a).length → 0 < (atP (piecesS a) i).f3.length ∧ (atP (piecesS a) i).f3.length ≤ 1000 ∧ 0 ≤ (atP (piecesS a) i).f1 ∧ (atP (piecesS a) i).f1 ≤ 1000 := by
  intro i hi
  have hm := atP_mem hi
  obtain ⟨b1, b2, b3, b4, _⟩ := piece_bd ha hm
  have b5 := cpart_len _ _ (cpieces_part _ _ _ hm)
  have b6 := lexS_len _ a (Nat.lt_succ_self _) ha
  exact ⟨List.length_pos_iff.2 b4, by omega, by omega, by omega⟩
 have t3 := third_loop ha hcb (by omega) hcl (piecesS a) (piecesS c) (behindN a c (piecesS a) (piecesS c)) (by omega) (by omega) (by omega) (by omega) (fun i hi => hbh i (Nat.zero_le _) hi) (behindN a c (piecesS a) (piecesS c)) 0 (by omega)
 have t2 := second_loop ha hcb (piecesS a) (piecesS c) (aheadN a c (piecesS a) (piecesS c)) _ (by omega) (by omega) (by omega) (fun i hi => hah i (Nat.zero_le _) hi) t3 (aheadN a c (piecesS a) (piecesS c)) 0 (by omega)
 have t1 := first_loop a c A (piecesS a) (piecesS c) (aheadN a c (piecesS a) (piecesS c)) _ hob (by omega) hkeep t2 (piecesS a).length 0 (by omega)
 exact Ev.step (fun k => tmesislaw24_MatchEdits.j0.eq_2 ..) (ev_else Bool.false_ne_true t1)
theorem MatchEdits : tmesislaw24_MatchEdits.Pure := by
 intro l x y B hl _ _ hB
 have ha := (bytes_wf hl.2.2).take 200
 have hBb := bytes_wf hB.2.2
 have hal : (l.take 200).length ≤ 200 := by rw [List.length_take]; omega
 apply Ev.rounds
 unfold tmesislaw24_MatchEdits.f
 refine Ev.bind shown_ev (ev_same (few_eq l) ?_)
 clear hl
 generalize l.take 200 = a at *
 obtain ⟨A, eA, hA⟩ := at_ex a.length hal x
 rw [eA]
 clear eA
 rw [left_eq a.length A hal hA]
 obtain ⟨D, eD, hD⟩ := del_ex (a.length - A + 1) (by omega) (by omega) y
 rw [eD]
 clear eD
 rw [sum_eq A D (by omega) (by omega), one_eq a.length hal]
 have hm1 : 0 ≤ mn (B.length : Int) 50 := by unfold mn; split <;> omega
 have hm2 : mn (B.length : Int) 50 ≤ (B.length : Int) := by unfold mn; split <;> omega
 have hm3 : (mn (B.length : Int) 50).toNat ≤ 50 := by unfold mn; split <;> omega
 generalize mn (B.length : Int) 50 = M at *
 have hBl : (B.take M.toNat).length ≤ 50 := by rw [List.length_take]; omega
 have hBt : Bytes (B.take M.toNat) := hBb.take _
 generalize B.take M.toNat = Z at *
 have htk : a.take ((A : Int)).toNat = a.take A := rfl
 have hdr : a.drop (((A + D : Nat) : Int)).toNat = a.drop (A + D) := rfl
 have hlt : (a.take A).length ≤ 200 := by rw [List.length_take]; omega
 have hld : (a.drop (A + D)).length ≤ 200 := by rw [List.length_drop]; omega
 refine ev_else (by omega) (ev_else (by omega) (ev_let (ev_if (Int.natCast_nonneg _) (ev_if (Int.ofNat_le.2 hA) (ev_let ?_)))))
 rw [htk, hdr]
 refine ev_if (by simp; omega) (ev_let (ev_if hm1 (ev_if hm2 (ev_if (by simp; omega) (ev_let (ev_if (Int.natCast_nonneg _) (ev_if (Int.ofNat_le.2 (by omega)) (ev_let (ev_if (by simp; omega) (ev_let ?_))))))))))
 have hc : [] ++ a.take A ++ Z ++ a.drop (A + D) = a.take A ++ (Z ++ a.drop (A + D)) := by simp
 have hz : Bytes (Z ++ a.drop (A + D)) := lapp hBt (ha.drop _)
 have hzl : (Z ++ a.drop (A + D)).length ≤ 300 := by rw [List.length_append]; omega
 have hev := edits_ev ha hz hal hzl A hA _ hc
 generalize [] ++ a.take A ++ Z ++ a.drop (A + D) = c at *
 have hcb : Bytes c := by rw [hc]; exact lapp (ha.take A) hz
 have hcl : c.length ≤ 1000 := by rw [hc, List.length_append]; omega
 have l1 := pieces_len ha
 have l2 := pieces_len hcb
 have k1 := keep_ev ha hcb (by omega) (by omega) (piecesS a) (piecesS c) (by omega) (by omega)
 have k2 := keep_ev ha ha (by omega) (by omega) (piecesS a) (piecesS a) (by omega) (by omega)
 obtain ⟨s1, s2⟩ := keep_self ha
 rw [s1, s2] at k2
 have hle := keep_le a c (piecesS a) (piecesS c)
 have hw := sum_eq (aheadN a c (piecesS a) (piecesS c)) (behindN a c (piecesS a) (piecesS c)) (by omega) (by omega)
 refine Ev.bind (pieces_ev a ha (by omega)) (Ev.bind (pieces_ev c hcb (by omega)) (Ev.bind k1 (Ev.bind k2 ?_)))
 simp only [hw]
 clear hw
 have g1 : ¬ ((aheadN a c (piecesS a) (piecesS c) : Nat) : Int) < 0 := Int.not_lt.2 (Int.natCast_nonneg _)
 have g2 : ¬ ((behindN a c (piecesS a) (piecesS c) : Nat) : Int) < 0 := Int.not_lt.2 (Int.natCast_nonneg _)
 have g3 : ¬ ((aheadN a c (piecesS a) (piecesS c) + behindN a c (piecesS a) (piecesS c) : Nat) : Int) > ((piecesS a).length : Int) := by omega
 have g4 : ¬ ((aheadN a c (piecesS a) (piecesS c) + behindN a c (piecesS a) (piecesS c) : Nat) : Int) > ((piecesS c).length : Int) := by omega
 refine ev_if (by simp) (ev_if (by simp) (ev_if (by simp) (ev_else g1 (ev_else g2 (ev_else g3 ?_)))))
 rw [decide_eq_false g4]
 exact hev
end Go.Proofs.YtklpephnbkoinaaDoor.Pure
