/- Part of the proof: what the theorem needs of this text. -/
import Derived.Test.YtkbkmapaeidedaaKHCT
import Derived.Test.YtkbkmapaeidedaaKHIB
import Derived.Test.YtkbkmapaeidedaaKPx1
import Derived.Test.YtkbkmapaeidedaaKPx2
import Derived.Test.YtkbkmapaeidedaaKPx3
import Derived.Test.YtkbkmapaeidedaaKPx4
import Derived.Test.YtkbkmapaeidedaaMW1
import Derived.Lib.BytesEntry
import Derived.Test.YtkbkmapaeidedaaProg
import Derived.WalkKit
import Derived.ProofKit
import Derived.OpenShut
import Derived.KernelRfl
namespace Go.Proofs.Ytkbkmapaeidedaa.P
set_option linter.unusedSimpArgs false
set_option linter.unusedVariables false
open Go.RowKit Go.Proofs.YtkbkmapaeidedaaW.PrintWords Go.Proofs.YtkbkmapaeidedaaW.PrintLast Go.Proofs.YtkbkmapaeidedaaW.PrintMore
section
variable {α β : Type}
theorem ev_if {c : Prop} [Decidable c] {a b : Nat → Option α} {r : α} (hc : c) (h : Ev a r) : Ev (fun k => if c then a k else b k) r := by simpa only [if_pos hc] using h
theorem ev_else {c : Prop} [Decidable c] {a b : Nat → Option α} {r : α} (hc : ¬ c) (h : Ev b r) : Ev (fun k => if c then a k else b k) r := by simpa only [if_neg hc] using h
theorem ev_same {o : Option β} {y : β} {f : Nat → β → Option α} {r : α} (ho : o = some y) (h : Ev (fun k => f k y) r) : Ev (fun k => o.bind (f k)) r := by subst ho; exact h
theorem ev_eq {g : Nat → Option α} {r r' : α} (h : Ev g r) (e : r = r') : Ev g r' := e ▸ h
theorem ev_now {r r' : α} (e : r = r') : Ev (fun _ => some r) r' := e ▸ Ev.now r
end
theorem w64 {i : Int} (h0 : -9223372036854775808 ≤ i) (h1 : i ≤ 9223372036854775807) : wrap64 i = i := by unfold wrap64; omega
theorem mn_le (n : Nat) (m : Int) (hm : 0 ≤ m) : (mn (n : Int) m).toNat = min n m.toNat := by unfold mn; split <;> omega
end Go.Proofs.Ytkbkmapaeidedaa.P
namespace Go.Proofs.Ytkbkmapaeidedaa.P
set_option linter.unusedSimpArgs false
set_option linter.unusedVariables false
open Go.RowKit Go.Proofs.YtkbkmapaeidedaaW.PrintWords Go.Proofs.YtkbkmapaeidedaaW.PrintLast Go.Proofs.YtkbkmapaeidedaaW.PrintMore
theorem rd_at (l : List Int) (i : Nat) (h : i < l.length) : rd l (i : Int) = l[i] := by
 show l.getD i 0 = l[i]
 rw [List.getD_eq_getElem?_getD, List.getElem?_eq_getElem h]; rfl
def Bytes (l : List Int) : Prop := ∀ x ∈ l, 0 ≤ x ∧ x < 256
theorem u8_wf {x : Int} (h : (Lit.int .u8 x).wf = true) : 0 ≤ x ∧ x < 256 := by
 simp [Lit.wf, IntKind.min, IntKind.max, IntKind.signed, IntKind.bits] at h
 omega
theorem bytes_wf {l : List Int} (h : ∀ x ∈ l, (Lit.int .u8 x).wf = true) : Bytes l := fun x hx => u8_wf (h x hx)
theorem Bytes.take {l : List Int} (h : Bytes l) (n : Nat) : Bytes (l.take n) := fun x hx => h x (List.mem_of_mem_take hx)
theorem Bytes.drop {l : List Int} (h : Bytes l) (n : Nat) : Bytes (l.drop n) := fun x hx => h x (List.mem_of_mem_drop hx)
theorem Bytes.cons {c : Int} {r : List Int} (h : Bytes (c :: r)) : (0 ≤ c ∧ c < 256) ∧ Bytes r := ⟨h c (by simp), fun x hx => h x (by simp [hx])⟩
theorem u8_inj {x y : Int} (hx : 0 ≤ x ∧ x < 256) (hy : 0 ≤ y ∧ y < 256) (h : UInt8.ofNat x.toNat = UInt8.ofNat y.toNat) : x = y := by
 have := congrArg UInt8.toNat h
 rw [UInt8.toNat_ofNat', UInt8.toNat_ofNat'] at this
 omega
/-- how long the rest of the line is -/
def lineS (l : List Int) : Nat := (l.takeWhile fun c => c != 10).length
theorem lineS_cons (c : Int) (r : List Int) : lineS (c :: r) = if c = 10 then 0 else lineS r + 1 := by
 unfold lineS
 by_cases h : c = 10 <;> simp [List.takeWhile_cons, h]
theorem lineS_le (l : List Int) : lineS l ≤ l.length := List.Sublist.length_le (List.takeWhile_sublist _)
theorem index_line (l : List Int) (hl : Bytes l) : (Lib.indexByte (Lib.bytesOf l) (10 : Int).toNat.toUInt8 = -1 ∧ lineS l = l.length) ∨ (Lib.indexByte (Lib.bytesOf l) (10 : Int).toNat.toUInt8 = (lineS l : Int) ∧ lineS l < l.length) := by
 induction l with
 | nil => left; exact ⟨rfl, rfl⟩
 | cons c r ih =>
  obtain ⟨hc, hr⟩ := hl.cons
  have e : Lib.indexByte (Lib.bytesOf (c :: r)) (10 : Int).toNat.toUInt8 = if (c.toNat.toUInt8 == (10 : Int).toNat.toUInt8) = true then 0 else if (Lib.indexByte (Lib.bytesOf r) (10 : Int).toNat.toUInt8 == -1) = true then -1 else Lib.indexByte (Lib.bytesOf r) (10 : Int).toNat.toUInt8 + 1 := rfl
  rw [e, lineS_cons]
  by_cases h : c = 10
  ·subst h
   right
   rw [if_pos rfl, if_pos (by decide)]
   exact ⟨rfl, by simp⟩
  ·have hne : ¬ (c.toNat.toUInt8 == (10 : Int).toNat.toUInt8) = true := by
    rw [beq_iff_eq]
    exact fun hh => h (u8_inj hc (by omega) hh)
   rw [if_neg h, if_neg hne]
   rcases ih hr with ⟨h1, h2⟩ | ⟨h1, h2⟩
   ·left
    rw [h1, if_pos (by decide)]
    exact ⟨rfl, by simp [h2]⟩
   ·right
    rw [h1, if_neg (by rw [beq_iff_eq]; omega)]
    exact ⟨by omega, by simp; omega⟩
end Go.Proofs.Ytkbkmapaeidedaa.P
namespace Go.Proofs.Ytkbkmapaeidedaa.P
set_option linter.unusedSimpArgs false
set_option linter.unusedVariables false
open Go.RowKit Go.Proofs.Ytkbkmapaeidedaa.P Go.Proofs.YtkbkmapaeidedaaW.PrintWords Go.Proofs.YtkbkmapaeidedaaW.PrintLast Go.Proofs.YtkbkmapaeidedaaW.PrintMore
/-- how many newlines -/
def nls : List Int → Nat
 | [] => 0
 | c :: r => if c = 10 then nls r + 1 else nls r
theorem nls_cons (c : Int) (r : List Int) : nls (c :: r) = if c = 10 then nls r + 1 else nls r := rfl
theorem nls_append (a b : List Int) : nls (a ++ b) = nls a + nls b := by
 induction a with
 | nil => show nls b = 0 + nls b; omega
 | cons c r ih =>
  rw [List.cons_append, nls_cons, nls_cons, ih]
  split <;> omega
theorem nls_snoc (l : List Int) (c : Int) : nls (l ++ [c]) = if c = 10 then nls l + 1 else nls l := by
 rw [nls_append, nls_cons]
 by_cases h : c = 10
 ·rw [if_pos h, if_pos h]; rfl
 ·rw [if_neg h, if_neg h]; rfl
theorem nls_le (l : List Int) : nls l ≤ l.length := by
 induction l with
 | nil => exact Nat.le_refl _
 | cons c r ih => rw [nls_cons, List.length_cons]; split <;> omega
theorem nls_reverse (l : List Int) : nls l.reverse = nls l := by
 induction l with
 | nil => rfl
 | cons c r ih => rw [List.reverse_cons, nls_snoc, nls_cons, ih]
theorem lineS_append (a b : List Int) : lineS (a ++ b) = if nls a = 0 then a.length + lineS b else lineS a := by
 induction a with
 | nil => show lineS b = if nls [] = 0 then 0 + lineS b else lineS []; rw [if_pos (by rfl)]; omega
 | cons c r ih =>
  rw [List.cons_append, lineS_cons, lineS_cons, nls_cons, ih, List.length_cons]
  by_cases h : c = 10
  ·rw [if_pos h, if_pos h, if_pos h, if_neg (by omega)]
  ·rw [if_neg h, if_neg h, if_neg h]
   split <;> omega
/-- how long the last line is -/
def colS (l : List Int) : Nat := lineS l.reverse
theorem colS_snoc (l : List Int) (c : Int) : colS (l ++ [c]) = if c = 10 then 0 else colS l + 1 := by
 unfold colS
 rw [List.reverse_append, List.reverse_singleton, List.singleton_append, lineS_cons]
theorem colS_append (a b : List Int) : colS (a ++ b) = if nls b = 0 then colS a + b.length else colS b := by
 unfold colS
 rw [List.reverse_append, lineS_append, nls_reverse, List.length_reverse]
 split <;> omega
theorem colS_le (l : List Int) : colS l ≤ l.length := by
 unfold colS
 have := lineS_le l.reverse
 rw [List.length_reverse] at this
 exact this
theorem take_snoc (l : List Int) (i : Nat) (h : i < l.length) : l.take (i + 1) = l.take i ++ [l[i]] := by
 rw [List.take_add_one, List.getElem?_eq_getElem h]; rfl
theorem count_nls (l : List Int) (hl : Bytes l) : Lib.countByte (Lib.bytesOf l) (10 : Int).toNat.toUInt8 = nls l := by
 induction l with
 | nil => rfl
 | cons c r ih =>
  obtain ⟨hc, hr⟩ := hl.cons
  rw [nls_cons, ← ih hr]
  show List.count _ (c.toNat.toUInt8 :: Lib.bytesOf r) = _
  rw [List.count_cons]
  by_cases h : c = 10
  ·subst h
   rw [if_pos rfl, if_pos (by decide)]; rfl
  ·rw [if_neg h, if_neg]
   ·rfl
   ·rw [beq_iff_eq]
    exact fun hh => h (u8_inj hc (by omega) hh)
theorem cnt_eq (l : List Int) (hl : Bytes l) : bytes_Count.f l [10] = some (nls l : Int) := by
 unfold bytes_Count.f
 rw [if_pos (by rfl), show rd ([10] : List Int) 0 = 10 from rfl, count_nls l hl]
theorem rd_L1_0 (a : List Int) (r : List (List Int)) : rd_L1 (a :: r) 0 = a := rfl
theorem rd_L1_1 (a b : List Int) (r : List (List Int)) : rd_L1 (a :: b :: r) 1 = b := rfl
theorem ends1_ev (l : List Int) (hl : Bytes l) (hn : l.length ≤ 1000000) : Ev (fun k => lines_ends.f k [l]) (nls l : Int) := by
 have h1 := nls_le l
 unfold lines_ends.f
 refine Ev.step (fun k => lines_ends.l0.eq_2 ..) (ev_if (by simp) (ev_if (by omega) (ev_if (by simp) ?_)))
 rw [rd_L1_0]
 refine ev_same (cnt_eq l hl) ?_
 rw [w64 (by omega) (by omega), w64 (by omega) (by omega)]
 exact Ev.step (fun k => lines_ends.l0.eq_2 ..) (ev_else (by simp) (ev_now (by omega)))
theorem ends2_ev (l : List Int) (hl : Bytes l) (hn : l.length ≤ 1000000) : Ev (fun k => lines_ends.f k [l, [10]]) ((nls l + 1 : Nat) : Int) := by
 have h1 := nls_le l
 unfold lines_ends.f
 refine Ev.step (fun k => lines_ends.l0.eq_2 ..) (ev_if (by simp) (ev_if (by omega) (ev_if (by simp) ?_)))
 rw [rd_L1_0]
 refine ev_same (cnt_eq l hl) ?_
 rw [w64 (by omega) (by omega), w64 (by omega) (by omega)]
 refine Ev.step (fun k => lines_ends.l0.eq_2 ..) (ev_if (by simp) (ev_if (by omega) (ev_if (by simp) ?_)))
 rw [show (0 : Int) + 1 = 1 from rfl, rd_L1_1]
 refine ev_same (cnt_eq [10] (fun x hx => by simp at hx; omega)) ?_
 rw [show nls [10] = 1 from rfl, w64 (by omega) (by omega), w64 (by omega) (by omega)]
 exact Ev.step (fun k => lines_ends.l0.eq_2 ..) (ev_else (by simp) (ev_now (by omega)))
theorem count_ev (l : List Int) (hl : Bytes l) (hn : l.length ≤ 1000000) : Ev (fun k => lines_Count.f k l) ((nls l + 1 : Nat) : Int) := by
 unfold lines_Count.f
 exact Ev.bind (ends2_ev l hl hn) (ev_now rfl)
theorem last_loop (l : List Int) (hn : l.length ≤ 1000000) : ∀ n : Nat, n ≤ l.length → Ev (fun k => bytealg_LastIndexByte.l0 k l 10 ((n : Int) - 1)) ((n : Int) - 1 - colS (l.take n)) := by
 intro n
 induction n with
 | zero =>
  intro h
  exact Ev.step (fun k => bytealg_LastIndexByte.l0.eq_2 ..) (ev_else (by omega) (ev_now rfl))
 | succ n ih =>
  intro h
  have hlt : n < l.length := by omega
  rw [show ((n + 1 : Nat) : Int) - 1 = (n : Int) by omega, take_snoc l n hlt, colS_snoc]
  refine Ev.step (fun k => bytealg_LastIndexByte.l0.eq_2 ..) (ev_if (by omega) (ev_if (by omega) (ev_if (by omega) ?_)))
  rw [rd_at l n hlt, w64 (by omega) (by omega)]
  by_cases hc : l[n] = 10
  ·rw [if_pos hc]
   exact ev_if hc (ev_now (by omega))
  ·rw [if_neg hc]
   refine ev_else hc (ev_eq (ih (by omega)) ?_)
   omega
theorem last_ev (l : List Int) (hn : l.length ≤ 1000000) : Ev (fun k => bytes_LastIndexByte.f k l 10) ((l.length : Int) - 1 - colS l) := by
 unfold bytes_LastIndexByte.f bytealg_LastIndexByte.f
 rw [w64 (by omega) (by omega)]
 have := last_loop l hn l.length (Nat.le_refl _)
 rw [List.take_length] at this
 exact Ev.bind this (ev_now rfl)
theorem place_ev (l : List Int) (hl : Bytes l) (hn : l.length ≤ 1000000) (p : Nat) (hp : p ≤ l.length) : Ev (fun k => lines_Place.f k l (p : Int)) ((nls (l.take p) : Int), (colS (l.take p) : Int), 0) := by
 unfold lines_Place.f
 have hlt : (l.take p).length = p := by rw [List.length_take]; omega
 have hc := colS_le (l.take p)
 refine ev_else (by omega) (Ev.step (fun k => lines_Place.j0.eq_2 ..) (ev_else (by rw [decide_eq_true_eq]; omega) (ev_if (by omega) (ev_if (by omega) ?_))))
 rw [show l.take ((p : Int)).toNat = l.take p from rfl]
 refine Ev.bind (ends1_ev _ (hl.take p) (by omega)) (Ev.bind (last_ev _ (by omega)) (ev_now ?_))
 rw [hlt, w64 (i := (p : Int) - 1) (by omega) (by omega), w64 (by omega) (by omega)]
 congr 2
 omega
theorem place_out (l : List Int) (p : Int) (hp : p < 0 ∨ p > (l.length : Int)) : Ev (fun k => lines_Place.f k l p) ((0 : Int), (0 : Int), (3 : Int)) := by
 unfold lines_Place.f
 by_cases h : p < 0
 ·exact ev_if h (Ev.step (fun k => lines_Place.j0.eq_2 ..) (ev_if rfl (ev_now rfl)))
 ·exact ev_else h (Ev.step (fun k => lines_Place.j0.eq_2 ..) (ev_if (by rw [decide_eq_true_eq]; omega) (ev_now rfl)))
/-- a place and its line and column -/
def IsAt (l : List Int) (p : Nat) (line col : Int) : Prop := p ≤ l.length ∧ (nls (l.take p) : Int) = line ∧ (colS (l.take p) : Int) = col
theorem take_more (l : List Int) {p q : Nat} (h : p ≤ q) : l.take q = l.take p ++ (l.drop p).take (q - p) := by
 obtain ⟨d, rfl⟩ := Nat.le.dest h
 rw [List.take_add, Nat.add_sub_cancel_left]
theorem isAt_lt {l : List Int} {p q : Nat} {line col : Int} (hp : IsAt l p line col) (hq : IsAt l q line col) (h : p < q) : False := by
 obtain ⟨p1, p2, p3⟩ := hp
 obtain ⟨q1, q2, q3⟩ := hq
 rw [take_more l (Nat.le_of_lt h)] at q2 q3
 rw [nls_append] at q2
 rw [colS_append, if_pos (by omega), List.length_take, List.length_drop] at q3
 omega
theorem isAt_one {l : List Int} {p q : Nat} {line col : Int} (hp : IsAt l p line col) (hq : IsAt l q line col) : p = q := by
 rcases Nat.lt_trichotomy p q with h | h | h
 ·exact (isAt_lt hp hq h).elim
 ·exact h
 ·exact (isAt_lt hq hp h).elim
/-- what is told of a line and a column -/
def OffIs (l : List Int) (line col : Int) (r : Int × Int) : Prop := (∃ p, IsAt l p line col ∧ r = ((p : Int), 0)) ∨ ((∀ p, ¬ IsAt l p line col) ∧ r = (0, 3))
theorem offIs_one {l : List Int} {line col : Int} {r s : Int × Int} (h : OffIs l line col r) (h' : OffIs l line col s) : r = s := by
 rcases h with ⟨p, hp, rfl⟩ | ⟨hp, rfl⟩ <;> rcases h' with ⟨q, hq, rfl⟩ | ⟨hq, rfl⟩
 ·rw [isAt_one hp hq]
 ·exact (hq _ hp).elim
 ·exact (hp _ hq).elim
 ·rfl
theorem lineS_take (l : List Int) (n : Nat) (h : n ≤ lineS l) : nls (l.take n) = 0 := by
 induction l generalizing n with
 | nil => rw [List.take_nil]; rfl
 | cons c r ih =>
  cases n with
  | zero => rfl
  | succ n =>
   rw [lineS_cons] at h
   by_cases hc : c = 10
   ·rw [if_pos hc] at h; omega
   ·rw [if_neg hc] at h
    rw [List.take_succ_cons, nls_cons, if_neg hc]
    exact ih n (by omega)
theorem lineS_next (l : List Int) (h : lineS l < l.length) : l[lineS l] = 10 := by
 induction l with
 | nil => simp at h
 | cons c r ih =>
  by_cases hc : c = 10
  ·have e : lineS (c :: r) = 0 := by rw [lineS_cons, if_pos hc]
   simp only [e]
   exact hc
  ·have e : lineS (c :: r) = lineS r + 1 := by rw [lineS_cons, if_neg hc]
   simp only [e, List.getElem_cons_succ]
   rw [e, List.length_cons] at h
   exact ih (by omega)
theorem lineS_all (l : List Int) (h : nls l ≠ 0) : lineS l < l.length := by
 by_cases h2 : lineS l < l.length
 ·exact h2
 ·have := lineS_le l
  have e := lineS_take l l.length (by omega)
  rw [List.take_length] at e
  exact (h e).elim
/-- on the line that begins at a place -/
theorem isAt_on {l : List Int} {p : Nat} {line : Int} (hp : IsAt l p line 0) (c : Nat) (hc : c ≤ lineS (l.drop p)) : IsAt l (p + c) line c := by
 obtain ⟨p1, p2, p3⟩ := hp
 have h1 := lineS_le (l.drop p)
 rw [List.length_drop] at h1
 have h2 := lineS_take _ c hc
 refine ⟨by omega, ?_, ?_⟩
 ·rw [take_more l (show p ≤ p + c by omega), Nat.add_sub_cancel_left, nls_append, h2]; exact p2
 ·rw [take_more l (show p ≤ p + c by omega), Nat.add_sub_cancel_left, colS_append, if_pos h2, List.length_take, List.length_drop]; omega
theorem isAt_next {l : List Int} {p : Nat} {line : Int} (hp : IsAt l p line 0) (h : lineS (l.drop p) < (l.drop p).length) : IsAt l (p + lineS (l.drop p) + 1) (line + 1) 0 := by
 have hon := isAt_on hp _ (Nat.le_refl _)
 have h10 := lineS_next _ h
 rw [List.length_drop] at h
 obtain ⟨p1, p2, p3⟩ := hon
 have hlt : p + lineS (l.drop p) < l.length := by omega
 rw [List.getElem_drop] at h10
 refine ⟨by omega, ?_, ?_⟩
 ·rw [take_snoc l _ hlt, nls_snoc, if_pos h10]; omega
 ·rw [take_snoc l _ hlt, colS_snoc, if_pos h10]; rfl
/-- no further than the line -/
theorem isAt_past {l : List Int} {p : Nat} {line : Int} (hp : IsAt l p line 0) {c : Nat} (hc : lineS (l.drop p) < c) (q : Nat) : ¬ IsAt l q line c := by
 intro hq
 have h1 := lineS_le (l.drop p)
 rw [List.length_drop] at h1
 have hqe := hq
 obtain ⟨q1, q2, q3⟩ := hq
 have hpe := hp
 obtain ⟨p1, p2, p3⟩ := hp
 by_cases h : p ≤ q
 ·rw [take_more l h, nls_append] at q2
  rw [take_more l h, colS_append, if_pos (by omega), List.length_take, List.length_drop] at q3
  have hz : nls ((l.drop p).take (q - p)) = 0 := by omega
  have hlt : lineS (l.drop p) < (l.drop p).length := by rw [List.length_drop]; omega
  have h10 := lineS_next _ hlt
  have : (l.drop p).take (q - p) = (l.drop p).take (lineS (l.drop p) + 1) ++ ((l.drop p).drop (lineS (l.drop p) + 1)).take (q - p - (lineS (l.drop p) + 1)) := take_more _ (by omega)
  rw [this, nls_append, take_snoc _ _ hlt, nls_snoc, if_pos h10] at hz
  omega
 ·rw [take_more l (show q ≤ p by omega)] at p2 p3
  rw [nls_append] at p2
  rw [colS_append, if_pos (by omega)] at p3
  omega
theorem off_loop (l : List Int) (hl : Bytes l) (hn : l.length ≤ 1000000) (line col : Nat) (hline : line ≤ nls l) : ∀ (d i p : Nat), i + d = line → IsAt l p (i : Int) 0 →
  ∃ r, OffIs l line col r ∧ Ev (fun k => lines_Offset.l0 k l col p line i) r := by
 intro d
 induction d with
 | zero =>
  intro i p hi hp
  obtain rfl : i = line := by omega
  have hp1 := hp.1
  have h1 := lineS_le (l.drop p)
  have hld : (l.drop p).length = l.length - p := List.length_drop
  by_cases hc : col ≤ lineS (l.drop p)
  ·refine ⟨_, .inl ⟨p + col, isAt_on hp col hc, rfl⟩, Ev.step (fun k => lines_Offset.l0.eq_2 ..) (ev_else (by omega) (ev_if (by omega) (ev_if (by omega) ?_)))⟩
   rw [show l.drop ((p : Int)).toNat = l.drop p from rfl, w64 (by omega) (by omega), w64 (by omega) (by omega)]
   unfold bytes_IndexByte.f
   rcases index_line _ (hl.drop p) with ⟨e, e2⟩ | ⟨e, e2⟩
   ·rw [e]
    exact ev_same rfl (ev_if (by omega) (ev_else (by omega) (ev_now (by congr 1))))
   ·rw [e]
    exact ev_same rfl (ev_else (by omega) (ev_else (by omega) (ev_now (by congr 1))))
  ·refine ⟨_, .inr ⟨isAt_past hp (by omega), rfl⟩, Ev.step (fun k => lines_Offset.l0.eq_2 ..) (ev_else (by omega) (ev_if (by omega) (ev_if (by omega) ?_)))⟩
   rw [show l.drop ((p : Int)).toNat = l.drop p from rfl, w64 (i := (l.length : Int) - p) (by omega) (by omega)]
   unfold bytes_IndexByte.f
   rcases index_line _ (hl.drop p) with ⟨e, e2⟩ | ⟨e, e2⟩
   ·rw [e]
    exact ev_same rfl (ev_if (by omega) (ev_if (by omega) (ev_now rfl)))
   ·rw [e]
    exact ev_same rfl (ev_else (by omega) (ev_if (by omega) (ev_now rfl)))
 | succ d ih =>
  intro i p hi hp
  have hp1 := hp.1
  have hld : (l.drop p).length = l.length - p := List.length_drop
  have hnl := nls_le l
  have hlt : lineS (l.drop p) < (l.drop p).length := by
   refine lineS_all _ fun h0 => ?_
   have e : nls l = nls (l.take p) + nls (l.drop p) := by rw [← nls_append, List.take_append_drop]
   have := hp.2.1
   omega
  have hx := isAt_next hp hlt
  rw [show ((i : Int) + 1) = ((i + 1 : Nat) : Int) by omega] at hx
  obtain ⟨r, hr, he⟩ := ih (i + 1) _ (by omega) hx
  refine ⟨r, hr, Ev.step (fun k => lines_Offset.l0.eq_2 ..) (ev_if (by omega) (ev_if (by omega) (ev_if (by omega) ?_)))⟩
  rw [show l.drop ((p : Int)).toNat = l.drop p from rfl]
  unfold bytes_IndexByte.f
  rcases index_line _ (hl.drop p) with ⟨e, e2⟩ | ⟨e, e2⟩
  ·omega
  ·rw [e]
   refine ev_same rfl ?_
   rw [w64 (i := (lineS (l.drop p) : Int) + 1) (by omega) (by omega), w64 (i := (p : Int) + _) (by omega) (by omega), w64 (i := (i : Int) + 1) (by omega) (by omega)]
   rw [show (p : Int) + ((lineS (l.drop p) : Int) + 1) = ((p + lineS (l.drop p) + 1 : Nat) : Int) by omega, show (i : Int) + 1 = ((i + 1 : Nat) : Int) by omega]
   exact he
theorem isAt_some {l : List Int} {p : Nat} {line col : Int} (h : IsAt l p line col) : 0 ≤ line ∧ line ≤ nls l ∧ 0 ≤ col := by
 obtain ⟨h1, h2, h3⟩ := h
 have e : nls l = nls (l.take p) + nls (l.drop p) := by rw [← nls_append, List.take_append_drop]
 omega
theorem offset_ev (l : List Int) (hl : Bytes l) (hn : l.length ≤ 1000000) (line col : Int) : ∃ r, OffIs l line col r ∧ Ev (fun k => lines_Offset.f k l line col) r := by
 unfold lines_Offset.f
 by_cases h0 : line < 0
 ·exact ⟨_, .inr ⟨fun p hp => by have := isAt_some hp; omega, rfl⟩, ev_if h0 (Ev.step (fun k => lines_Offset.j0.eq_2 ..) (ev_if rfl (ev_now rfl)))⟩
 by_cases h1 : line > nls l
 ·exact ⟨_, .inr ⟨fun p hp => by have := isAt_some hp; omega, rfl⟩, ev_else h0 (Ev.bind (count_ev l hl hn) (ev_if (by omega) (Ev.step (fun k => lines_Offset.j0.eq_2 ..) (ev_if rfl (ev_now rfl)))))⟩
 by_cases h2 : col < 0
 ·exact ⟨_, .inr ⟨fun p hp => by have := isAt_some hp; omega, rfl⟩, ev_else h0 (Ev.bind (count_ev l hl hn) (ev_else (by omega) (Ev.step (fun k => lines_Offset.j0.eq_2 ..) (ev_if (by rw [decide_eq_true_eq]; exact h2) (ev_now rfl)))))⟩
 obtain ⟨a, rfl⟩ : ∃ a : Nat, line = a := ⟨line.toNat, by omega⟩
 obtain ⟨c, rfl⟩ : ∃ c : Nat, col = c := ⟨col.toNat, by omega⟩
 obtain ⟨r, hr, he⟩ := off_loop l hl hn a c (by omega) a 0 0 (by omega) ⟨by omega, rfl, rfl⟩
 exact ⟨r, hr, ev_else h0 (Ev.bind (count_ev l hl hn) (ev_else (by omega) (Ev.step (fun k => lines_Offset.j0.eq_2 ..) (ev_else (by rw [decide_eq_true_eq]; exact h2) he))))⟩
theorem shown_ev : Ev (fun k => tmesislaw09_shown.f k) true := Ev.of (fun k => tmesislaw09_shown.mono k) (k := 20) (by decide +kernel)
theorem few_eq (l : List Int) : tmesislaw09_few.f l = some (l.take 120) := by
 unfold tmesislaw09_few.f
 have h1 : 0 ≤ mn (l.length : Int) 120 := by unfold mn; split <;> omega
 have h2 : mn (l.length : Int) 120 ≤ (l.length : Int) := by unfold mn; split <;> omega
 rw [if_pos h1, if_pos h2, mn_le _ _ (by omega)]
 congr 1
 rw [Nat.min_comm, ← List.take_take, List.take_length]
 rfl
end Go.Proofs.Ytkbkmapaeidedaa.P
namespace Go.Proofs.Ytkbkmapaeidedaa.Pure
set_option linter.unusedSimpArgs false
set_option linter.unusedVariables false
open Go.RowKit Go.Proofs.Ytkbkmapaeidedaa.P Go.Proofs.YtkbkmapaeidedaaW.PrintWords Go.Proofs.YtkbkmapaeidedaaW.PrintLast Go.Proofs.YtkbkmapaeidedaaW.PrintMore
theorem rplace_loop (l : List Int) (hn : l.length ≤ 1000000) (p : Nat) (hp : p ≤ l.length) (d : Nat) : ∀ i : Nat, i + d = p →
  Ev (fun k => tmesisref09_Place.l0 k l (p : Int) (nls (l.take i) : Int) (colS (l.take i) : Int) (i : Int)) ((nls (l.take p) : Int), (colS (l.take p) : Int), 0) := by
 induction d with
 | zero =>
  intro i hi
  obtain rfl : i = p := by omega
  exact Ev.step (fun k => tmesisref09_Place.l0.eq_2 ..) (ev_else (by omega) (ev_now rfl))
 | succ d ih =>
  intro i hi
  have hlt : i < l.length := by omega
  have n1 := nls_le (l.take i)
  have n2 := colS_le (l.take i)
  rw [List.length_take] at n1 n2
  have e := ih (i + 1) (by omega)
  rw [take_snoc l i hlt, nls_snoc, colS_snoc] at e
  have w1 : wrap64 ((i : Int) + 1) = ((i + 1 : Nat) : Int) := by rw [w64 (by omega) (by omega)]; omega
  have w2 : wrap64 ((nls (l.take i) : Int) + 1) = ((nls (l.take i) + 1 : Nat) : Int) := by rw [w64 (by omega) (by omega)]; omega
  have w3 : wrap64 ((colS (l.take i) : Int) + 1) = ((colS (l.take i) + 1 : Nat) : Int) := by rw [w64 (by omega) (by omega)]; omega
  refine Ev.step (fun k => tmesisref09_Place.l0.eq_2 ..) (ev_if (by omega) (ev_if (by omega) (ev_if (by omega) ?_)))
  rw [rd_at l i hlt, w1, w2, w3]
  by_cases h : l[i] = 10
  ·rw [if_pos h, if_pos h] at e
   exact ev_if h e
  ·rw [if_neg h, if_neg h] at e
   exact ev_else h e
theorem rplace_ev (l : List Int) (hn : l.length ≤ 1000000) (p : Nat) (hp : p ≤ l.length) : Ev (fun k => tmesisref09_Place.f k l (p : Int)) ((nls (l.take p) : Int), (colS (l.take p) : Int), 0) := by
 unfold tmesisref09_Place.f
 refine ev_else (by omega) (Ev.step (fun k => tmesisref09_Place.j0.eq_2 ..) (ev_else (by rw [decide_eq_false (by omega)]; simp) ?_))
 exact rplace_loop l hn p hp p 0 (by omega)
theorem rplace_out (l : List Int) (p : Int) (hp : p < 0 ∨ p > (l.length : Int)) : Ev (fun k => tmesisref09_Place.f k l p) ((0 : Int), (0 : Int), (3 : Int)) := by
 unfold tmesisref09_Place.f
 by_cases h : p < 0
 ·exact ev_if h (Ev.step (fun k => tmesisref09_Place.j0.eq_2 ..) (ev_if rfl (ev_now rfl)))
 ·exact ev_else h (Ev.step (fun k => tmesisref09_Place.j0.eq_2 ..) (ev_if (decide_eq_true (by omega)) (ev_now rfl)))
theorem roff_loop (l : List Int) (hn : l.length ≤ 1000000) (line col : Int) (d : Nat) : ∀ i : Nat, i + d = l.length + 1 → (∀ q, q < i → ¬ IsAt l q line col) →
  ∃ r, OffIs l line col r ∧ Ev (fun k => tmesisref09_Offset.l0 k l line col (i : Int)) r := by
 induction d with
 | zero =>
  intro i hi hno
  refine ⟨(0, 3), .inr ⟨fun p hp => hno p (by have := hp.1; omega) hp, rfl⟩, Ev.step (fun k => tmesisref09_Offset.l0.eq_2 ..) (ev_else (by omega) (ev_now rfl))⟩
 | succ d ih =>
  intro i hi hno
  have hle : i ≤ l.length := by omega
  have w1 : wrap64 ((i : Int) + 1) = ((i + 1 : Nat) : Int) := by rw [w64 (by omega) (by omega)]; omega
  by_cases h : IsAt l i line col
  ·refine ⟨((i : Int), 0), .inl ⟨i, h, rfl⟩, Ev.step (fun k => tmesisref09_Offset.l0.eq_2 ..) (ev_if (by omega) (Ev.bind (rplace_ev l hn i hle) (ev_if h.2.1 (ev_if h.2.2 (ev_now rfl)))))⟩
  ·obtain ⟨r, hr, e⟩ := ih (i + 1) (by omega) (fun q hq => by
    rcases Nat.lt_or_ge q i with h2 | h2
    ·exact hno q h2
    ·obtain rfl : q = i := by omega
     exact h)
   refine ⟨r, hr, Ev.step (fun k => tmesisref09_Offset.l0.eq_2 ..) (ev_if (by omega) (Ev.bind (rplace_ev l hn i hle) ?_))⟩
   rw [w1]
   by_cases h1 : (nls (l.take i) : Int) = line
   ·exact ev_if h1 (ev_else (fun h2 => h ⟨hle, h1, h2⟩) e)
   ·exact ev_else h1 e
theorem rcount_loop (l : List Int) (hn : l.length ≤ 1000000) (d : Nat) : ∀ i : Nat, i + d = l.length → Ev (fun k => tmesisref09_Count.l0 k l ((nls (l.take i) + 1 : Nat) : Int) (i : Int)) ((nls l + 1 : Nat) : Int) := by
 induction d with
 | zero =>
  intro i hi
  refine Ev.step (fun k => tmesisref09_Count.l0.eq_2 ..) (ev_else (by omega) (ev_now ?_))
  rw [List.take_of_length_le (by omega)]
 | succ d ih =>
  intro i hi
  have hlt : i < l.length := by omega
  have n1 := nls_le (l.take i)
  rw [List.length_take] at n1
  have e := ih (i + 1) (by omega)
  rw [take_snoc l i hlt, nls_snoc] at e
  have w1 : wrap64 ((i : Int) + 1) = ((i + 1 : Nat) : Int) := by rw [w64 (by omega) (by omega)]; omega
  have w2 : wrap64 (((nls (l.take i) + 1 : Nat) : Int) + 1) = ((nls (l.take i) + 1 + 1 : Nat) : Int) := by rw [w64 (by omega) (by omega)]; omega
  refine Ev.step (fun k => tmesisref09_Count.l0.eq_2 ..) (ev_if (by omega) (ev_if (by omega) ?_))
  rw [rd_at l i hlt, w1, w2]
  by_cases h : l[i] = 10
  ·rw [if_pos h] at e
   exact ev_if h e
  ·rw [if_neg h] at e
   exact ev_else h e
theorem LinesAll : tmesislaw09_LinesAll.Pure := by
 intro l0 a x y g1 g2 hb0 _ _ _
 have hb := (bytes_wf hb0).take 120
 clear g1 g2 hb0
 have hl : (l0.take 120).length ≤ 120 := by rw [List.length_take]; omega
 apply Ev.rounds
 unfold tmesislaw09_LinesAll.f
 refine Ev.bind shown_ev (ev_same (few_eq l0) ?_)
 generalize l0.take 120 = l at hb hl
 have hn : l.length ≤ 1000000 := by omega
 obtain ⟨r, hr, er⟩ := offset_ev l hb hn x y
 obtain ⟨s, hs, es⟩ := roff_loop l hn x y (l.length + 1) 0 (by omega) (fun q hq => by omega)
 obtain rfl := offIs_one hr hs
 have pl : ∃ t, Ev (fun k => lines_Place.f k l a) t ∧ Ev (fun k => tmesisref09_Place.f k l a) t := by
  by_cases h : a < 0 ∨ a > (l.length : Int)
  ·exact ⟨_, place_out l a h, rplace_out l a h⟩
  ·obtain ⟨p, rfl⟩ : ∃ p : Nat, a = (p : Int) := ⟨a.toNat, by omega⟩
   exact ⟨_, place_ev l hb hn p (by omega), rplace_ev l hn p (by omega)⟩
 obtain ⟨t, t1, t2⟩ := pl
 have c2 : Ev (fun k => tmesisref09_Count.f k l) ((nls l + 1 : Nat) : Int) := rcount_loop l hn l.length 0 (by omega)
 refine Ev.bind t1 (Ev.bind t2 (Ev.bind er (Ev.bind es ?_)))
 first
 | exact ev_if rfl (Ev.bind (count_ev l hb hn) (Ev.bind c2 (ev_if rfl (ev_if rfl (ev_if rfl (ev_if rfl (ev_if rfl (ev_now (by simp)))))))))
 | exact Ev.bind (count_ev l hb hn) (Ev.bind c2 (ev_if rfl (ev_if rfl (ev_if rfl (ev_if rfl (ev_if rfl (ev_if rfl (ev_now (by simp)))))))))
end Go.Proofs.Ytkbkmapaeidedaa.Pure
namespace Go.Proofs.Ytkbkmapaeidedaa.P
set_option linter.unusedSimpArgs false
set_option linter.unusedVariables false
open Go.ChangeShapes Go.WideShapes Go.ChangeAt Go.RowKit
section
variable {H : Type} {enc : TypeId × Value → H} {P : Program} {w : World} {base : Nat} {spare : Nat → Bool} {held : Bool}
def numOf : Value → Int
 | .int _ z => z
 | _ => 0
theorem open_arr {r : Reach} {b0 n : Nat} {t e : TypeId} {k : IntKind} {v : Value} {d : DataW H} {ps : List MemPlace} (ht : P.underlying t = some (.array n e)) (he : P.underlying e = some (.int k)) (h1 : P.cellsOf e = 1) (hn : P.cellsOf t = n)
  (hval : Value.okWide P w r b0 t v) (hd : DataW.Trod enc P w base spare held t v d ps) :
  ∃ zs : List Int, zs.length = n ∧ v = .agg (zs.map (Value.int k)).toArray ∧ d = .agg (zs.map fun z => .lit (.int k z)) ∧ ps = [] ∧ ∀ z ∈ zs, (Lit.int k z).wf = true := by
 unfold Value.okWide at hval
 rw [ht] at hval
 obtain ⟨cs, rfl, hsz, -⟩ := hval
 obtain ⟨fuel, hf⟩ := hd
 obtain ⟨xs, m, _, hx, hl, hxl, hall⟩ := DataW.trod_array ht hf
 simp only [Prod.mk.injEq] at hx
 obtain ⟨rfl, rfl⟩ := hx
 rw [hn] at hsz
 have hg : ∀ i, i < n → ∃ z, cs[i]? = some (.int k z) ∧ xs[i]? = some (.lit (.int k z), []) ∧ (Lit.int k z).wf = true := by
  intro i hi
  have h := hall i hi
  have hlt : i < xs.length := by omega
  rw [h1, Nat.mul_one, List.getElem?_eq_getElem hlt] at h
  obtain ⟨z, hz, hxz, hw⟩ := DataW.trod_int he h
  have hc : i < cs.size := by omega
  have e1 : (Value.agg cs).cells.toList = cs.toList := rfl
  rw [e1, List.drop_eq_getElem_cons (by simpa using hc)] at hz
  simp at hz
  refine ⟨z, ?_, ?_, hw⟩
  ·rw [Array.getElem?_eq_getElem hc, hz]
  ·rw [List.getElem?_eq_getElem hlt, hxz]
 refine ⟨cs.toList.map numOf, by simp [hsz], ?_, ?_, ?_, ?_⟩
 ·congr 1
  apply Array.ext
  ·simp
  ·intro i h2 h3
   obtain ⟨z, hz, -, -⟩ := hg i (by omega)
   rw [Array.getElem?_eq_getElem h2] at hz
   have := Option.some.inj hz
   simp [this, numOf]
 ·congr 1
  apply List.ext_getElem?
  intro i
  by_cases hi : i < n
  ·obtain ⟨z, hz, hxz, -⟩ := hg i hi
   simp [hz, hxz, numOf]
  ·simp [List.getElem?_eq_none (show xs.length ≤ i by omega), Array.getElem?_eq_none (show cs.size ≤ i by omega)]
 ·rw [List.flatMap_eq_nil_iff]
  intro x hx
  obtain ⟨i, hi, rfl⟩ := List.mem_iff_getElem.1 hx
  obtain ⟨z, -, hxz, -⟩ := hg i (by omega)
  rw [List.getElem?_eq_getElem hi] at hxz
  rw [Option.some.inj hxz]
 ·intro z hz
  obtain ⟨c, hc, rfl⟩ := List.mem_map.1 hz
  obtain ⟨i, hi, rfl⟩ := List.mem_iff_getElem.1 hc
  obtain ⟨z, hz2, -, hw⟩ := hg i (by simpa [hsz] using hi)
  rw [Array.getElem?_eq_getElem (by simpa using hi)] at hz2
  simp only [Array.getElem_toList]
  rw [Option.some.inj hz2]
  exact hw
theorem open_arr2 {r : Reach} {b0 : Nat} {t e : TypeId} {k : IntKind} {v : Value} {d : DataW H} {ps : List MemPlace} (ht : P.underlying t = some (.array 2 e)) (he : P.underlying e = some (.int k)) (h1 : P.cellsOf e = 1) (hn : P.cellsOf t = 2)
  (hval : Value.okWide P w r b0 t v) (hd : DataW.Trod enc P w base spare held t v d ps) :
  ∃ a b : Int, v = .agg #[.int k a, .int k b] ∧ d = .agg [.lit (.int k a), .lit (.int k b)] ∧ ps = [] ∧ (Lit.int k a).wf = true ∧ (Lit.int k b).wf = true := by
 obtain ⟨zs, hl, rfl, rfl, rfl, hw⟩ := open_arr ht he h1 hn hval hd
 match zs, hl with
 | [a, b], _ => exact ⟨a, b, rfl, rfl, rfl, hw a (by simp), hw b (by simp)⟩
theorem shut_arr2 {t e : TypeId} {k : IntKind} {a b : Int} (ht : P.underlying t = some (.array 2 e)) (he : P.underlying e = some (.int k)) (h1 : P.cellsOf e = 1) (hn : P.cellsOf t = 2) (ha : (Lit.int k a).wf = true) (hb : (Lit.int k b).wf = true) :
  DataW.Trod enc P w base spare held t (.agg #[.int k a, .int k b]) (.agg [.lit (.int k a), .lit (.int k b)]) [] := by
 have r2 : List.range 2 = [0, 1] := rfl
 exact ⟨2, by simp [DataW.trod, Value.cells, ht, he, h1, hn, r2, ha, hb]⟩
end
end Go.Proofs.Ytkbkmapaeidedaa.P
