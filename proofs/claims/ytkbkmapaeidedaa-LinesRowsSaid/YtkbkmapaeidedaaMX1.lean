/- Part of the proof: what the theorem needs of this text. -/
import Derived.Test.YtkbkmapaeidedaaKHCT
import Derived.Test.YtkbkmapaeidedaaKHIB
import Derived.Test.YtkbkmapaeidedaaKPx1
import Derived.Test.YtkbkmapaeidedaaKPx2
import Derived.Test.YtkbkmapaeidedaaKPx5
import Derived.Test.YtkbkmapaeidedaaMW1
import Derived.Lib.BytesEntry
import Derived.Test.YtkbkmapaeidedaaProg
import Derived.WalkKit
import Derived.ProofKit
import Derived.OpenShut
import Derived.KernelRfl
namespace Go.Proofs.Ytkbkmapaeidedaa.P
set_option linter.unusedSimpArgs false
set_option linter.unusedVariables false
open Go.RowKit Go.Proofs.YtkbkmapaeidedaaW.PrintWords Go.Proofs.YtkbkmapaeidedaaW.PrintLast Go.Proofs.YtkbkmapaeidedaaW.PrintMore
section
variable {α β : Type}
theorem ev_if {c : Prop} [Decidable c] {a b : Nat → Option α} {r : α} (hc : c) (h : Ev a r) : Ev (fun k => if c then a k else b k) r := by simpa only [if_pos hc] using h
theorem ev_else {c : Prop} [Decidable c] {a b : Nat → Option α} {r : α} (hc : ¬ c) (h : Ev b r) : Ev (fun k => if c then a k else b k) r := by simpa only [if_neg hc] using h
theorem ev_same {o : Option β} {y : β} {f : Nat → β → Option α} {r : α} (ho : o = some y) (h : Ev (fun k => f k y) r) : Ev (fun k => o.bind (f k)) r := by subst ho; exact h
theorem ev_eq {g : Nat → Option α} {r r' : α} (h : Ev g r) (e : r = r') : Ev g r' := e ▸ h
theorem ev_now {r r' : α} (e : r = r') : Ev (fun _ => some r) r' := e ▸ Ev.now r
end
theorem w64 {i : Int} (h0 : -9223372036854775808 ≤ i) (h1 : i ≤ 9223372036854775807) : wrap64 i = i := by unfold wrap64; omega
end Go.Proofs.Ytkbkmapaeidedaa.P
namespace Go.Proofs.Ytkbkmapaeidedaa.P
set_option linter.unusedSimpArgs false
set_option linter.unusedVariables false
open Go.RowKit Go.Proofs.YtkbkmapaeidedaaW.PrintWords Go.Proofs.YtkbkmapaeidedaaW.PrintLast Go.Proofs.YtkbkmapaeidedaaW.PrintMore
theorem rd_at (l : List Int) (i : Nat) (h : i < l.length) : rd l (i : Int) = l[i] := by
 show l.getD i 0 = l[i]
 rw [List.getD_eq_getElem?_getD, List.getElem?_eq_getElem h]; rfl
def Bytes (l : List Int) : Prop := ∀ x ∈ l, 0 ≤ x ∧ x < 256
theorem u8_wf {x : Int} (h : (Lit.int .u8 x).wf = true) : 0 ≤ x ∧ x < 256 := by
 simp [Lit.wf, IntKind.min, IntKind.max, IntKind.signed, IntKind.bits] at h
 omega
theorem Bytes.take {l : List Int} (h : Bytes l) (n : Nat) : Bytes (l.take n) := fun x hx => h x (List.mem_of_mem_take hx)
theorem Bytes.drop {l : List Int} (h : Bytes l) (n : Nat) : Bytes (l.drop n) := fun x hx => h x (List.mem_of_mem_drop hx)
theorem Bytes.app {a b : List Int} (h : Bytes a) (h2 : Bytes b) : Bytes (a ++ b) := fun x hx => by
 rcases List.mem_append.1 hx with h1 | h1
 ·exact h x h1
 ·exact h2 x h1
theorem Bytes.cons {c : Int} {r : List Int} (h : Bytes (c :: r)) : (0 ≤ c ∧ c < 256) ∧ Bytes r := ⟨h c (by simp), fun x hx => h x (by simp [hx])⟩
theorem u8_inj {x y : Int} (hx : 0 ≤ x ∧ x < 256) (hy : 0 ≤ y ∧ y < 256) (h : UInt8.ofNat x.toNat = UInt8.ofNat y.toNat) : x = y := by
 have := congrArg UInt8.toNat h
 rw [UInt8.toNat_ofNat', UInt8.toNat_ofNat'] at this
 omega
/-- how long the rest of the line is -/
def lineS (l : List Int) : Nat := (l.takeWhile fun c => c != 10).length
theorem lineS_cons (c : Int) (r : List Int) : lineS (c :: r) = if c = 10 then 0 else lineS r + 1 := by
 unfold lineS
 by_cases h : c = 10 <;> simp [List.takeWhile_cons, h]
theorem lineS_le (l : List Int) : lineS l ≤ l.length := List.Sublist.length_le (List.takeWhile_sublist _)
theorem index_line (l : List Int) (hl : Bytes l) : (Lib.indexByte (Lib.bytesOf l) (10 : Int).toNat.toUInt8 = -1 ∧ lineS l = l.length) ∨ (Lib.indexByte (Lib.bytesOf l) (10 : Int).toNat.toUInt8 = (lineS l : Int) ∧ lineS l < l.length) := by
 induction l with
 | nil => left; exact ⟨rfl, rfl⟩
 | cons c r ih =>
  obtain ⟨hc, hr⟩ := hl.cons
  have e : Lib.indexByte (Lib.bytesOf (c :: r)) (10 : Int).toNat.toUInt8 = if (c.toNat.toUInt8 == (10 : Int).toNat.toUInt8) = true then 0 else if (Lib.indexByte (Lib.bytesOf r) (10 : Int).toNat.toUInt8 == -1) = true then -1 else Lib.indexByte (Lib.bytesOf r) (10 : Int).toNat.toUInt8 + 1 := rfl
  rw [e, lineS_cons]
  by_cases h : c = 10
  ·subst h
   right
   rw [if_pos rfl, if_pos (by decide)]
   exact ⟨rfl, by simp⟩
  ·have hne : ¬ (c.toNat.toUInt8 == (10 : Int).toNat.toUInt8) = true := by
    rw [beq_iff_eq]
    exact fun hh => h (u8_inj hc (by omega) hh)
   rw [if_neg h, if_neg hne]
   rcases ih hr with ⟨h1, h2⟩ | ⟨h1, h2⟩
   ·left
    rw [h1, if_pos (by decide)]
    exact ⟨rfl, by simp [h2]⟩
   ·right
    rw [h1, if_neg (by rw [beq_iff_eq]; omega)]
    exact ⟨by omega, by simp; omega⟩
end Go.Proofs.Ytkbkmapaeidedaa.P
namespace Go.Proofs.Ytkbkmapaeidedaa.P
set_option linter.unusedSimpArgs false
set_option linter.unusedVariables false
open Go.RowKit Go.Proofs.Ytkbkmapaeidedaa.P Go.Proofs.YtkbkmapaeidedaaW.PrintWords Go.Proofs.YtkbkmapaeidedaaW.PrintLast Go.Proofs.YtkbkmapaeidedaaW.PrintMore
/-- how many newlines -/
def nls : List Int → Nat
 | [] => 0
 | c :: r => if c = 10 then nls r + 1 else nls r
theorem nls_cons (c : Int) (r : List Int) : nls (c :: r) = if c = 10 then nls r + 1 else nls r := rfl
theorem nls_append (a b : List Int) : nls (a ++ b) = nls a + nls b := by
 induction a with
 | nil => show nls b = 0 + nls b; omega
 | cons c r ih =>
  rw [List.cons_append, nls_cons, nls_cons, ih]
  split <;> omega
theorem nls_snoc (l : List Int) (c : Int) : nls (l ++ [c]) = if c = 10 then nls l + 1 else nls l := by
 rw [nls_append, nls_cons]
 by_cases h : c = 10
 ·rw [if_pos h, if_pos h]; rfl
 ·rw [if_neg h, if_neg h]; rfl
theorem nls_le (l : List Int) : nls l ≤ l.length := by
 induction l with
 | nil => exact Nat.le_refl _
 | cons c r ih => rw [nls_cons, List.length_cons]; split <;> omega
theorem nls_reverse (l : List Int) : nls l.reverse = nls l := by
 induction l with
 | nil => rfl
 | cons c r ih => rw [List.reverse_cons, nls_snoc, nls_cons, ih]
theorem lineS_append (a b : List Int) : lineS (a ++ b) = if nls a = 0 then a.length + lineS b else lineS a := by
 induction a with
 | nil => show lineS b = if nls [] = 0 then 0 + lineS b else lineS []; rw [if_pos (by rfl)]; omega
 | cons c r ih =>
  rw [List.cons_append, lineS_cons, lineS_cons, nls_cons, ih, List.length_cons]
  by_cases h : c = 10
  ·rw [if_pos h, if_pos h, if_pos h, if_neg (by omega)]
  ·rw [if_neg h, if_neg h, if_neg h]
   split <;> omega
/-- how long the last line is -/
def colS (l : List Int) : Nat := lineS l.reverse
theorem colS_nil : colS [] = 0 := rfl
theorem colS_snoc (l : List Int) (c : Int) : colS (l ++ [c]) = if c = 10 then 0 else colS l + 1 := by
 unfold colS
 rw [List.reverse_append, List.reverse_singleton, List.singleton_append, lineS_cons]
theorem colS_append (a b : List Int) : colS (a ++ b) = if nls b = 0 then colS a + b.length else colS b := by
 unfold colS
 rw [List.reverse_append, lineS_append, nls_reverse, List.length_reverse]
 split <;> omega
theorem colS_le (l : List Int) : colS l ≤ l.length := by
 unfold colS
 have := lineS_le l.reverse
 rw [List.length_reverse] at this
 exact this
theorem take_snoc (l : List Int) (i : Nat) (h : i < l.length) : l.take (i + 1) = l.take i ++ [l[i]] := by
 rw [List.take_add_one, List.getElem?_eq_getElem h]; rfl
theorem count_nls (l : List Int) (hl : Bytes l) : Lib.countByte (Lib.bytesOf l) (10 : Int).toNat.toUInt8 = nls l := by
 induction l with
 | nil => rfl
 | cons c r ih =>
  obtain ⟨hc, hr⟩ := hl.cons
  rw [nls_cons, ← ih hr]
  show List.count _ (c.toNat.toUInt8 :: Lib.bytesOf r) = _
  rw [List.count_cons]
  by_cases h : c = 10
  ·subst h
   rw [if_pos rfl, if_pos (by decide)]; rfl
  ·rw [if_neg h, if_neg]
   ·rfl
   ·rw [beq_iff_eq]
    exact fun hh => h (u8_inj hc (by omega) hh)
theorem cnt_eq (l : List Int) (hl : Bytes l) : bytes_Count.f l [10] = some (nls l : Int) := by
 unfold bytes_Count.f
 rw [if_pos (by rfl), show rd ([10] : List Int) 0 = 10 from rfl, count_nls l hl]
theorem rd_L1_0 (a : List Int) (r : List (List Int)) : rd_L1 (a :: r) 0 = a := rfl
theorem rd_L1_1 (a b : List Int) (r : List (List Int)) : rd_L1 (a :: b :: r) 1 = b := rfl
theorem ends1_ev (l : List Int) (hl : Bytes l) (hn : l.length ≤ 1000000) : Ev (fun k => lines_ends.f k [l]) (nls l : Int) := by
 have h1 := nls_le l
 unfold lines_ends.f
 refine Ev.step (fun k => lines_ends.l0.eq_2 ..) (ev_if (by simp) (ev_if (by omega) (ev_if (by simp) ?_)))
 rw [rd_L1_0]
 refine ev_same (cnt_eq l hl) ?_
 rw [w64 (by omega) (by omega), w64 (by omega) (by omega)]
 exact Ev.step (fun k => lines_ends.l0.eq_2 ..) (ev_else (by simp) (ev_now (by omega)))
theorem ends2_ev (l : List Int) (hl : Bytes l) (hn : l.length ≤ 1000000) : Ev (fun k => lines_ends.f k [l, [10]]) ((nls l + 1 : Nat) : Int) := by
 have h1 := nls_le l
 unfold lines_ends.f
 refine Ev.step (fun k => lines_ends.l0.eq_2 ..) (ev_if (by simp) (ev_if (by omega) (ev_if (by simp) ?_)))
 rw [rd_L1_0]
 refine ev_same (cnt_eq l hl) ?_
 rw [w64 (by omega) (by omega), w64 (by omega) (by omega)]
 refine Ev.step (fun k => lines_ends.l0.eq_2 ..) (ev_if (by simp) (ev_if (by omega) (ev_if (by simp) ?_)))
 rw [show (0 : Int) + 1 = 1 from rfl, rd_L1_1]
 refine ev_same (cnt_eq [10] (fun x hx => by simp at hx; omega)) ?_
 rw [show nls [10] = 1 from rfl, w64 (by omega) (by omega), w64 (by omega) (by omega)]
 exact Ev.step (fun k => lines_ends.l0.eq_2 ..) (ev_else (by simp) (ev_now (by omega)))
theorem count_ev (l : List Int) (hl : Bytes l) (hn : l.length ≤ 1000000) : Ev (fun k => lines_Count.f k l) ((nls l + 1 : Nat) : Int) := by
 unfold lines_Count.f
 exact Ev.bind (ends2_ev l hl hn) (ev_now rfl)
theorem last_loop (l : List Int) (hn : l.length ≤ 1000000) : ∀ n : Nat, n ≤ l.length → Ev (fun k => bytealg_LastIndexByte.l0 k l 10 ((n : Int) - 1)) ((n : Int) - 1 - colS (l.take n)) := by
 intro n
 induction n with
 | zero =>
  intro h
  exact Ev.step (fun k => bytealg_LastIndexByte.l0.eq_2 ..) (ev_else (by omega) (ev_now rfl))
 | succ n ih =>
  intro h
  have hlt : n < l.length := by omega
  rw [show ((n + 1 : Nat) : Int) - 1 = (n : Int) by omega, take_snoc l n hlt, colS_snoc]
  refine Ev.step (fun k => bytealg_LastIndexByte.l0.eq_2 ..) (ev_if (by omega) (ev_if (by omega) (ev_if (by omega) ?_)))
  rw [rd_at l n hlt, w64 (by omega) (by omega)]
  by_cases hc : l[n] = 10
  ·rw [if_pos hc]
   exact ev_if hc (ev_now (by omega))
  ·rw [if_neg hc]
   refine ev_else hc (ev_eq (ih (by omega)) ?_)
   omega
theorem last_ev (l : List Int) (hn : l.length ≤ 1000000) : Ev (fun k => bytes_LastIndexByte.f k l 10) ((l.length : Int) - 1 - colS l) := by
 unfold bytes_LastIndexByte.f bytealg_LastIndexByte.f
 rw [w64 (by omega) (by omega)]
 have := last_loop l hn l.length (Nat.le_refl _)
 rw [List.take_length] at this
 exact Ev.bind this (ev_now rfl)
theorem place_ev (l : List Int) (hl : Bytes l) (hn : l.length ≤ 1000000) (p : Nat) (hp : p ≤ l.length) : Ev (fun k => lines_Place.f k l (p : Int)) ((nls (l.take p) : Int), (colS (l.take p) : Int), 0) := by
 unfold lines_Place.f
 have hlt : (l.take p).length = p := by rw [List.length_take]; omega
 have hc := colS_le (l.take p)
 refine ev_else (by omega) (Ev.step (fun k => lines_Place.j0.eq_2 ..) (ev_else (by rw [decide_eq_true_eq]; omega) (ev_if (by omega) (ev_if (by omega) ?_))))
 rw [show l.take ((p : Int)).toNat = l.take p from rfl]
 refine Ev.bind (ends1_ev _ (hl.take p) (by omega)) (Ev.bind (last_ev _ (by omega)) (ev_now ?_))
 rw [hlt, w64 (i := (p : Int) - 1) (by omega) (by omega), w64 (by omega) (by omega)]
 congr 2
 omega
/-- a place and its line and column -/
def IsAt (l : List Int) (p : Nat) (line col : Int) : Prop := p ≤ l.length ∧ (nls (l.take p) : Int) = line ∧ (colS (l.take p) : Int) = col
theorem take_more (l : List Int) {p q : Nat} (h : p ≤ q) : l.take q = l.take p ++ (l.drop p).take (q - p) := by
 obtain ⟨d, rfl⟩ := Nat.le.dest h
 rw [List.take_add, Nat.add_sub_cancel_left]
theorem isAt_lt {l : List Int} {p q : Nat} {line col : Int} (hp : IsAt l p line col) (hq : IsAt l q line col) (h : p < q) : False := by
 obtain ⟨p1, p2, p3⟩ := hp
 obtain ⟨q1, q2, q3⟩ := hq
 rw [take_more l (Nat.le_of_lt h)] at q2 q3
 rw [nls_append] at q2
 rw [colS_append, if_pos (by omega), List.length_take, List.length_drop] at q3
 omega
theorem isAt_one {l : List Int} {p q : Nat} {line col : Int} (hp : IsAt l p line col) (hq : IsAt l q line col) : p = q := by
 rcases Nat.lt_trichotomy p q with h | h | h
 ·exact (isAt_lt hp hq h).elim
 ·exact h
 ·exact (isAt_lt hq hp h).elim
/-- what is told of a line and a column -/
def OffIs (l : List Int) (line col : Int) (r : Int × Int) : Prop := (∃ p, IsAt l p line col ∧ r = ((p : Int), 0)) ∨ ((∀ p, ¬ IsAt l p line col) ∧ r = (0, 3))
theorem offIs_one {l : List Int} {line col : Int} {r s : Int × Int} (h : OffIs l line col r) (h' : OffIs l line col s) : r = s := by
 rcases h with ⟨p, hp, rfl⟩ | ⟨hp, rfl⟩ <;> rcases h' with ⟨q, hq, rfl⟩ | ⟨hq, rfl⟩
 ·rw [isAt_one hp hq]
 ·exact (hq _ hp).elim
 ·exact (hp _ hq).elim
 ·rfl
theorem lineS_take (l : List Int) (n : Nat) (h : n ≤ lineS l) : nls (l.take n) = 0 := by
 induction l generalizing n with
 | nil => rw [List.take_nil]; rfl
 | cons c r ih =>
  cases n with
  | zero => rfl
  | succ n =>
   rw [lineS_cons] at h
   by_cases hc : c = 10
   ·rw [if_pos hc] at h; omega
   ·rw [if_neg hc] at h
    rw [List.take_succ_cons, nls_cons, if_neg hc]
    exact ih n (by omega)
theorem lineS_next (l : List Int) (h : lineS l < l.length) : l[lineS l] = 10 := by
 induction l with
 | nil => simp at h
 | cons c r ih =>
  by_cases hc : c = 10
  ·have e : lineS (c :: r) = 0 := by rw [lineS_cons, if_pos hc]
   simp only [e]
   exact hc
  ·have e : lineS (c :: r) = lineS r + 1 := by rw [lineS_cons, if_neg hc]
   simp only [e, List.getElem_cons_succ]
   rw [e, List.length_cons] at h
   exact ih (by omega)
theorem lineS_all (l : List Int) (h : nls l ≠ 0) : lineS l < l.length := by
 by_cases h2 : lineS l < l.length
 ·exact h2
 ·have := lineS_le l
  have e := lineS_take l l.length (by omega)
  rw [List.take_length] at e
  exact (h e).elim
/-- on the line that begins at a place -/
theorem isAt_on {l : List Int} {p : Nat} {line : Int} (hp : IsAt l p line 0) (c : Nat) (hc : c ≤ lineS (l.drop p)) : IsAt l (p + c) line c := by
 obtain ⟨p1, p2, p3⟩ := hp
 have h1 := lineS_le (l.drop p)
 rw [List.length_drop] at h1
 have h2 := lineS_take _ c hc
 refine ⟨by omega, ?_, ?_⟩
 ·rw [take_more l (show p ≤ p + c by omega), Nat.add_sub_cancel_left, nls_append, h2]; exact p2
 ·rw [take_more l (show p ≤ p + c by omega), Nat.add_sub_cancel_left, colS_append, if_pos h2, List.length_take, List.length_drop]; omega
theorem isAt_next {l : List Int} {p : Nat} {line : Int} (hp : IsAt l p line 0) (h : lineS (l.drop p) < (l.drop p).length) : IsAt l (p + lineS (l.drop p) + 1) (line + 1) 0 := by
 have hon := isAt_on hp _ (Nat.le_refl _)
 have h10 := lineS_next _ h
 rw [List.length_drop] at h
 obtain ⟨p1, p2, p3⟩ := hon
 have hlt : p + lineS (l.drop p) < l.length := by omega
 rw [List.getElem_drop] at h10
 refine ⟨by omega, ?_, ?_⟩
 ·rw [take_snoc l _ hlt, nls_snoc, if_pos h10]; omega
 ·rw [take_snoc l _ hlt, colS_snoc, if_pos h10]; rfl
/-- no further than the line -/
theorem isAt_past {l : List Int} {p : Nat} {line : Int} (hp : IsAt l p line 0) {c : Nat} (hc : lineS (l.drop p) < c) (q : Nat) : ¬ IsAt l q line c := by
 intro hq
 have h1 := lineS_le (l.drop p)
 rw [List.length_drop] at h1
 have hqe := hq
 obtain ⟨q1, q2, q3⟩ := hq
 have hpe := hp
 obtain ⟨p1, p2, p3⟩ := hp
 by_cases h : p ≤ q
 ·rw [take_more l h, nls_append] at q2
  rw [take_more l h, colS_append, if_pos (by omega), List.length_take, List.length_drop] at q3
  have hz : nls ((l.drop p).take (q - p)) = 0 := by omega
  have hlt : lineS (l.drop p) < (l.drop p).length := by rw [List.length_drop]; omega
  have h10 := lineS_next _ hlt
  have : (l.drop p).take (q - p) = (l.drop p).take (lineS (l.drop p) + 1) ++ ((l.drop p).drop (lineS (l.drop p) + 1)).take (q - p - (lineS (l.drop p) + 1)) := take_more _ (by omega)
  rw [this, nls_append, take_snoc _ _ hlt, nls_snoc, if_pos h10] at hz
  omega
 ·rw [take_more l (show q ≤ p by omega)] at p2 p3
  rw [nls_append] at p2
  rw [colS_append, if_pos (by omega)] at p3
  omega
theorem off_loop (l : List Int) (hl : Bytes l) (hn : l.length ≤ 1000000) (line col : Nat) (hline : line ≤ nls l) : ∀ (d i p : Nat), i + d = line → IsAt l p (i : Int) 0 →
  ∃ r, OffIs l line col r ∧ Ev (fun k => lines_Offset.l0 k l col p line i) r := by
 intro d
 induction d with
 | zero =>
  intro i p hi hp
  obtain rfl : i = line := by omega
  have hp1 := hp.1
  have h1 := lineS_le (l.drop p)
  have hld : (l.drop p).length = l.length - p := List.length_drop
  by_cases hc : col ≤ lineS (l.drop p)
  ·refine ⟨_, .inl ⟨p + col, isAt_on hp col hc, rfl⟩, Ev.step (fun k => lines_Offset.l0.eq_2 ..) (ev_else (by omega) (ev_if (by omega) (ev_if (by omega) ?_)))⟩
   rw [show l.drop ((p : Int)).toNat = l.drop p from rfl, w64 (by omega) (by omega), w64 (by omega) (by omega)]
   unfold bytes_IndexByte.f
   rcases index_line _ (hl.drop p) with ⟨e, e2⟩ | ⟨e, e2⟩
   ·rw [e]
    exact ev_same rfl (ev_if (by omega) (ev_else (by omega) (ev_now (by congr 1))))
   ·rw [e]
    exact ev_same rfl (ev_else (by omega) (ev_else (by omega) (ev_now (by congr 1))))
  ·refine ⟨_, .inr ⟨isAt_past hp (by omega), rfl⟩, Ev.step (fun k => lines_Offset.l0.eq_2 ..) (ev_else (by omega) (ev_if (by omega) (ev_if (by omega) ?_)))⟩
   rw [show l.drop ((p : Int)).toNat = l.drop p from rfl, w64 (i := (l.length : Int) - p) (by omega) (by omega)]
   unfold bytes_IndexByte.f
   rcases index_line _ (hl.drop p) with ⟨e, e2⟩ | ⟨e, e2⟩
   ·rw [e]
    exact ev_same rfl (ev_if (by omega) (ev_if (by omega) (ev_now rfl)))
   ·rw [e]
    exact ev_same rfl (ev_else (by omega) (ev_if (by omega) (ev_now rfl)))
 | succ d ih =>
  intro i p hi hp
  have hp1 := hp.1
  have hld : (l.drop p).length = l.length - p := List.length_drop
  have hnl := nls_le l
  have hlt : lineS (l.drop p) < (l.drop p).length := by
   refine lineS_all _ fun h0 => ?_
   have e : nls l = nls (l.take p) + nls (l.drop p) := by rw [← nls_append, List.take_append_drop]
   have := hp.2.1
   omega
  have hx := isAt_next hp hlt
  rw [show ((i : Int) + 1) = ((i + 1 : Nat) : Int) by omega] at hx
  obtain ⟨r, hr, he⟩ := ih (i + 1) _ (by omega) hx
  refine ⟨r, hr, Ev.step (fun k => lines_Offset.l0.eq_2 ..) (ev_if (by omega) (ev_if (by omega) (ev_if (by omega) ?_)))⟩
  rw [show l.drop ((p : Int)).toNat = l.drop p from rfl]
  unfold bytes_IndexByte.f
  rcases index_line _ (hl.drop p) with ⟨e, e2⟩ | ⟨e, e2⟩
  ·omega
  ·rw [e]
   refine ev_same rfl ?_
   rw [w64 (i := (lineS (l.drop p) : Int) + 1) (by omega) (by omega), w64 (i := (p : Int) + _) (by omega) (by omega), w64 (i := (i : Int) + 1) (by omega) (by omega)]
   rw [show (p : Int) + ((lineS (l.drop p) : Int) + 1) = ((p + lineS (l.drop p) + 1 : Nat) : Int) by omega, show (i : Int) + 1 = ((i + 1 : Nat) : Int) by omega]
   exact he
theorem isAt_some {l : List Int} {p : Nat} {line col : Int} (h : IsAt l p line col) : 0 ≤ line ∧ line ≤ nls l ∧ 0 ≤ col := by
 obtain ⟨h1, h2, h3⟩ := h
 have e : nls l = nls (l.take p) + nls (l.drop p) := by rw [← nls_append, List.take_append_drop]
 omega
theorem offset_ev (l : List Int) (hl : Bytes l) (hn : l.length ≤ 1000000) (line col : Int) : ∃ r, OffIs l line col r ∧ Ev (fun k => lines_Offset.f k l line col) r := by
 unfold lines_Offset.f
 by_cases h0 : line < 0
 ·exact ⟨_, .inr ⟨fun p hp => by have := isAt_some hp; omega, rfl⟩, ev_if h0 (Ev.step (fun k => lines_Offset.j0.eq_2 ..) (ev_if rfl (ev_now rfl)))⟩
 by_cases h1 : line > nls l
 ·exact ⟨_, .inr ⟨fun p hp => by have := isAt_some hp; omega, rfl⟩, ev_else h0 (Ev.bind (count_ev l hl hn) (ev_if (by omega) (Ev.step (fun k => lines_Offset.j0.eq_2 ..) (ev_if rfl (ev_now rfl)))))⟩
 by_cases h2 : col < 0
 ·exact ⟨_, .inr ⟨fun p hp => by have := isAt_some hp; omega, rfl⟩, ev_else h0 (Ev.bind (count_ev l hl hn) (ev_else (by omega) (Ev.step (fun k => lines_Offset.j0.eq_2 ..) (ev_if (by rw [decide_eq_true_eq]; exact h2) (ev_now rfl)))))⟩
 obtain ⟨a, rfl⟩ : ∃ a : Nat, line = a := ⟨line.toNat, by omega⟩
 obtain ⟨c, rfl⟩ : ∃ c : Nat, col = c := ⟨col.toNat, by omega⟩
 obtain ⟨r, hr, he⟩ := off_loop l hl hn a c (by omega) a 0 0 (by omega) ⟨by omega, rfl, rfl⟩
 exact ⟨r, hr, ev_else h0 (Ev.bind (count_ev l hl hn) (ev_else (by omega) (Ev.step (fun k => lines_Offset.j0.eq_2 ..) (ev_else (by rw [decide_eq_true_eq]; exact h2) he))))⟩
theorem offset_at (l : List Int) (hl : Bytes l) (hn : l.length ≤ 1000000) {line col : Int} {p : Nat} (h : IsAt l p line col) : Ev (fun k => lines_Offset.f k l line col) ((p : Int), (0 : Int)) := by
 obtain ⟨r, hr, he⟩ := offset_ev l hl hn line col
 exact ev_eq he (offIs_one hr (.inl ⟨p, h, rfl⟩))
theorem offset_none (l : List Int) (hl : Bytes l) (hn : l.length ≤ 1000000) {line col : Int} (h : ∀ p, ¬ IsAt l p line col) : Ev (fun k => lines_Offset.f k l line col) ((0 : Int), (3 : Int)) := by
 obtain ⟨r, hr, he⟩ := offset_ev l hl hn line col
 exact ev_eq he (offIs_one hr (.inr ⟨h, rfl⟩))
theorem shown_ev : Ev (fun k => tmesislaw09_shown.f k) true := Ev.of (fun k => tmesislaw09_shown.mono k) (k := 20) (by decide +kernel)
end Go.Proofs.Ytkbkmapaeidedaa.P
namespace Go.Proofs.Ytkbkmapaeidedaa.Pure
set_option linter.unusedSimpArgs false
set_option linter.unusedVariables false
open Go.RowKit Go.Proofs.Ytkbkmapaeidedaa.P Go.Proofs.YtkbkmapaeidedaaW.PrintWords Go.Proofs.YtkbkmapaeidedaaW.PrintLast Go.Proofs.YtkbkmapaeidedaaW.PrintMore
/-- a line of x's -/
def row (n : Nat) : List Int := List.replicate n 120
/-- so many lines, one behind the other -/
def text (long : Nat) : Nat → List Int
 | 0 => []
 | 1 => row long
 | m + 2 => text long (m + 1) ++ [10] ++ row long
theorem text_succ (long m : Nat) (h : 1 ≤ m) : text long (m + 1) = text long m ++ [10] ++ row long := by
 cases m with
 | zero => omega
 | succ m => rfl
theorem row_nls (n : Nat) : nls (row n) = 0 := by
 induction n with
 | zero => rfl
 | succ n ih => show nls (120 :: row n) = 0; rw [nls_cons, if_neg (by decide), ih]
theorem row_len (n : Nat) : (row n).length = n := List.length_replicate
theorem text_len (long : Nat) (m : Nat) : (text long (m + 1)).length = (m + 1) * (long + 1) - 1 := by
 induction m with
 | zero => show (row long).length = _; rw [row_len]; omega
 | succ m ih =>
  rw [text_succ long (m + 1) (by omega), List.length_append, List.length_append, ih, row_len]
  have : (m + 1) * (long + 1) ≥ 1 := Nat.mul_pos (by omega) (by omega)
  simp only [List.length_cons, List.length_nil]
  rw [Nat.succ_mul (m + 1)]
  omega
theorem text_nls (long : Nat) (m : Nat) : nls (text long (m + 1)) = m := by
 induction m with
 | zero => exact row_nls long
 | succ m ih =>
  rw [text_succ long (m + 1) (by omega), nls_append, nls_append, ih, row_nls]
  rfl
theorem text_bytes (long : Nat) (m : Nat) : Bytes (text long (m + 1)) := by
 have hr : Bytes (row long) := fun x hx => by have := List.eq_of_mem_replicate hx; omega
 induction m with
 | zero => exact hr
 | succ m ih =>
  rw [text_succ long (m + 1) (by omega)]
  exact (ih.app (fun x hx => by simp at hx; omega)).app hr
theorem text_split (long m i : Nat) (h1 : 1 ≤ i) (h2 : i < m) : ∃ r, text long m = text long i ++ [10] ++ r ∧ row long = r.take long := by
 induction m with
 | zero => omega
 | succ m ih =>
  by_cases h : i = m
  ·subst h
   exact ⟨row long, text_succ long i h1, by rw [List.take_of_length_le (by rw [row_len]; exact Nat.le_refl _)]⟩
  ·obtain ⟨r, e, er⟩ := ih (by omega)
   rw [text_succ long m (by omega), e]
   refine ⟨r ++ [10] ++ row long, by simp, ?_⟩
   have hr : long ≤ r.length := by
    have := congrArg List.length er
    rw [row_len, List.length_take] at this
    omega
   rw [List.append_assoc, List.take_append_of_le_length hr]
   exact er
theorem colS_row (n : Nat) : colS (row n) = n := by
 have := colS_append [] (row n)
 rw [if_pos (row_nls n), List.nil_append, row_len, colS_nil] at this
 omega
/-- a place's line and column -/
theorem at_row (long m i c : Nat) (hi : i < m) (hc : c ≤ long) : IsAt (text long m) (i * (long + 1) + c) (i : Int) (c : Int) := by
 have take_row : ∀ n, n ≤ long → (row long).take n = row n := fun n hn => by unfold row; rw [List.take_replicate, Nat.min_eq_left hn]
 obtain ⟨m, rfl⟩ : ∃ q, m = q + 1 := ⟨m - 1, by omega⟩
 have hml := text_len long m
 cases i with
 | zero =>
  have ht : (text long (m + 1)).take c = row c := by
   cases m with
   | zero => exact take_row c hc
   | succ m =>
    obtain ⟨r, e, er⟩ := text_split long (m + 1 + 1) 1 (by omega) (by omega)
    rw [e, List.append_assoc, List.take_append_of_le_length (by show c ≤ (row long).length; rw [row_len]; exact hc)]
    exact take_row c hc
  refine ⟨?_, ?_, ?_⟩
  ·have : (m + 1) * (long + 1) ≥ long + 1 := Nat.le_mul_of_pos_left _ (by omega)
   omega
  ·rw [Nat.zero_mul, Nat.zero_add, ht, row_nls]
  ·rw [Nat.zero_mul, Nat.zero_add, ht, colS_row]
 | succ i =>
  obtain ⟨r, e, er⟩ := text_split long (m + 1) (i + 1) (by omega) hi
  have hl := text_len long i
  have hpos : (i + 1) * (long + 1) ≥ 1 := Nat.mul_pos (by omega) (by omega)
  have ht : (text long (m + 1)).take ((i + 1) * (long + 1) + c) = text long (i + 1) ++ [10] ++ row c := by
   rw [e, List.take_append, List.take_of_length_le (by rw [List.length_append, hl]; simp only [List.length_cons, List.length_nil]; omega)]
   congr 1
   rw [List.length_append, hl]
   simp only [List.length_cons, List.length_nil]
   rw [show (i + 1) * (long + 1) + c - ((i + 1) * (long + 1) - 1 + (0 + 1)) = c by omega]
   have := take_row c hc
   rw [er, List.take_take, Nat.min_eq_left hc] at this
   exact this
  have hrl : long ≤ r.length := by
   have := congrArg List.length er
   rw [row_len, List.length_take] at this
   omega
  refine ⟨?_, ?_, ?_⟩
  ·rw [e, List.length_append, List.length_append, hl]
   simp only [List.length_cons, List.length_nil]
   omega
  ·rw [ht, nls_append, nls_append, text_nls, row_nls]; simp [nls_cons, nls]
  ·rw [ht, colS_append, if_pos (row_nls c), row_len, colS_snoc, if_pos rfl]; omega
theorem lineS_none {r : List Int} (h : nls r = 0) : lineS r = r.length := by
 have := lineS_append r []
 rw [if_pos h, List.append_nil] at this
 exact this
theorem line_split (long m i : Nat) (h1 : 1 ≤ i) (h2 : i < m) : ∃ r, text long m = text long i ++ [10] ++ r ∧ lineS r = long := by
 induction m with
 | zero => omega
 | succ m ih =>
  by_cases h : i = m
  ·subst h
   exact ⟨row long, text_succ long i h1, by rw [lineS_none (row_nls long), row_len]⟩
  ·obtain ⟨r, e, er⟩ := ih (by omega)
   rw [text_succ long m (by omega), e]
   refine ⟨r ++ ([10] ++ row long), by simp, ?_⟩
   rw [lineS_append]
   by_cases hr : nls r = 0
   ·rw [if_pos hr, ← lineS_none hr, er]; rfl
   ·rw [if_neg hr, er]
theorem line_first (long m : Nat) : lineS (text long (m + 1)) = long := by
 induction m with
 | zero => show lineS (row long) = long; rw [lineS_none (row_nls long), row_len]
 | succ m ih =>
  rw [text_succ long (m + 1) (by omega), List.append_assoc, lineS_append]
  by_cases hr : nls (text long (m + 1)) = 0
  ·rw [if_pos hr, ← lineS_none hr, ih]; rfl
  ·rw [if_neg hr, ih]
theorem past_row (long m i : Nat) (hi : i < m) (q : Nat) : ¬ IsAt (text long m) q (i : Int) ((long + 1 : Nat) : Int) := by
 have h0 := at_row long m i 0 hi (by omega)
 refine isAt_past h0 (c := long + 1) ?_ q
 rw [Nat.add_zero]
 obtain ⟨m, rfl⟩ : ∃ q, m = q + 1 := ⟨m - 1, by omega⟩
 cases i with
 | zero => rw [Nat.zero_mul, List.drop_zero, line_first]; omega
 | succ i =>
  obtain ⟨r, e, er⟩ := line_split long (m + 1) (i + 1) (by omega) hi
  have hl := text_len long i
  have hpos : (i + 1) * (long + 1) ≥ 1 := Nat.mul_pos (by omega) (by omega)
  have : (text long (m + 1)).drop ((i + 1) * (long + 1)) = r := by
   rw [e]
   exact List.drop_left' (by rw [List.length_append, hl]; simp only [List.length_cons, List.length_nil]; omega)
  rw [this, er]; omega
theorem line_loop (s : Bool) (many i : Int) (long : Nat) (x y : Int) (R : Bool) (d : Nat) : ∀ (c : Nat) (b : List Int), c + d = long → b.length + d ≤ 1000000 → long ≤ 15 →
  Ev (fun k => tmesislaw09_LinesRows.l0 k s many (long : Int) (b ++ row d) (wrap64 (i + 1)) x y) R → Ev (fun k => tmesislaw09_LinesRows.l1 k s many (long : Int) b i (c : Int) x y) R := by
 induction d with
 | zero =>
  intro c b hc hb hlong h
  rw [show b ++ row 0 = b from List.append_nil b] at h
  exact Ev.step (fun k => tmesislaw09_LinesRows.l1.eq_2 ..) (ev_else (by omega) h)
 | succ d ih =>
  intro c b hc hb hlong h
  have w1 : wrap64 ((c : Int) + 1) = ((c + 1 : Nat) : Int) := by rw [w64 (by omega) (by omega)]; omega
  refine Ev.step (fun k => tmesislaw09_LinesRows.l1.eq_2 ..) (ev_if (by omega) (ev_if (by omega) ?_))
  rw [w1]
  refine ih (c + 1) (b ++ [120]) (by omega) (by rw [List.length_append]; simp only [List.length_cons, List.length_nil]; omega) hlong ?_
  rw [List.append_assoc]
  exact h
theorem text_bd (long m : Nat) (h : long ≤ 15) (hm : m ≤ 16) : (text long m).length ≤ 300 := by
 cases m with
 | zero => show ([] : List Int).length ≤ 300; simp
 | succ m =>
  rw [text_len]
  have : (m + 1) * (long + 1) ≤ 16 * 16 := Nat.mul_le_mul hm (by omega)
  omega
theorem text_loop (s : Bool) (many long : Nat) (x y : Int) (R : Bool) (hlong : long ≤ 15) (hmany : many ≤ 16) (d : Nat) : ∀ i : Nat, i + d = many →
  Ev (fun k => tmesislaw09_LinesRows.l0 k s (many : Int) (long : Int) (text long many) (many : Int) x y) R →
  Ev (fun k => tmesislaw09_LinesRows.l0 k s (many : Int) (long : Int) (text long i) (i : Int) x y) R := by
 induction d with
 | zero =>
  intro i hi h
  obtain rfl : i = many := by omega
  exact h
 | succ d ih =>
  intro i hi h
  have hb := text_bd long i hlong (by omega)
  have w1 : wrap64 ((i : Int) + 1) = ((i + 1 : Nat) : Int) := by rw [w64 (by omega) (by omega)]; omega
  have next := ih (i + 1) (by omega) h
  rw [← w1] at next
  refine Ev.step (fun k => tmesislaw09_LinesRows.l0.eq_2 ..) (ev_if (by omega) ?_)
  by_cases h0 : i = 0
  ·subst h0
   refine ev_else (by omega) (Ev.step (fun k => tmesislaw09_LinesRows.j1.eq_2 ..) ?_)
   exact line_loop s many _ long x y R long 0 [] (by omega) (by simp only [List.length_nil]; omega) hlong next
  ·refine ev_if (by omega) (ev_if (by omega) (Ev.step (fun k => tmesislaw09_LinesRows.j1.eq_2 ..) ?_))
   rw [text_succ long i (by omega)] at next
   exact line_loop s many _ long x y R long 0 (text long i ++ [10]) (by omega) (by rw [List.length_append]; simp only [List.length_cons, List.length_nil]; omega) hlong next
theorem mod_nat {a : Int} (ha : 0 ≤ a ∧ a < 256) (n : Nat) (hn : 1 ≤ n) : Int.tmod (wrap64 a) (n : Int) = ((a.toNat % n : Nat) : Int) := by
 rw [w64 (i := a) (by omega) (by omega), Int.tmod_eq_emod_of_nonneg ha.1, Int.natCast_emod, Int.toNat_of_nonneg ha.1]
theorem mod_some {a : Int} (ha : 0 ≤ a ∧ a < 256) (n : Nat) (hn : 1 ≤ n) : ∃ i : Nat, i < n ∧ Aside0 (Int.tmod (wrap64 a) (n : Int) = (i : Int)) :=
 ⟨_, Nat.mod_lt _ hn, ⟨mod_nat ha n hn⟩⟩
theorem rows_end (p long i c : Nat) (hp : p < 16) (hlong : long < 16) (bx : i < p + 1) (by_ : c < long + 1) (x y : Int) (ex : Aside0 (Int.tmod (wrap64 x) ((p + 1 : Nat) : Int) = (i : Int))) (ey : Aside0 (Int.tmod (wrap64 y) ((long + 1 : Nat) : Int) = (c : Int))) :
  Ev (fun k => tmesislaw09_LinesRows.l0 k true ((p + 1 : Nat) : Int) (long : Int) (text long (p + 1)) ((p + 1 : Nat) : Int) x y) true := by
 have wl : wrap64 ((long : Int) + 1) = ((long + 1 : Nat) : Int) := by rw [w64 (by omega) (by omega)]; omega
 refine Ev.step (fun k => tmesislaw09_LinesRows.l0.eq_2 ..) (ev_else (by omega) (ev_else (by omega) ?_))
 rw [wl, ex.out, ey.out]
 have hat := at_row long (p + 1) i c bx (by omega)
 have htb := text_bytes long p
 have hbd := text_bd long (p + 1) (by omega) (by omega)
 have hil : i * (long + 1) ≤ 16 * 16 := Nat.mul_le_mul (by omega) (by omega)
 have wm : wrap64 ((i : Int) * ((long + 1 : Nat) : Int)) = ((i * (long + 1) : Nat) : Int) := by rw [← Int.natCast_mul, w64 (by omega) (by omega)]
 rw [wm]
 have wa : wrap64 (((i * (long + 1) : Nat) : Int) + (c : Int)) = ((i * (long + 1) + c : Nat) : Int) := by rw [w64 (by omega) (by omega)]; omega
 rw [wa]
 have o1 := offset_at _ htb (by omega) hat
 have pl := place_ev _ htb (by omega) (i * (long + 1) + c) hat.1
 have o2 := offset_none _ htb (by omega) (fun q => past_row long (p + 1) i bx q)
 have ct := count_ev _ htb (by omega)
 rw [text_nls] at ct
 exact ev_else (by omega) (Ev.bind o1 (Ev.bind pl (Ev.bind o2 (ev_if rfl (Ev.bind ct (ev_if rfl (ev_if rfl (ev_if rfl (ev_if rfl (ev_if hat.2.1 (ev_if hat.2.2 (ev_now rfl))))))))))))
theorem LinesRows : tmesislaw09_LinesRows.Pure := by
 intro a b x y ha hb hx hy
 have ha := u8_wf ha
 have hb := u8_wf hb
 have hx := u8_wf hx
 have hy := u8_wf hy
 apply Ev.rounds
 unfold tmesislaw09_LinesRows.f
 refine Ev.bind shown_ev ?_
 obtain ⟨p, hp, e1⟩ := mod_some ha 16 (by omega)
 obtain ⟨long, hlong, e2⟩ := mod_some hb 16 (by omega)
 obtain ⟨i, bx, ex⟩ := mod_some hx (p + 1) (by omega)
 obtain ⟨c, by_, ey⟩ := mod_some hy (long + 1) (by omega)
 rw [show (16 : Int) = ((16 : Nat) : Int) from rfl, e1.out, e2.out]
 have w1 : wrap64 (1 + (p : Int)) = ((p + 1 : Nat) : Int) := by rw [w64 (by omega) (by omega)]; omega
 rw [w1]
 exact text_loop true (p + 1) long x y true (by omega) (by omega) (p + 1) 0 (by omega) (rows_end p long i c hp hlong bx by_ x y ex ey)
end Go.Proofs.Ytkbkmapaeidedaa.Pure
namespace Go.Proofs.Ytkbkmapaeidedaa.P
set_option linter.unusedSimpArgs false
set_option linter.unusedVariables false
open Go.ChangeShapes Go.WideShapes Go.ChangeAt Go.RowKit
section
variable {H : Type} {enc : TypeId × Value → H} {P : Program} {w : World} {base : Nat} {spare : Nat → Bool} {held : Bool}
def numOf : Value → Int
 | .int _ z => z
 | _ => 0
theorem open_arr {r : Reach} {b0 n : Nat} {t e : TypeId} {k : IntKind} {v : Value} {d : DataW H} {ps : List MemPlace} (ht : P.underlying t = some (.array n e)) (he : P.underlying e = some (.int k)) (h1 : P.cellsOf e = 1) (hn : P.cellsOf t = n)
  (hval : Value.okWide P w r b0 t v) (hd : DataW.Trod enc P w base spare held t v d ps) :
  ∃ zs : List Int, zs.length = n ∧ v = .agg (zs.map (Value.int k)).toArray ∧ d = .agg (zs.map fun z => .lit (.int k z)) ∧ ps = [] ∧ ∀ z ∈ zs, (Lit.int k z).wf = true := by
 unfold Value.okWide at hval
 rw [ht] at hval
 obtain ⟨cs, rfl, hsz, -⟩ := hval
 obtain ⟨fuel, hf⟩ := hd
 obtain ⟨xs, m, _, hx, hl, hxl, hall⟩ := DataW.trod_array ht hf
 simp only [Prod.mk.injEq] at hx
 obtain ⟨rfl, rfl⟩ := hx
 rw [hn] at hsz
 have hg : ∀ i, i < n → ∃ z, cs[i]? = some (.int k z) ∧ xs[i]? = some (.lit (.int k z), []) ∧ (Lit.int k z).wf = true := by
  intro i hi
  have h := hall i hi
  have hlt : i < xs.length := by omega
  rw [h1, Nat.mul_one, List.getElem?_eq_getElem hlt] at h
  obtain ⟨z, hz, hxz, hw⟩ := DataW.trod_int he h
  have hc : i < cs.size := by omega
  have e1 : (Value.agg cs).cells.toList = cs.toList := rfl
  rw [e1, List.drop_eq_getElem_cons (by simpa using hc)] at hz
  simp at hz
  refine ⟨z, ?_, ?_, hw⟩
  ·rw [Array.getElem?_eq_getElem hc, hz]
  ·rw [List.getElem?_eq_getElem hlt, hxz]
 refine ⟨cs.toList.map numOf, by simp [hsz], ?_, ?_, ?_, ?_⟩
 ·congr 1
  apply Array.ext
  ·simp
  ·intro i h2 h3
   obtain ⟨z, hz, -, -⟩ := hg i (by omega)
   rw [Array.getElem?_eq_getElem h2] at hz
   have := Option.some.inj hz
   simp [this, numOf]
 ·congr 1
  apply List.ext_getElem?
  intro i
  by_cases hi : i < n
  ·obtain ⟨z, hz, hxz, -⟩ := hg i hi
   simp [hz, hxz, numOf]
  ·simp [List.getElem?_eq_none (show xs.length ≤ i by omega), Array.getElem?_eq_none (show cs.size ≤ i by omega)]
 ·rw [List.flatMap_eq_nil_iff]
  intro x hx
  obtain ⟨i, hi, rfl⟩ := List.mem_iff_getElem.1 hx
  obtain ⟨z, -, hxz, -⟩ := hg i (by omega)
  rw [List.getElem?_eq_getElem hi] at hxz
  rw [Option.some.inj hxz]
 ·intro z hz
  obtain ⟨c, hc, rfl⟩ := List.mem_map.1 hz
  obtain ⟨i, hi, rfl⟩ := List.mem_iff_getElem.1 hc
  obtain ⟨z, hz2, -, hw⟩ := hg i (by simpa [hsz] using hi)
  rw [Array.getElem?_eq_getElem (by simpa using hi)] at hz2
  simp only [Array.getElem_toList]
  rw [Option.some.inj hz2]
  exact hw
theorem open_arr2 {r : Reach} {b0 : Nat} {t e : TypeId} {k : IntKind} {v : Value} {d : DataW H} {ps : List MemPlace} (ht : P.underlying t = some (.array 2 e)) (he : P.underlying e = some (.int k)) (h1 : P.cellsOf e = 1) (hn : P.cellsOf t = 2)
  (hval : Value.okWide P w r b0 t v) (hd : DataW.Trod enc P w base spare held t v d ps) :
  ∃ a b : Int, v = .agg #[.int k a, .int k b] ∧ d = .agg [.lit (.int k a), .lit (.int k b)] ∧ ps = [] ∧ (Lit.int k a).wf = true ∧ (Lit.int k b).wf = true := by
 obtain ⟨zs, hl, rfl, rfl, rfl, hw⟩ := open_arr ht he h1 hn hval hd
 match zs, hl with
 | [a, b], _ => exact ⟨a, b, rfl, rfl, rfl, hw a (by simp), hw b (by simp)⟩
theorem shut_arr2 {t e : TypeId} {k : IntKind} {a b : Int} (ht : P.underlying t = some (.array 2 e)) (he : P.underlying e = some (.int k)) (h1 : P.cellsOf e = 1) (hn : P.cellsOf t = 2) (ha : (Lit.int k a).wf = true) (hb : (Lit.int k b).wf = true) :
  DataW.Trod enc P w base spare held t (.agg #[.int k a, .int k b]) (.agg [.lit (.int k a), .lit (.int k b)]) [] := by
 have r2 : List.range 2 = [0, 1] := rfl
 exact ⟨2, by simp [DataW.trod, Value.cells, ht, he, h1, hn, r2, ha, hb]⟩
end
end Go.Proofs.Ytkbkmapaeidedaa.P
