/- Part of the proof: what the theorem needs of this text. -/
import Derived.Test.YtfmhhjimnhfbaaaDoorKHCM
import Derived.Test.YtfmhhjimnhfbaaaDoorKHG
import Derived.Test.YtfmhhjimnhfbaaaDoorKHIB
import Derived.Test.YtfmhhjimnhfbaaaDoorKPx1
import Derived.Test.YtfmhhjimnhfbaaaDoorKPx2
import Derived.Test.YtfmhhjimnhfbaaaDoorKPx3
import Derived.Test.YtfmhhjimnhfbaaaDoorKPx4
import Derived.Test.YtfmhhjimnhfbaaaDoorMW1
namespace Go.Proofs.YtfmhhjimnhfbaaaDoor.P
set_option linter.unusedSimpArgs false
set_option linter.unusedVariables false
open Go.RowKit Go.Proofs.YtfmhhjimnhfbaaaDoorW.PrintWords Go.Proofs.YtfmhhjimnhfbaaaDoorW.PrintLast Go.Proofs.YtfmhhjimnhfbaaaDoorW.PrintMore
section
variable {α β : Type}
theorem ev_if {c : Prop} [Decidable c] {a b : Nat → Option α} {r : α} (hc : c) (h : Ev a r) : Ev (fun k => if c then a k else b k) r := by simpa only [if_pos hc] using h
theorem ev_else {c : Prop} [Decidable c] {a b : Nat → Option α} {r : α} (hc : ¬ c) (h : Ev b r) : Ev (fun k => if c then a k else b k) r := by simpa only [if_neg hc] using h
theorem ev_let {y : β} {f : Nat → β → Option α} {r : α} (h : Ev (fun k => f k y) r) : Ev (fun k => (some y).bind (f k)) r := h
theorem ev_same {o : Option β} {y : β} {f : Nat → β → Option α} {r : α} (ho : o = some y) (h : Ev (fun k => f k y) r) : Ev (fun k => o.bind (f k)) r := by subst ho; exact h
theorem ev_eq {g : Nat → Option α} {r r' : α} (h : Ev g r) (e : r = r') : Ev g r' := e ▸ h
theorem ev_now {r r' : α} (e : r = r') : Ev (fun _ => some r) r' := e ▸ Ev.now r
end
theorem w64 {i : Int} (h0 : -9223372036854775808 ≤ i) (h1 : i ≤ 9223372036854775807) : wrap64 i = i := by unfold wrap64; omega
theorem mn_le (n : Nat) (m : Int) (hm : 0 ≤ m) : (mn (n : Int) m).toNat = min n m.toNat := by unfold mn; split <;> omega
end Go.Proofs.YtfmhhjimnhfbaaaDoor.P
namespace Go.Proofs.YtfmhhjimnhfbaaaDoor.P
set_option linter.unusedSimpArgs false
set_option linter.unusedVariables false
open Go.RowKit Go.Proofs.YtfmhhjimnhfbaaaDoorW.PrintWords Go.Proofs.YtfmhhjimnhfbaaaDoorW.PrintLast Go.Proofs.YtfmhhjimnhfbaaaDoorW.PrintMore
theorem class_of (c : Int) : class_Of.f c = some (classOf c) := rfl
/-- how many first bytes are of a class -/
def runS (l : List Int) (cl : Int) : Nat := (l.takeWhile fun c => classOf c == cl).length
theorem runS_nil (cl : Int) : runS [] cl = 0 := rfl
theorem runS_cons (c : Int) (l : List Int) (cl : Int) : runS (c :: l) cl = if classOf c = cl then runS l cl + 1 else 0 := by
 unfold runS
 by_cases h : classOf c = cl <;> simp [List.takeWhile_cons, h]
theorem runS_le (l : List Int) (cl : Int) : runS l cl ≤ l.length := by
 unfold runS
 exact List.Sublist.length_le (List.takeWhile_sublist _)
theorem rd_at (l : List Int) (i : Nat) (h : i < l.length) : rd l (i : Int) = l[i] := by
 show l.getD i 0 = _
 simp [List.getD_eq_getElem?_getD, List.getElem?_eq_getElem h]
theorem run_loop (l : List Int) (cl : Int) (hl : l.length ≤ 9223372036854775806) (d : Nat) : ∀ i : Nat, d + i = l.length →
  Ev (fun k => class_Run.l0 k l cl l (l.length : Int) (i : Int)) ((i + runS (l.drop i) cl : Nat) : Int) := by
 induction d with
 | zero =>
  intro i hi
  refine Ev.step (fun k => class_Run.l0.eq_2 ..) (ev_else (by omega) (ev_now ?_))
  rw [List.drop_of_length_le (by omega), runS_nil]
  omega
 | succ d ih =>
  intro i hi
  have hlt : i < l.length := by omega
  refine Ev.step (fun k => class_Run.l0.eq_2 ..) (ev_if (by omega) (ev_if (by omega) (ev_if (by omega) ?_)))
  rw [rd_at l i hlt, class_of, List.drop_eq_getElem_cons hlt, runS_cons]
  refine ev_let ?_
  by_cases h : classOf l[i] = cl
  ·rw [if_pos h]
   refine ev_if h ?_
   rw [show wrap64 ((i : Int) + 1) = ((i + 1 : Nat) : Int) by rw [w64 (by omega) (by omega)]; omega]
   refine ev_eq (ih (i + 1) (by omega)) ?_
   omega
  ·rw [if_neg h]
   exact ev_else h (ev_now (by omega))
theorem run_ev (l : List Int) (cl : Int) (hl : l.length ≤ 9223372036854775806) : Ev (fun k => class_Run.f k l cl) (runS l cl : Int) := by
 refine ev_eq (run_loop l cl hl l.length 0 (by omega)) ?_
 simp
theorem u8_wf {x : Int} (h : (Lit.int .u8 x).wf = true) : 0 ≤ x ∧ x < 256 := by
 simp [Lit.wf, IntKind.min, IntKind.max, IntKind.signed, IntKind.bits] at h
 omega
def Bytes (l : List Int) : Prop := ∀ x ∈ l, 0 ≤ x ∧ x < 256
theorem bytes_wf {l : List Int} (h : ∀ x ∈ l, (Lit.int .u8 x).wf = true) : Bytes l := fun x hx => u8_wf (h x hx)
theorem Bytes.take {l : List Int} (h : Bytes l) (n : Nat) : Bytes (l.take n) := fun x hx => h x (List.mem_of_mem_take hx)
theorem Bytes.drop {l : List Int} (h : Bytes l) (n : Nat) : Bytes (l.drop n) := fun x hx => h x (List.mem_of_mem_drop hx)
/-- a fact on each byte, asked one by one -/
theorem byte_all {p : Int → Prop} (h : ∀ n : Nat, n < 256 → p (n : Int)) {c : Int} (hc : 0 ≤ c ∧ c < 256) : p c := by
 have := h c.toNat (by omega)
 rwa [Int.toNat_of_nonneg hc.1] at this
end Go.Proofs.YtfmhhjimnhfbaaaDoor.P
namespace Go.Proofs.YtfmhhjimnhfbaaaDoor.P
set_option linter.unusedSimpArgs false
set_option linter.unusedVariables false
open Go.RowKit Go.Proofs.YtfmhhjimnhfbaaaDoor.P Go.Proofs.YtfmhhjimnhfbaaaDoorW.PrintWords Go.Proofs.YtfmhhjimnhfbaaaDoorW.PrintLast Go.Proofs.YtfmhhjimnhfbaaaDoorW.PrintMore
theorem u8_inj {x y : Int} (hx : 0 ≤ x ∧ x < 256) (hy : 0 ≤ y ∧ y < 256) (h : UInt8.ofNat x.toNat = UInt8.ofNat y.toNat) : x = y := by
 have := congrArg UInt8.toNat h
 rw [UInt8.toNat_ofNat', UInt8.toNat_ofNat'] at this
 omega
theorem Bytes.cons {c : Int} {r : List Int} (h : Bytes (c :: r)) : (0 ≤ c ∧ c < 256) ∧ Bytes r := ⟨h c (by simp), fun x hx => h x (by simp [hx])⟩
theorem strOf_list (l : List Int) : (strOfNums l).toList = l.map fun n => UInt8.ofNat n.toNat := by
 have := Lib.strOfNums_toList l
 rw [this]; rfl
/-- whether two bytes begin some -/
def two (a b : Int) : List Int → Bool
 | x :: y :: _ => x == a && y == b
 | _ => false
theorem hasP_two {l : List Int} (hl : Bytes l) {a b : Int} (ha : 0 ≤ a ∧ a < 256) (hb : 0 ≤ b ∧ b < 256) : hasP l [a, b] = two a b l := by
 unfold hasP
 match l with
 | [] => rfl
 | [x] => rfl
 | x :: y :: r =>
  have hx := hl x (by simp)
  have hy := hl y (by simp)
  rw [decide_eq_true (by simp), Bool.true_and, strOf_list, strOf_list]
  show (([UInt8.ofNat x.toNat, UInt8.ofNat y.toNat] : List UInt8) == [UInt8.ofNat a.toNat, UInt8.ofNat b.toNat]) = (x == a && y == b)
  rw [Bool.eq_iff_iff, beq_iff_eq, Bool.and_eq_true, beq_iff_eq, beq_iff_eq, List.cons.injEq, List.cons.injEq]
  constructor
  ·rintro ⟨h1, h2, _⟩
   exact ⟨u8_inj hx ha h1, u8_inj hy hb h2⟩
  ·rintro ⟨rfl, rfl⟩
   exact ⟨rfl, rfl, rfl⟩
/-- how much, inside a comment so deep, stands up to its end, with it -/
def comL : Nat → List Int → Option Nat
 | _, [] => none
 | _, [_] => none
 | d, x :: y :: r =>
  if x = 47 ∧ y = 42 then (comL (d + 1) r).map (· + 2)
  else if x = 42 ∧ y = 47 then (if d = 1 then some 2 else (comL (d - 1) r).map (· + 2))
  else (comL d (y :: r)).map (· + 1)
theorem comL_le (l : List Int) : ∀ (d n : Nat), comL d l = some n → 2 ≤ n ∧ n ≤ l.length := by
 induction h : l.length using Nat.strongRecOn generalizing l with
 | _ N ih =>
  intro d n hn
  match l with
  | [] => cases hn
  | [_] => cases hn
  | x :: y :: r =>
   simp only [List.length_cons] at h
   rw [comL] at hn
   by_cases h1 : x = 47 ∧ y = 42
   ·rw [if_pos h1] at hn
    obtain ⟨m, hm, rfl⟩ := Option.map_eq_some_iff.1 hn
    have := ih r.length (by omega) r rfl _ _ hm
    omega
   ·rw [if_neg h1] at hn
    by_cases h2 : x = 42 ∧ y = 47
    ·rw [if_pos h2] at hn
     by_cases h3 : d = 1
     ·rw [if_pos h3] at hn
      obtain rfl := Option.some.inj hn
      omega
     ·rw [if_neg h3] at hn
      obtain ⟨m, hm, rfl⟩ := Option.map_eq_some_iff.1 hn
      have := ih r.length (by omega) r rfl _ _ hm
      omega
    ·rw [if_neg h2] at hn
     obtain ⟨m, hm, rfl⟩ := Option.map_eq_some_iff.1 hn
     have := ih (r.length + 1) (by omega) (y :: r) rfl _ _ hm
     (try simp only [List.length_cons] at this)
     (try simp only [List.length_cons])
     omega
def optP (p : Nat) : Option Nat → Int
 | some n => ((p + n : Nat) : Int)
 | none => 0
theorem optP_map (p k : Nat) (o : Option Nat) : optP p (o.map (· + k)) = optP (p + k) o := by
 cases o with
 | none => rfl
 | some n => show ((p + (n + k) : Nat) : Int) = ((p + k + n : Nat) : Int); congr 1; omega
theorem drop_two {l : List Int} {p : Nat} {x y : Int} {r : List Int} (h : l.drop p = x :: y :: r) : l.drop (p + 2) = r ∧ l.drop (p + 1) = y :: r := by
 have h1 : l.drop (p + 1) = (l.drop p).drop 1 := by rw [List.drop_drop]
 have h2 : l.drop (p + 2) = (l.drop p).drop 2 := by rw [List.drop_drop]
 rw [h] at h1 h2
 exact ⟨h2, h1⟩
theorem comGo_eq (l : List Int) (hl : Bytes l) (f : Nat) : ∀ (d p : Nat), 1 ≤ d → p ≤ l.length → l.length + 1 ≤ p + f → comGo f l (d : Int) p = optP p (comL d (l.drop p)) := by
 induction f with
 | zero => intro d p _ hp hf; omega
 | succ f ih =>
  intro d p hd hp hf
  by_cases hend : l.length ≤ p
  ·rw [List.drop_of_length_le hend, comGo, if_pos hend]; rfl
  rw [comGo_step f l d p hend, hasP_two (hl.drop p) (by omega) (by omega), hasP_two (hl.drop p) (by omega) (by omega)]
  match hm : l.drop p with
  | [] => have := congrArg List.length hm; simp at this; omega
  | [x] =>
   have h1 : p + 1 = l.length := by have := congrArg List.length hm; simp at this; omega
   have e := ih d (p + 1) hd (by omega) (by omega)
   rw [List.drop_of_length_le (by omega)] at e
   show (if (d : Int) > 0 then comGo f l d (p + 1) else ((p + 1 : Nat) : Int)) = _
   rw [if_pos (by omega), e]; rfl
  | x :: y :: r =>
   have hlen : p + 2 ≤ l.length := by have := congrArg List.length hm; simp at this; omega
   obtain ⟨e2, e1⟩ := drop_two hm
   rw [comL]
   by_cases h1 : x = 47 ∧ y = 42
   ·have t : two 47 42 (x :: y :: r) = true := by simp [two, h1.1, h1.2]
    rw [if_pos t, if_pos h1, if_pos (by omega), show (d : Int) + 1 = ((d + 1 : Nat) : Int) by omega, ih (d + 1) (p + 2) (by omega) hlen (by omega), e2, optP_map]
   ·have t : ¬ two 47 42 (x :: y :: r) = true := by simpa [two] using h1
    rw [if_neg t, if_neg h1]
    by_cases h2 : x = 42 ∧ y = 47
    ·have t : two 42 47 (x :: y :: r) = true := by simp [two, h2.1, h2.2]
     rw [if_pos t, if_pos h2]
     by_cases h3 : d = 1
     ·subst h3
      rw [if_neg (by omega), if_pos rfl]; rfl
     ·rw [if_pos (by omega), if_neg h3, show (d : Int) - 1 = ((d - 1 : Nat) : Int) by omega, ih (d - 1) (p + 2) (by omega) hlen (by omega), e2, optP_map]
    ·have t : ¬ two 42 47 (x :: y :: r) = true := by simpa [two] using h2
     rw [if_neg t, if_neg h2, if_pos (by omega), ih d (p + 1) hd (by omega) (by omega), e1, optP_map]
/-- how long the comment at the beginning is -/
def comS (l : List Int) : Option Nat := (comL 1 (l.drop 2)).map (· + 2)
theorem comment_eq {l : List Int} (hl : Bytes l) (h : two 47 42 l = true) : layout_comment.f l = some (optP 0 (comS l)) := by
 match l, h with
 | x :: y :: r, h =>
  unfold layout_comment.f
  rw [comGo_step _ _ _ _ (by simp), hasP_two (hl.drop 0) (by omega) (by omega)]
  rw [if_pos (show two 47 42 ((x :: y :: r).drop 0) = true from h), if_pos (by omega)]
  rw [show (0 : Int) + 1 = ((1 : Nat) : Int) from rfl, comGo_eq _ hl _ 1 (0 + 2) (by omega) (by simp) (by simp; omega)]
  unfold comS
  rw [optP_map]
/-- how long the rest of the line is -/
def lineS (l : List Int) : Nat := (l.takeWhile fun c => c != 10).length
theorem lineS_cons (c : Int) (r : List Int) : lineS (c :: r) = if c = 10 then 0 else lineS r + 1 := by
 unfold lineS
 by_cases h : c = 10 <;> simp [List.takeWhile_cons, h]
theorem lineS_le (l : List Int) : lineS l ≤ l.length := List.Sublist.length_le (List.takeWhile_sublist _)
theorem index_line (l : List Int) (hl : Bytes l) : (Lib.indexByte (Lib.bytesOf l) (10 : Int).toNat.toUInt8 = -1 ∧ lineS l = l.length) ∨ (Lib.indexByte (Lib.bytesOf l) (10 : Int).toNat.toUInt8 = (lineS l : Int) ∧ lineS l < l.length) := by
 induction l with
 | nil => left; exact ⟨rfl, rfl⟩
 | cons c r ih =>
  obtain ⟨hc, hr⟩ := hl.cons
  have e : Lib.indexByte (Lib.bytesOf (c :: r)) (10 : Int).toNat.toUInt8 = if (c.toNat.toUInt8 == (10 : Int).toNat.toUInt8) = true then 0 else if (Lib.indexByte (Lib.bytesOf r) (10 : Int).toNat.toUInt8 == -1) = true then -1 else Lib.indexByte (Lib.bytesOf r) (10 : Int).toNat.toUInt8 + 1 := rfl
  rw [e, lineS_cons]
  by_cases h : c = 10
  ·subst h
   right
   rw [if_pos rfl, if_pos (by decide)]
   exact ⟨rfl, by simp⟩
  ·have hne : ¬ (c.toNat.toUInt8 == (10 : Int).toNat.toUInt8) = true := by
    rw [beq_iff_eq]
    exact fun hh => h (u8_inj hc (by omega) hh)
   rw [if_neg h, if_neg hne]
   rcases ih hr with ⟨h1, h2⟩ | ⟨h1, h2⟩
   ·left
    rw [h1, if_pos (by decide)]
    exact ⟨rfl, by simp [h2]⟩
   ·right
    rw [h1, if_neg (by rw [beq_iff_eq]; omega)]
    exact ⟨by omega, by simp; omega⟩
theorem line_eq {l : List Int} (hl : Bytes l) : layout_line.f l = some (lineS l : Int) := by
 unfold layout_line.f bytes_IndexByte.f
 rw [Option.bind_some]
 rcases index_line l hl with ⟨h1, h2⟩ | ⟨h1, h2⟩
 ·rw [h1, if_neg (by omega), h2]
 ·rw [h1, if_pos (by omega)]
/-- what is skipped next: so much; or it ends there, with an error or none -/
def stepS : List Int → Nat × Int
 | [] => (0, 0)
 | c :: r => if classOf c = 1 then (1, 0) else if c = 37 then (lineS (c :: r), 0) else if two 47 42 (c :: r) = true then (match comS (c :: r) with | some n => (n, 0) | none => (0, 14)) else (0, 0)
theorem stepS_le (l : List Int) : (stepS l).1 ≤ l.length := by
 match l with
 | [] => exact Nat.le_refl _
 | c :: r =>
  rw [stepS]
  by_cases h1 : classOf c = 1
  ·rw [if_pos h1]; simp
  rw [if_neg h1]
  by_cases h2 : c = 37
  ·rw [if_pos h2]; exact lineS_le _
  rw [if_neg h2]
  by_cases h3 : two 47 42 (c :: r) = true
  ·rw [if_pos h3]
   cases h4 : comS (c :: r) with
   | none => simp
   | some n =>
    match r, h3 with
    | y :: r, h3 =>
     obtain ⟨m, hm, rfl⟩ := Option.map_eq_some_iff.1 h4
     have := comL_le _ _ _ hm
     simp at this ⊢; omega
  ·rw [if_neg h3]; simp
/-- how much is skipped, and the error -/
def skipS (l : List Int) : Nat × Int := if h : (stepS l).1 = 0 then stepS l else ((stepS l).1 + (skipS (l.drop (stepS l).1)).1, (skipS (l.drop (stepS l).1)).2)
termination_by l.length
decreasing_by all_goals (have := stepS_le l; rw [List.length_drop]; omega)
theorem skipS_stop {l : List Int} (h : (stepS l).1 = 0) : skipS l = stepS l := by rw [skipS, dif_pos h]
theorem skipS_go {l : List Int} (h : (stepS l).1 ≠ 0) : skipS l = ((stepS l).1 + (skipS (l.drop (stepS l).1)).1, (skipS (l.drop (stepS l).1)).2) := by rw [skipS, dif_neg h]
theorem skipS_run (l : List Int) : skipS l = (runS l 1 + (skipS (l.drop (runS l 1))).1, (skipS (l.drop (runS l 1))).2) := by
 induction l with
 | nil => rw [runS_nil]; simp
 | cons c r ih =>
  rw [runS_cons]
  by_cases h : classOf c = 1
  ·have e : stepS (c :: r) = (1, 0) := by rw [stepS, if_pos h]
   rw [if_pos h, skipS_go (by rw [e]; simp), e]
   simp only [List.drop_succ_cons, List.drop_zero]
   rw [ih]
   simp; omega
  ·rw [if_neg h]; simp
theorem runS_first {c : Int} {r : List Int} (h : runS (c :: r) 1 = 0) : classOf c ≠ 1 := by
 intro hc
 rw [runS_cons, if_pos hc] at h
 omega
theorem percent_all : ∀ n : Nat, n < 256 → (classOf (n : Int) = 8 ↔ (n : Int) = 37) := by decide +kernel
theorem percent_iff {c : Int} (h : 0 ≤ c ∧ c < 256) : classOf c = 8 ↔ c = 37 := byte_all (p := fun c => classOf c = 8 ↔ c = 37) percent_all h
theorem skip_loop (l : List Int) (hl : Bytes l) (hn : l.length ≤ 1000000) (N : Nat) : ∀ p : Nat, l.length - p < N → p ≤ l.length →
  Ev (fun k => layout_Skip.l0 k l (p : Int)) (((p + (skipS (l.drop p)).1 : Nat) : Int), (skipS (l.drop p)).2) := by
 induction N with
 | zero => intro p h; omega
 | succ N ih =>
  intro p hN hp
  have hb := hl.drop p
  have hml : (l.drop p).length = l.length - p := List.length_drop
  have hrun := skipS_run (l.drop p)
  have hle := runS_le (l.drop p) 1
  have next : ∀ n : Nat, 1 ≤ n → p + n ≤ l.length → Ev (fun k => layout_Skip.l0 k l (wrap64 ((p : Int) + (n : Int)))) (((p + n + (skipS (l.drop (p + n))).1 : Nat) : Int), (skipS (l.drop (p + n))).2) := by
   intro n h1 h2
   rw [show wrap64 ((p : Int) + (n : Int)) = ((p + n : Nat) : Int) by rw [w64 (by omega) (by omega)]; omega]
   exact ih (p + n) (by omega) h2
  refine Ev.step (fun k => layout_Skip.l0.eq_2 ..) (ev_if (by omega) (ev_if (by omega) ?_))
  rw [show l.drop ((p : Int)).toNat = l.drop p from rfl]
  refine Ev.bind (run_ev _ 1 (by omega)) ?_
  by_cases h : runS (l.drop p) 1 = 0
  ·refine ev_else (by omega) ?_
   match hm : l.drop p with
   | [] =>
    refine ev_else (by simp) (Ev.step (fun k => layout_Skip.j1.eq_2 ..) (ev_else (by simp) ?_))
    refine ev_same (hasP_eq _ _) (ev_else (by simp [hasP]) (ev_now ?_))
    rw [skipS_stop rfl]; rfl
   | c :: r =>
    rw [hm] at h hb hml
    have hc := runS_first h
    have hcb := hb.cons.1
    refine ev_if (by simp) (ev_if (by simp) ?_)
    rw [show rd (c :: r) 0 = c from rfl, class_of]
    refine ev_let (Ev.step (fun k => layout_Skip.j1.eq_2 ..) ?_)
    have cut : ∀ n : Nat, l.drop (p + n) = (c :: r).drop n := fun n => by rw [← hm, List.drop_drop]
    by_cases h8 : c = 37
    ·have hls := lineS_le (c :: r)
     have h1 : 1 ≤ lineS (c :: r) := by rw [lineS_cons, if_neg (by omega)]; omega
     have es : stepS (c :: r) = (lineS (c :: r), 0) := by rw [stepS, if_neg hc, if_pos h8]
     refine ev_if (by rw [(percent_iff hcb).2 h8]; rfl) (ev_same (line_eq hb) ?_)
     refine ev_eq (next _ h1 (by omega)) ?_
     have eg := skipS_go (l := c :: r) (by rw [es]; simp only; omega)
     rw [es] at eg
     rw [cut, eg]
     simp only [Prod.mk.injEq, and_true]
     omega
    ·refine ev_else (by rw [beq_iff_eq, percent_iff hcb]; exact h8) (ev_same (hasP_eq _ _) ?_)
     rw [hasP_two hb (by omega) (by omega)]
     by_cases ht : two 47 42 (c :: r) = true
     ·refine ev_if ht (ev_same (comment_eq hb ht) ?_)
      cases h4 : comS (c :: r) with
      | none =>
       have es : stepS (c :: r) = (0, 14) := by rw [stepS, if_neg hc, if_neg h8, if_pos ht, h4]
       refine ev_if rfl (ev_now ?_)
       rw [skipS_stop (by rw [es]), es]; rfl
      | some n =>
       have es : stepS (c :: r) = (n, 0) := by rw [stepS, if_neg hc, if_neg h8, if_pos ht, h4]
       have hsl := stepS_le (c :: r)
       rw [es] at hsl
       have h1 : 1 ≤ n := by
        obtain ⟨m, hm2, rfl⟩ := Option.map_eq_some_iff.1 h4
        omega
       have e0 : optP 0 (some n) = (n : Int) := by show ((0 + n : Nat) : Int) = n; omega
       rw [e0]
       refine ev_else (by omega) ?_
       simp only at hsl
       refine ev_eq (next n h1 (by omega)) ?_
       have eg := skipS_go (l := c :: r) (by rw [es]; simp only; omega)
       rw [es] at eg
       rw [cut, eg]
       simp only [Prod.mk.injEq, and_true]
       omega
     ·have es : stepS (c :: r) = (0, 0) := by rw [stepS, if_neg hc, if_neg h8, if_neg ht]
      refine ev_else ht (ev_now ?_)
      rw [skipS_stop (by rw [es]), es]; rfl
  ·refine ev_if (by omega) ?_
   refine ev_eq (next _ (by omega) (by omega)) ?_
   rw [hrun, List.drop_drop]
   simp only [Prod.mk.injEq, and_true]
   omega
theorem skip_ev (l : List Int) (hl : Bytes l) (hn : l.length ≤ 1000000) : Ev (fun k => layout_Skip.f k l) (((skipS l).1 : Int), (skipS l).2) := by
 refine ev_eq (skip_loop l hl hn (l.length + 1) 0 (by omega) (by omega)) ?_
 simp
end Go.Proofs.YtfmhhjimnhfbaaaDoor.P
namespace Go.Proofs.YtfmhhjimnhfbaaaDoor.P
set_option linter.unusedSimpArgs false
set_option linter.unusedVariables false
open Go.RowKit Go.Proofs.YtfmhhjimnhfbaaaDoor.P Go.Proofs.YtfmhhjimnhfbaaaDoorW.PrintWords Go.Proofs.YtfmhhjimnhfbaaaDoorW.PrintLast Go.Proofs.YtfmhhjimnhfbaaaDoorW.PrintMore
theorem shown_ev : Ev (fun k => tmesislaw05_shown.f k) true := Ev.of (fun k => tmesislaw05_shown.mono k) (k := 20) (by decide +kernel)
theorem few_eq (l : List Int) : tmesislaw05_few.f l = some (l.take 150) := by
 unfold tmesislaw05_few.f
 have h1 : 0 ≤ mn (l.length : Int) 150 := by unfold mn; split <;> omega
 have h2 : mn (l.length : Int) 150 ≤ (l.length : Int) := by unfold mn; split <;> omega
 rw [if_pos h1, if_pos h2, mn_le _ _ (by omega)]
 congr 1
 rw [Nat.min_comm, ← List.take_take, List.take_length]
 rfl
theorem skipS_le (N : Nat) : ∀ l : List Int, l.length < N → (skipS l).1 ≤ l.length := by
 induction N with
 | zero => intro l h; omega
 | succ N ih =>
  intro l h
  have hs := stepS_le l
  by_cases h0 : (stepS l).1 = 0
  ·rw [skipS_stop h0]; exact hs
  ·have e := skipS_go h0
   have := ih (l.drop (stepS l).1) (by rw [List.length_drop]; omega)
   rw [List.length_drop] at this
   have e1 := congrArg Prod.fst e
   simp only at e1
   omega
end Go.Proofs.YtfmhhjimnhfbaaaDoor.P
namespace Go.Proofs.YtfmhhjimnhfbaaaDoor.Pure
set_option linter.unusedSimpArgs false
set_option linter.unusedVariables false
open Go.RowKit Go.Proofs.YtfmhhjimnhfbaaaDoor.P Go.Proofs.YtfmhhjimnhfbaaaDoorW.PrintWords Go.Proofs.YtfmhhjimnhfbaaaDoorW.PrintLast Go.Proofs.YtfmhhjimnhfbaaaDoorW.PrintMore
theorem cl32 : classOf 32 = 1 := by decide +kernel
theorem cl9 : classOf 9 = 1 := by decide +kernel
theorem cl10 : classOf 10 = 1 := by decide +kernel
theorem cl13 : classOf 13 = 1 := by decide +kernel
theorem cl37 : classOf 37 ≠ 1 := by decide +kernel
/-- blanks are skipped -/
theorem skip_lay {a : List Int} (ha : ∀ x ∈ a, classOf x = 1) (m : List Int) : skipS (a ++ m) = (a.length + (skipS m).1, (skipS m).2) := by
 induction a with
 | nil => simp
 | cons c a ih =>
  have hc := ha c (by simp)
  have e : stepS (c :: (a ++ m)) = (1, 0) := by rw [stepS, if_pos hc]
  rw [List.cons_append, skipS_go (by rw [e]; simp), e]
  simp only [List.drop_succ_cons, List.drop_zero]
  rw [ih (fun x hx => ha x (by simp [hx]))]
  simp only [List.length_cons, Prod.mk.injEq, and_true]
  omega
theorem lineS_of {r : List Int} (hr : ∀ x ∈ r, x ≠ 10) (m : List Int) : lineS (r ++ m) = r.length + lineS m := by
 induction r with
 | nil => simp
 | cons c r ih =>
  rw [List.cons_append, lineS_cons, if_neg (hr c (by simp)), ih (fun x hx => hr x (by simp [hx])), List.length_cons]
  omega
/-- a line of a percent sign is skipped, up to its end -/
theorem skip_line {r : List Int} (hr : ∀ x ∈ r, x ≠ 10) (m : List Int) (hm : m = [] ∨ ∃ t, m = 10 :: t) : skipS (37 :: (r ++ m)) = (1 + r.length + (skipS m).1, (skipS m).2) := by
 have hl : lineS (37 :: (r ++ m)) = 1 + r.length := by
  rw [lineS_cons, if_neg (by decide), lineS_of hr]
  have : lineS m = 0 := by
   rcases hm with rfl | ⟨t, rfl⟩
   ·rfl
   ·rw [lineS_cons, if_pos rfl]
  omega
 have e : stepS (37 :: (r ++ m)) = (1 + r.length, 0) := by rw [stepS, if_neg cl37, if_pos rfl, hl]
 have hd : (37 :: (r ++ m)).drop (1 + r.length) = m := by
  rw [show 1 + r.length = r.length + 1 by omega, List.drop_succ_cons]
  simp
 rw [skipS_go (by rw [e]; simp only; omega), e]
 simp only
 rw [hd]
/-- the fourth part of the law: blanks, one behind the other -/
def blank (i : Nat) : Int := if i % 4 = 0 then 32 else if i % 4 = 1 then 9 else if i % 4 = 2 then 13 else 10
theorem blank_lay (i : Nat) : classOf (blank i) = 1 := by
 unfold blank
 split
 ·exact cl32
 split
 ·exact cl9
 split
 ·exact cl13
 ·exact cl10
theorem blank_byte (i : Nat) : 0 ≤ blank i ∧ blank i < 256 := by
 unfold blank
 repeat' split
 all_goals omega
def blanks : Nat → List Int
 | 0 => []
 | i + 1 => blanks i ++ [blank i]
theorem blanks_len (i : Nat) : (blanks i).length = i := by
 induction i with
 | zero => rfl
 | succ i ih => show (blanks i ++ [blank i]).length = _; rw [List.length_append, ih]; rfl
theorem blanks_lay (i : Nat) : (∀ x ∈ blanks i, classOf x = 1) ∧ Bytes (blanks i) := by
 induction i with
 | zero => exact ⟨(fun x h => by cases h), (fun x h => by cases h)⟩
 | succ i ih =>
  refine ⟨fun x hx => ?_, fun x hx => ?_⟩
  ·rcases List.mem_append.1 hx with h | h
   ·exact ih.1 x h
   ·rw [List.mem_singleton.1 h]; exact blank_lay i
  ·rcases List.mem_append.1 hx with h | h
   ·exact ih.2 x h
   ·rw [List.mem_singleton.1 h]; exact blank_byte i
theorem blank_loop (l0 l1 : List Int) (a2 : Int) (n : Nat) (hn : n < 16) (he : Aside0 (Int.tmod (wrap64 a2) 16 = (n : Int))) (R : Bool) (d : Nat) : ∀ i : Nat, i + d = n →
  Ev (fun k => tmesislaw05_LayoutLines.l1 k l0 l1 true (blanks n ++ [37]) 0) R →
  Ev (fun k => tmesislaw05_LayoutLines.l0 k l0 l1 a2 true (blanks i) (i : Int) 32 9 13 10) R := by
 induction d with
 | zero =>
  intro i hi h
  obtain rfl : i = n := by omega
  have hl := blanks_len i
  refine Ev.step (fun k => tmesislaw05_LayoutLines.l0.eq_2 ..) ?_
  rw [he.out]
  exact ev_else (by omega) (ev_if (by omega) h)
 | succ d ih =>
  intro i hi h
  have hl := blanks_len i
  have e := ih (i + 1) (by omega) h
  have w1 : wrap64 ((i : Int) + 1) = ((i + 1 : Nat) : Int) := by rw [w64 (by omega) (by omega)]; omega
  have e4 : Int.tmod (i : Int) 4 = ((i % 4 : Nat) : Int) := by rw [Int.tmod_eq_emod_of_nonneg (by omega)]; omega
  refine Ev.step (fun k => tmesislaw05_LayoutLines.l0.eq_2 ..) ?_
  rw [he.out, e4, w1]
  refine ev_if (by omega) ?_
  have hb : blanks (i + 1) = blanks i ++ [blank i] := rfl
  rw [hb] at e
  unfold blank at e
  by_cases c0 : i % 4 = 0
  ·rw [if_pos c0] at e; exact ev_if (by omega) (ev_if (by omega) e)
  rw [if_neg c0] at e; refine ev_else (by omega) ?_
  by_cases c1 : i % 4 = 1
  ·rw [if_pos c1] at e; exact ev_if (by omega) (ev_if (by omega) e)
  rw [if_neg c1] at e; refine ev_else (by omega) ?_
  by_cases c2 : i % 4 = 2
  ·rw [if_pos c2] at e; exact ev_if (by omega) (ev_if (by omega) e)
  rw [if_neg c2] at e; refine ev_else (by omega) ?_
  exact ev_if (by omega) (ev_if (by omega) e)
/-- the end of the law -/
theorem lines_end (l0 l1 b r : List Int) (i : Nat) (hb : (∀ x ∈ b, classOf x = 1) ∧ Bytes b) (hbl : b.length < 16) (hr : ∀ x ∈ r, x ≠ 10) (hrb : Bytes r) (hrl : r.length ≤ 150) (h1 : Bytes l1) (hi : (l0.take 150).length ≤ i) (hi2 : i ≤ 150) :
  Ev (fun k => tmesislaw05_LayoutLines.l1 k l0 l1 true (b ++ [37] ++ r) (i : Int)) true := by
 have m := h1.take 150
 have hml : (l1.take 150).length ≤ 150 := by rw [List.length_take]; omega
 have e0 : skipS (b ++ [37] ++ r) = (b.length + (1 + r.length), 0) := by
  rw [List.append_assoc, skip_lay hb.1]
  have := skip_line hr [] (.inl rfl)
  rw [List.append_nil] at this
  show (b.length + (skipS (37 :: r)).1, (skipS (37 :: r)).2) = _
  rw [this, skipS_stop rfl]; rfl
 have e1 : skipS (b ++ [37] ++ r ++ [10] ++ l1.take 150) = (b.length + (1 + r.length + (1 + (skipS (l1.take 150)).1)), (skipS (l1.take 150)).2) := by
  rw [show b ++ [37] ++ r ++ [10] ++ l1.take 150 = b ++ (37 :: (r ++ (10 :: l1.take 150))) by simp, skip_lay hb.1, skip_line hr _ (.inr ⟨_, rfl⟩)]
  have := skip_lay (a := [10]) (fun x hx => by rw [List.mem_singleton.1 hx]; exact cl10) (l1.take 150)
  simp only [List.cons_append, List.nil_append, List.length_cons, List.length_nil] at this
  rw [this]
 have hb3 : Bytes (b ++ [37] ++ r) := fun x hx => by
  rcases List.mem_append.1 hx with h | h
  ·rcases List.mem_append.1 h with h | h
   ·exact hb.2 x h
   ·rw [List.mem_singleton.1 h]; omega
  ·exact hrb x h
 have hl3 : (b ++ [37] ++ r).length = b.length + (1 + r.length) := by simp only [List.length_append, List.length_cons, List.length_nil]; omega
 have hsl := skipS_le ((l1.take 150).length + 1) (l1.take 150) (by omega)
 have s0 := skip_ev (b ++ [37] ++ r) hb3 (by omega)
 have s1 := skip_ev (b ++ [37] ++ r ++ [10] ++ l1.take 150) (fun x hx => by
  rcases List.mem_append.1 hx with h | h
  ·rcases List.mem_append.1 h with h | h
   ·exact hb3 x h
   ·rw [List.mem_singleton.1 h]; omega
  ·exact m x h) (by rw [List.length_append, List.length_append, hl3]; simp only [List.length_cons, List.length_nil]; omega)
 have s2 := skip_ev (l1.take 150) m (by omega)
 rw [e0] at s0
 rw [e1] at s1
 clear e0 e1
 generalize hL : b ++ [37] ++ r = L at s0 s1 hl3 ⊢
 generalize skipS (l1.take 150) = S at s1 s2 hsl
 obtain ⟨n, er⟩ := S
 simp only at s0 s1 s2 hsl
 refine Ev.step (fun k => tmesislaw05_LayoutLines.l1.eq_2 ..) (ev_same (few_eq l0) (ev_else (by omega) (Ev.bind s0 (ev_let (ev_if (by simp only [List.length_nil]; omega) (ev_let ?_))))))
 rw [List.nil_append]
 refine ev_if (by omega) (ev_let (ev_same (few_eq l1) (ev_if (by rw [List.length_append]; simp only [List.length_cons, List.length_nil]; omega) (Ev.bind s1 (ev_same (few_eq l1) (Ev.bind s2 ?_))))))
 have w1 : wrap64 ((L.length : Int) + 1) = (L.length : Int) + 1 := w64 (by omega) (by omega)
 have w2 : wrap64 ((L.length : Int) + 1 + (n : Int)) = (L.length : Int) + 1 + (n : Int) := w64 (by omega) (by omega)
 simp only [w1, w2]
 exact ev_if (by trivial) (ev_if (by omega) (ev_if (by trivial) (ev_if (by omega) (ev_now (by simp)))))
theorem line_loop (l0 l1 b : List Int) (hb : (∀ x ∈ b, classOf x = 1) ∧ Bytes b) (hbl : b.length < 16) (h0 : Bytes l0) (h1 : Bytes l1) (d : Nat) : ∀ (i : Nat) (r : List Int), i + d = (l0.take 150).length → (∀ x ∈ r, x ≠ 10) → Bytes r → r.length ≤ i →
  Ev (fun k => tmesislaw05_LayoutLines.l1 k l0 l1 true (b ++ [37] ++ r) (i : Int)) true := by
 have hlt : (l0.take 150).length ≤ 150 := by rw [List.length_take]; omega
 have hle : (l0.take 150).length ≤ l0.length := by rw [List.length_take]; omega
 induction d with
 | zero =>
  intro i r hi hr hrb hrl
  exact lines_end l0 l1 b r i hb hbl hr hrb (by omega) h1 (by omega) (by omega)
 | succ d ih =>
  intro i r hi hr hrb hrl
  have w1 : wrap64 ((i : Int) + 1) = ((i + 1 : Nat) : Int) := by rw [w64 (by omega) (by omega)]; omega
  have hlen : (b ++ [37] ++ r).length = b.length + (1 + r.length) := by simp only [List.length_append, List.length_cons, List.length_nil]; omega
  have hil : i < l0.length := by omega
  refine Ev.step (fun k => tmesislaw05_LayoutLines.l1.eq_2 ..) (ev_same (few_eq l0) (ev_if (by omega) (ev_if (by omega) (ev_if (by omega) ?_))))
  rw [rd_at l0 i hil, w1]
  by_cases h : l0[i] = 10
  ·exact ev_if h (ih (i + 1) r (by omega) hr hrb (by omega))
  ·refine ev_else h (ev_if (by omega) ?_)
   rw [List.append_assoc]
   refine ih (i + 1) (r ++ [l0[i]]) (by omega) ?_ ?_ (by rw [List.length_append]; simp only [List.length_cons, List.length_nil]; omega)
   ·intro x hx
    rcases List.mem_append.1 hx with h2 | h2
    ·exact hr x h2
    ·rw [List.mem_singleton.1 h2]; exact h
   ·intro x hx
    rcases List.mem_append.1 hx with h2 | h2
    ·exact hrb x h2
    ·rw [List.mem_singleton.1 h2]; exact h0 _ (List.getElem_mem hil)
theorem LayoutLines : tmesislaw05_LayoutLines.Pure := by
 intro l0 l1 a g1 g2 h0 g3 g4 h1 ha
 have ha := u8_wf ha
 have h0 := bytes_wf h0
 have h1 := bytes_wf h1
 clear g1 g2 g3 g4
 apply Ev.rounds
 unfold tmesislaw05_LayoutLines.f
 refine Ev.bind shown_ev ?_
 obtain ⟨n, hn, e⟩ : ∃ n : Nat, n < 16 ∧ Aside0 (Int.tmod (wrap64 a) 16 = (n : Int)) := by
  refine ⟨(a % 16).toNat, by omega, ⟨?_⟩⟩
  rw [w64 (i := a) (by omega) (by omega), Int.tmod_eq_emod_of_nonneg ha.1]
  omega
 refine blank_loop l0 l1 a n hn e true n 0 (by omega) ?_
 have hl := blanks_len n
 have fin := line_loop l0 l1 (blanks n) (blanks_lay n) (by omega) h0 h1 (l0.take 150).length 0 [] (by omega) (fun x hx => (by cases hx)) (fun x hx => (by cases hx)) (by simp)
 rw [List.append_nil] at fin
 exact fin
end Go.Proofs.YtfmhhjimnhfbaaaDoor.Pure
