/- Part of the proof: what the theorem needs of this text. -/
import Derived.Test.YtpkklbdclghcfaaDoorKHCM
import Derived.Test.YtpkklbdclghcfaaDoorKHG
import Derived.Test.YtpkklbdclghcfaaDoorKHIB
import Derived.Test.YtpkklbdclghcfaaDoorKHSC
import Derived.Test.YtpkklbdclghcfaaDoorKHTX
import Derived.Test.YtpkklbdclghcfaaDoorKPx10
import Derived.Test.YtpkklbdclghcfaaDoorKPx12
import Derived.Test.YtpkklbdclghcfaaDoorKPx22
import Derived.Test.YtpkklbdclghcfaaDoorKPx23
import Derived.Test.YtpkklbdclghcfaaDoorKPx3
import Derived.Test.YtpkklbdclghcfaaDoorKPx4
import Derived.Test.YtpkklbdclghcfaaDoorKPx5
import Derived.Test.YtpkklbdclghcfaaDoorKPx6
import Derived.Test.YtpkklbdclghcfaaDoorKPx7
import Derived.Test.YtpkklbdclghcfaaDoorKPx8
import Derived.Test.YtpkklbdclghcfaaDoorKPx9
import Derived.Test.YtpkklbdclghcfaaDoorMW1
namespace Go.Proofs.YtpkklbdclghcfaaDoor.P
set_option linter.unusedSimpArgs false
set_option linter.unusedVariables false
open Go.RowKit Go.Proofs.YtpkklbdclghcfaaDoorW.PrintWords Go.Proofs.YtpkklbdclghcfaaDoorW.PrintLast Go.Proofs.YtpkklbdclghcfaaDoorW.PrintMore
section
variable {α β : Type}
theorem ev_if {c : Prop} [Decidable c] {a b : Nat → Option α} {r : α} (hc : c) (h : Ev a r) : Ev (fun k => if c then a k else b k) r := by simpa only [if_pos hc] using h
theorem ev_else {c : Prop} [Decidable c] {a b : Nat → Option α} {r : α} (hc : ¬ c) (h : Ev b r) : Ev (fun k => if c then a k else b k) r := by simpa only [if_neg hc] using h
theorem ev_same {o : Option β} {y : β} {f : Nat → β → Option α} {r : α} (ho : o = some y) (h : Ev (fun k => f k y) r) : Ev (fun k => o.bind (f k)) r := by subst ho; exact h
theorem ev_eq {g : Nat → Option α} {r r' : α} (h : Ev g r) (e : r = r') : Ev g r' := e ▸ h
theorem ev_now {r r' : α} (e : r = r') : Ev (fun _ => some r) r' := e ▸ Ev.now r
end
theorem w64 {i : Int} (h0 : -9223372036854775808 ≤ i) (h1 : i ≤ 9223372036854775807) : wrap64 i = i := by unfold wrap64; omega
theorem mn_le (n : Nat) (m : Int) (hm : 0 ≤ m) : (mn (n : Int) m).toNat = min n m.toNat := by unfold mn; split <;> omega
end Go.Proofs.YtpkklbdclghcfaaDoor.P
namespace Go.Proofs.YtpkklbdclghcfaaDoor.P
set_option linter.unusedSimpArgs false
set_option linter.unusedVariables false
open Go.RowKit Go.Proofs.YtpkklbdclghcfaaDoorW.PrintWords Go.Proofs.YtpkklbdclghcfaaDoorW.PrintLast Go.Proofs.YtpkklbdclghcfaaDoorW.PrintMore
/-- what may stand in a name -/
def nameOf (c : Int) : Bool := classOf c == 2 || classOf c == 3 || classOf c == 4
theorem class_of (c : Int) : class_Of.f c = some (classOf c) := rfl
def Bytes (l : List Int) : Prop := ∀ x ∈ l, 0 ≤ x ∧ x < 256
theorem Bytes.take {l : List Int} (h : Bytes l) (n : Nat) : Bytes (l.take n) := fun x hx => h x (List.mem_of_mem_take hx)
theorem Bytes.drop {l : List Int} (h : Bytes l) (n : Nat) : Bytes (l.drop n) := fun x hx => h x (List.mem_of_mem_drop hx)
end Go.Proofs.YtpkklbdclghcfaaDoor.P
namespace Go.Proofs.YtpkklbdclghcfaaDoor.P
set_option linter.unusedSimpArgs false
set_option linter.unusedVariables false
open Go.RowKit Go.Proofs.YtpkklbdclghcfaaDoorW.PrintWords Go.Proofs.YtpkklbdclghcfaaDoorW.PrintLast Go.Proofs.YtpkklbdclghcfaaDoorW.PrintMore
theorem name_eq (c : Int) : class_Name.f c = some (nameOf c) := by
 unfold class_Name.f nameOf
 rw [class_of, Option.bind_some]
 by_cases h2 : classOf c = 2
 ·simp [h2]
 by_cases h3 : classOf c = 3
 ·simp [h3]
 by_cases h4 : classOf c = 4
 ·simp [h4]
 simp [h2, h3, h4]
end Go.Proofs.YtpkklbdclghcfaaDoor.P
namespace Go.Proofs.YtpkklbdclghcfaaDoor.P
set_option linter.unusedSimpArgs false
set_option linter.unusedVariables false
open Go.RowKit Go.Proofs.YtpkklbdclghcfaaDoor.P Go.Proofs.YtpkklbdclghcfaaDoorW.PrintWords Go.Proofs.YtpkklbdclghcfaaDoorW.PrintLast Go.Proofs.YtpkklbdclghcfaaDoorW.PrintMore
theorem Bytes.cons {c : Int} {r : List Int} (h : Bytes (c :: r)) : (0 ≤ c ∧ c < 256) ∧ Bytes r := ⟨h c (by simp), fun x hx => h x (by simp [hx])⟩
end Go.Proofs.YtpkklbdclghcfaaDoor.P
namespace Go.Proofs.YtpkklbdclghcfaaDoor.P
set_option linter.unusedSimpArgs false
set_option linter.unusedVariables false
open Go.RowKit Go.Proofs.YtpkklbdclghcfaaDoorW.PrintWords Go.Proofs.YtpkklbdclghcfaaDoorW.PrintLast Go.Proofs.YtpkklbdclghcfaaDoorW.PrintMore
theorem w1 {i : Int} (h0 : -1 ≤ i) (h1 : i ≤ 9223372036854775806) : wrap64 (i + 1) = i + 1 := by unfold wrap64; omega
end Go.Proofs.YtpkklbdclghcfaaDoor.P
namespace Go.Proofs.YtpkklbdclghcfaaDoor.P
set_option linter.unusedSimpArgs false
set_option linter.unusedVariables false
open Go.RowKit Go.Proofs.YtpkklbdclghcfaaDoor.P Go.Proofs.YtpkklbdclghcfaaDoorW.PrintWords Go.Proofs.YtpkklbdclghcfaaDoorW.PrintLast Go.Proofs.YtpkklbdclghcfaaDoorW.PrintMore
abbrev TokR := S38
end Go.Proofs.YtpkklbdclghcfaaDoor.P
namespace Go.Proofs.YtpkklbdclghcfaaDoor.P
set_option linter.unusedSimpArgs false
set_option linter.unusedVariables false
open Go.RowKit Go.Proofs.YtpkklbdclghcfaaDoor.P Go.Proofs.YtpkklbdclghcfaaDoorW.PrintWords Go.Proofs.YtpkklbdclghcfaaDoorW.PrintLast Go.Proofs.YtpkklbdclghcfaaDoorW.PrintMore
abbrev PieceR := S25
theorem rdT_get (l : List TokR) (i : Nat) (h : i < l.length) : rd_T38 l (i : Int) = l[i] := by
 show l.getD i _ = l[i]
 rw [List.getD_eq_getElem?_getD, List.getElem?_eq_getElem h]; rfl
theorem rdT_drop {l r : List TokR} {t : TokR} {i : Nat} (h : l.drop i = t :: r) : i < l.length ∧ rd_T38 l (i : Int) = t ∧ l.drop (i + 1) = r := by
 have hl : (l.drop i).length = r.length + 1 := by rw [h]; rfl
 rw [List.length_drop] at hl
 have h2 : l[i]? = some t := by rw [← List.head?_drop, h]; rfl
 refine ⟨by omega, ?_, by rw [← List.drop_drop, h]; rfl⟩
 show l.getD i _ = t
 rw [List.getD_eq_getElem?_getD, h2]; rfl
theorem w64n {i : Nat} (h : i ≤ 1000000000) : wrap64 ((i : Int) + 1) = ((i + 1 : Nat) : Int) := by rw [w64 (by omega) (by omega)]; omega
/-- how deep: what is open, and the most -/
def nestN (s : Int × Int) (t : TokR) : Int × Int :=
 if t.f0 = 6 then (if t.f3.toList = ([40] : List UInt8) then (s.1 + 1, mx s.2 (s.1 + 1)) else if t.f3.toList = ([41] : List UInt8) then (mx (s.1 - 1) 0, mx s.2 (mx (s.1 - 1) 0)) else (s.1, mx s.2 s.1)) else s
def nestS (l : List TokR) : Int := (l.foldl nestN (0, 0)).2
theorem mx0 (x : Int) : 0 ≤ mx x 0 := by unfold mx; split <;> omega
theorem nest_loop (l : List TokR) (hn : l.length ≤ 1000000) (r : List TokR) : ∀ (i : Nat) (o m : Int), l.drop i = r → i ≤ l.length → 0 ≤ o → o ≤ i →
  Ev (fun k => split_Nest.l0 k o m l (l.length : Int) (i : Int)) (r.foldl nestN (o, m)).2 := by
 induction r with
 | nil =>
  intro i o m h hi _ _
  have : l.length - i = 0 := by have := congrArg List.length h; simpa using this
  exact Ev.step (fun k => split_Nest.l0.eq_2 ..) (ev_else (by omega) (Ev.now _))
 | cons t r ih =>
  intro i o m h hi h0 ho
  obtain ⟨h1, h2, h3⟩ := rdT_drop h
  refine Ev.step (fun k => split_Nest.l0.eq_2 ..) (ev_if (by omega) (ev_if (by omega) (ev_if (by omega) ?_)))
  rw [h2, w64n (by omega), List.foldl_cons]
  unfold nestN
  by_cases h6 : t.f0 = 6
  ·rw [if_pos h6]
   refine ev_if h6 ?_
   by_cases hp : t.f3.toList = ([40] : List UInt8)
   ·rw [if_pos hp]
    refine ev_if hp ?_
    rw [w64 (i := o + 1) (by omega) (by omega)]
    exact ih (i + 1) _ _ h3 (by omega) (by omega) (by omega)
   ·rw [if_neg hp]
    refine ev_else hp ?_
    by_cases hq : t.f3.toList = ([41] : List UInt8)
    ·rw [if_pos hq]
     refine ev_if hq ?_
     rw [w64 (i := o - 1) (by omega) (by omega)]
     exact ih (i + 1) _ _ h3 (by omega) (mx0 _) (by unfold mx; split <;> omega)
    ·rw [if_neg hq]
     exact ev_else hq (ih (i + 1) _ _ h3 (by omega) (by omega) (by omega))
  ·rw [if_neg h6]
   exact ev_else h6 (ih (i + 1) _ _ h3 (by omega) (by omega) (by omega))
theorem nest_ev (a b c : Int) (l : List TokR) (hn : l.length ≤ 1000000) : Ev (fun k => split_Nest.f k a b c l) (nestS l) := nest_loop l hn l 0 0 0 rfl (Nat.zero_le _) (Int.le_refl _) (Int.le_refl _)
end Go.Proofs.YtpkklbdclghcfaaDoor.P
namespace Go.Proofs.YtpkklbdclghcfaaDoor.P
set_option linter.unusedSimpArgs false
set_option linter.unusedVariables false
open Go.RowKit Go.Proofs.YtpkklbdclghcfaaDoor.P Go.Proofs.YtpkklbdclghcfaaDoorW.PrintWords Go.Proofs.YtpkklbdclghcfaaDoorW.PrintLast Go.Proofs.YtpkklbdclghcfaaDoorW.PrintMore
abbrev U8s := List UInt8
theorem lt_of_le_ne {a b : U8s} (h : a ≤ b) (hn : a ≠ b) : a < b := by
 rcases Classical.em (a < b) with h1 | h1
 ·exact h1
 ·exact absurd (List.le_antisymm h (List.not_lt.1 h1)) hn
theorem cmp_step (zs : List U8s) (hs : zs.Pairwise (· ≤ ·)) : ∀ m, m ≤ zs.length → (Lib.compactUpTo zs.toArray m).Pairwise (· < ·) ∧ ∀ x, x ∈ Lib.compactUpTo zs.toArray m ↔ x ∈ zs.take m
 | 0, _ => ⟨List.Pairwise.nil, fun x => by simp [Lib.compactUpTo]⟩
 | m + 1, hm => by
  obtain ⟨h1, h2⟩ := cmp_step zs hs m (by omega)
  have hlt : m < zs.length := by omega
  have hg : zs.toArray[m]! = zs[m] := by simp [hlt]
  have ht : zs.take (m + 1) = zs.take m ++ [zs[m]] := by rw [List.take_succ_eq_append_getElem hlt]
  have hle : ∀ j, (hj : j < m) → zs[j]'(by omega) ≤ zs[m] := fun j hj => List.pairwise_iff_getElem.1 hs j m (by omega) hlt hj
  rw [Lib.compactUpTo_succ, ht]
  by_cases hk : m = 0
  ·subst hk
   rw [if_pos (by simp [Lib.keeps]), hg]
   have : Lib.compactUpTo zs.toArray 0 = [] := rfl
   rw [this]
   simp
  ·have hg1 : zs.toArray[m - 1]! = zs[m - 1]'(by omega) := by simp [show m - 1 < zs.length by omega]
   by_cases he : zs[m] = zs[m - 1]'(by omega)
   ·rw [Lib.keeps_neg (by omega) (by rw [hg, hg1, he]), if_neg (by simp), List.append_nil]
    refine ⟨h1, fun x => ?_⟩
    rw [h2, List.mem_append, List.mem_singleton]
    refine ⟨.inl, fun h => h.elim id fun h => ?_⟩
    rw [h, he]
    exact List.mem_iff_getElem.2 ⟨m - 1, by rw [List.length_take]; omega, by rw [List.getElem_take]⟩
   ·rw [Lib.keeps_pos (by rw [hg, hg1]; exact he), if_pos rfl, hg]
    refine ⟨List.pairwise_append.2 ⟨h1, by simp, fun x hx y hy => ?_⟩, fun x => by rw [List.mem_append, h2, List.mem_append]⟩
    rw [List.mem_singleton.1 hy]
    obtain ⟨j, hj, e⟩ := List.mem_iff_getElem.1 ((h2 x).1 hx)
    rw [List.length_take] at hj
    rw [List.getElem_take] at e
    have hlast : zs[m - 1]'(by omega) < zs[m] := lt_of_le_ne (hle (m - 1) (by omega)) (fun e2 => he e2.symm)
    rw [← e]
    rcases Nat.lt_or_ge j (m - 1) with hj2 | hj2
    ·exact List.lt_of_le_of_lt (List.pairwise_iff_getElem.1 hs j (m - 1) (by omega) (by omega) hj2) hlast
    ·obtain rfl : j = m - 1 := by omega
     exact hlast
theorem cmp_facts (zs : List U8s) (hs : zs.Pairwise (· ≤ ·)) : (Lib.compact zs).Pairwise (· < ·) ∧ ∀ x, x ∈ Lib.compact zs ↔ x ∈ zs := by
 have h := cmp_step zs hs zs.length (Nat.le_refl _)
 rw [List.take_length] at h
 exact h
theorem sort_facts (zs : List U8s) : (zs.mergeSort fun x y => decide (x ≤ y)).Pairwise (· ≤ ·) := by
 have := List.pairwise_mergeSort (le := fun x y : U8s => decide (x ≤ y)) (fun a b c h1 h2 => by simp only [decide_eq_true_eq] at *; exact List.le_trans h1 h2) (fun a b => by simp only [Bool.or_eq_true, decide_eq_true_eq]; exact List.le_total a b) zs
 exact this.imp (by simp)
/-- rising, each once -/
def Rising (l : List ByteArray) : Prop := (l.map chrs).Pairwise (· < ·)
def isName (t : TokR) : Bool := t.f0 == 1 || t.f0 == 2 || t.f0 == 6
def nameL (l : List TokR) : List ByteArray := (l.filter isName).map (·.f3)
def namesS (l : List TokR) : List ByteArray := cmpS (srtS (nameL l))
theorem map_unch (l : List U8s) : (l.map unch).map chrs = l := by
 rw [List.map_map]
 exact List.map_id _
theorem names_rising (l : List TokR) : Rising (namesS l) := by
 unfold Rising namesS cmpS srtS
 rw [map_unch, map_unch]
 exact (cmp_facts _ (sort_facts _)).1
theorem mem_chrs {s : ByteArray} {l : List ByteArray} : chrs s ∈ l.map chrs ↔ s ∈ l := by
 refine ⟨fun h => ?_, fun h => List.mem_map_of_mem h⟩
 obtain ⟨t, ht, e⟩ := List.mem_map.1 h
 have : t = s := by rw [← unch_chrs t, ← unch_chrs s, e]
 exact this ▸ ht
theorem names_mem (l : List TokR) (s : ByteArray) : s ∈ namesS l ↔ s ∈ nameL l := by
 rw [← mem_chrs]
 unfold namesS cmpS srtS
 rw [map_unch, map_unch, (cmp_facts _ (sort_facts _)).2, List.mem_mergeSort, mem_chrs]
theorem names_len (l : List TokR) : (namesS l).length ≤ l.length := by
 unfold namesS cmpS srtS
 rw [List.length_map, map_unch]
 have h1 := Lib.compact_length_le (((nameL l).map chrs).mergeSort fun x y => decide (x ≤ y))
 rw [List.length_mergeSort, List.length_map] at h1
 have h2 : (nameL l).length ≤ l.length := by
  unfold nameL
  rw [List.length_map]
  exact List.length_filter_le _ _
 omega
theorem nameL_cons (t : TokR) (r : List TokR) : nameL (t :: r) = if isName t then t.f3 :: nameL r else nameL r := by
 unfold nameL
 rw [List.filter_cons]
 cases isName t <;> rfl
theorem names_loop (l : List TokR) (hn : l.length ≤ 1000000) (r : List TokR) : ∀ (i : Nat) (acc : List ByteArray), l.drop i = r → i ≤ l.length → acc.length ≤ i →
  Ev (fun k => split_Names.l0 k acc l (l.length : Int) (i : Int)) (cmpS (srtS (acc ++ nameL r))) := by
 induction r with
 | nil =>
  intro i acc h hi ha
  have : l.length - i = 0 := by have := congrArg List.length h; simpa using this
  refine Ev.step (fun k => split_Names.l0.eq_2 ..) (ev_else (by omega) ?_)
  have h1 : slices_Sort_string_string.f acc = some (srtS acc) := by unfold slices_Sort_string_string.f; rw [if_pos (by omega)]
  have h2 : slices_Compact_string_string.f (srtS acc) = some (cmpS (srtS acc)) := by
   unfold slices_Compact_string_string.f
   rw [if_pos]
   unfold srtS
   rw [List.length_map, List.length_mergeSort, List.length_map]
   omega
  refine ev_same h1 (ev_same h2 (ev_now ?_))
  simp [nameL]
 | cons t r ih =>
  intro i acc h hi ha
  obtain ⟨h1, h2, h3⟩ := rdT_drop h
  refine Ev.step (fun k => split_Names.l0.eq_2 ..) (ev_if (by omega) (ev_if (by omega) (ev_if (by omega) ?_)))
  rw [h2, w64n (by omega)]
  have go : isName t = true → Ev (fun k => if acc.length < 8796093022208 then split_Names.l0 k (acc ++ [t.f3]) l (l.length : Int) ((i + 1 : Nat) : Int) else none) (cmpS (srtS (acc ++ nameL (t :: r)))) := fun hi2 => by
   refine ev_if (by omega) (ev_eq (ih (i + 1) _ h3 (by omega) (by simp; omega)) ?_)
   rw [nameL_cons, hi2, if_pos rfl, List.append_assoc]; rfl
  by_cases e1 : t.f0 = 1
  ·exact ev_if e1 (go (by simp [isName, e1]))
  ·refine ev_else e1 ?_
   by_cases e2 : t.f0 = 2
   ·exact ev_if e2 (go (by simp [isName, e2]))
   ·refine ev_else e2 ?_
    by_cases e6 : t.f0 = 6
    ·exact ev_if e6 (go (by simp [isName, e6]))
    ·refine ev_else e6 (ev_eq (ih (i + 1) _ h3 (by omega) (by omega)) ?_)
     rw [nameL_cons, if_neg (by simp [isName, e1, e2, e6])]
theorem names_ev (a b c : Int) (l : List TokR) (hn : l.length ≤ 1000000) : Ev (fun k => split_Names.f k a b c l) (namesS l) :=
 ev_eq (names_loop l hn l 0 [] rfl (Nat.zero_le _) (Nat.le_refl _)) (by rw [List.nil_append]; rfl)
end Go.Proofs.YtpkklbdclghcfaaDoor.P
namespace Go.Proofs.YtpkklbdclghcfaaDoor.P
set_option linter.unusedSimpArgs false
set_option linter.unusedVariables false
open Go.RowKit Go.Proofs.YtpkklbdclghcfaaDoor.P Go.Proofs.YtpkklbdclghcfaaDoorW.PrintWords Go.Proofs.YtpkklbdclghcfaaDoorW.PrintLast Go.Proofs.YtpkklbdclghcfaaDoorW.PrintMore
def shownP : List PieceR := [⟨0, 2, 0, [⟨1, 0, 1, ⟨#[97]⟩, 0⟩, ⟨7, 1, 2, ⟨#[46]⟩, 0⟩]⟩, ⟨3, 5, 2, [⟨6, 3, 4, ⟨#[40]⟩, 0⟩, ⟨1, 4, 5, ⟨#[98]⟩, 0⟩]⟩]
theorem shown_pieces : Ev (fun k => split_Pieces.f k [97, 46, 32, 40, 98]) shownP := Ev.of (fun k => split_Pieces.mono _ k) (k := 40) (by kernel_rfl)
theorem shown_ev : Ev (fun k => tmesislaw10_shown.f k) true := by
 unfold tmesislaw10_shown.f
 refine Ev.bind shown_pieces ?_
 refine ev_if rfl (ev_if (by decide) (ev_if rfl (ev_if (by decide) (ev_if rfl (ev_if rfl ?_)))))
 refine Ev.bind (nest_ev _ _ _ _ (by decide)) (ev_if (by kernel_rfl) (Ev.bind (names_ev _ _ _ _ (by decide)) (ev_now ?_)))
 have h1 : nameL (rd_T25 shownP 0).f3 = [⟨#[97]⟩] := by decide
 unfold namesS
 rw [h1]
 simp [cmpS, srtS, Lib.compact, Lib.compactUpTo, Lib.keeps, List.range_succ]
theorem short_eq (a b c : Int) (l : List TokR) : tmesislaw10_short.f a b c l = some (a, b, c, l.take 40) := by
 unfold tmesislaw10_short.f
 have h1 : 0 ≤ mn (l.length : Int) 40 := by unfold mn; split <;> omega
 have h2 : mn (l.length : Int) 40 ≤ (l.length : Int) := by unfold mn; split <;> omega
 rw [if_pos h1, if_pos h2, mn_le _ _ (by omega)]
 congr 4
 rw [Nat.min_comm, ← List.take_take, List.take_length]
 rfl
end Go.Proofs.YtpkklbdclghcfaaDoor.P
namespace Go.Proofs.YtpkklbdclghcfaaDoor.Pure
set_option linter.unusedSimpArgs false
set_option linter.unusedVariables false
open Go.RowKit Go.Proofs.YtpkklbdclghcfaaDoor.P Go.Proofs.YtpkklbdclghcfaaDoorW.PrintWords Go.Proofs.YtpkklbdclghcfaaDoorW.PrintLast
theorem name_eq (t : TokR) : tmesislaw10_name.f t.f0 t.f1 t.f2 t.f3 t.f4 = some (isName t) := by
 unfold tmesislaw10_name.f isName
 by_cases h1 : t.f0 = 1
 ·simp [h1]
 ·by_cases h2 : t.f0 = 2
  ·simp [h2]
  ·simp [h1, h2]
theorem rdS_get (l : List ByteArray) (i : Nat) (h : i < l.length) : rdOf ByteArray.empty l (i : Int) = l[i] := by
 show l.getD i _ = l[i]
 rw [List.getD_eq_getElem?_getD, List.getElem?_eq_getElem h]; rfl
section
variable {sh : Bool} {a b c : Int} {r : Bool}
theorem l1_loop (x : List ByteArray) (i : Nat) (l : List TokR) (hn : l.length ≤ 1000) (hxn : x.length ≤ 1000) (hi : i < x.length) (hr : Rising x) (h : Ev (fun k => tmesislaw10_SplitNames.j3 k sh x (i : Int) false a b c l) r) (q : List TokR) :
  ∀ (n : Nat) (d : Bool), l.drop n = q → n ≤ l.length → (d = true ∨ x[i] ∈ nameL q) → Ev (fun k => tmesislaw10_SplitNames.l1 k sh x (i : Int) d (n : Int) a b c l) r := by
 induction q with
 | nil =>
  intro n d hd hl ho
  have hz : l.length - n = 0 := by have := congrArg List.length hd; simpa using this
  have hd1 : d = true := ho.elim id (fun h => by simp [nameL] at h)
  subst hd1
  refine Ev.step (fun k => tmesislaw10_SplitNames.l1.eq_2 ..) (ev_else (by omega) (ev_if rfl ?_))
  by_cases h0 : (i : Int) > 0
  ·have e1 : wrap64 ((i : Int) - 1) = ((i - 1 : Nat) : Int) := by rw [w64 (by omega) (by omega)]; omega
   rw [e1]
   refine ev_if h0 (ev_if (by omega) (ev_if (by omega) (ev_if (by omega) (ev_if (by omega) ?_))))
   rw [rdS_get x (i - 1) (by omega), rdS_get x i hi, bytesLess_eq, Lib.toList_data, Lib.toList_data]
   have hlt : chrs (x[i - 1]'(by omega)) < chrs x[i] := by
    have := List.pairwise_iff_getElem.1 hr (i - 1) i (by rw [List.length_map]; omega) (by rw [List.length_map]; omega) (by omega)
    rw [List.getElem_map, List.getElem_map] at this
    exact this
   have e2 : (!decide ((x[i - 1]'(by omega)).data.toList < x[i].data.toList)) = false := by
    have h9 : (x[i - 1]'(by omega)).data.toList < x[i].data.toList := hlt
    simp [h9]
   rw [e2]
   exact h
  ·exact ev_else h0 h
 | cons t q ih =>
  intro n d hd hl ho
  obtain ⟨h1, h2, h3⟩ := rdT_drop hd
  have step : ∀ d' : Bool, (d' = true ∨ x[i] ∈ nameL q) → Ev (fun k => tmesislaw10_SplitNames.j2 k sh x (i : Int) d' (n : Int) a b c l) r := fun d' hd' => by
   refine Ev.step (fun k => tmesislaw10_SplitNames.j2.eq_2 ..) ?_
   rw [w64n (by omega)]
   exact ih (n + 1) d' h3 (by omega) hd'
  refine Ev.step (fun k => tmesislaw10_SplitNames.l1.eq_2 ..) (ev_if (by omega) ?_)
  by_cases hd1 : d = true
  ·exact ev_if hd1 (step true (.inl rfl))
  ·refine ev_else hd1 (ev_if (by omega) (ev_if (by omega) (ev_if (by omega) ?_)))
   rw [h2, rdS_get x i hi]
   have ho := ho.resolve_left hd1
   rw [nameL_cons] at ho
   by_cases he : t.f3.toList = x[i].toList
   ·refine ev_if he (ev_same (name_eq t) (step _ ?_))
    by_cases hN : isName t = true
    ·exact .inl hN
    ·rw [if_neg hN] at ho; exact .inr ho
   ·refine ev_else he (step false (.inr ?_))
    by_cases hN : isName t = true
    ·rw [if_pos hN] at ho
     rcases List.mem_cons.1 ho with h | h
     ·exact absurd (by rw [h]) he
     ·exact h
    ·rw [if_neg hN] at ho; exact ho
theorem l0_loop (x : List ByteArray) (l : List TokR) (hn : l.length ≤ 1000) (hxn : x.length ≤ 1000) (hr : Rising x) (hm : ∀ s ∈ x, s ∈ nameL l) (h : Ev (fun k => tmesislaw10_SplitNames.l2 k sh x 0 a b c l) r) (d : Nat) :
  ∀ i : Nat, i + d = x.length → Ev (fun k => tmesislaw10_SplitNames.l0 k sh x (i : Int) a b c l) r := by
 induction d with
 | zero => intro i hi; exact Ev.step (fun k => tmesislaw10_SplitNames.l0.eq_2 ..) (ev_else (by omega) h)
 | succ d ih =>
  intro i hi
  refine Ev.step (fun k => tmesislaw10_SplitNames.l0.eq_2 ..) (ev_if (by omega) ?_)
  refine l1_loop x i l hn hxn (by omega) hr ?_ l 0 false rfl (Nat.zero_le _) (.inr (hm _ (List.getElem_mem _)))
  refine Ev.step (fun k => tmesislaw10_SplitNames.j3.eq_2 ..) (ev_else (by simp) ?_)
  rw [w64n (by omega)]
  exact ih (i + 1) (by omega)
theorem l3_loop (x : List ByteArray) (i : Nat) (l : List TokR) (hn : l.length ≤ 1000) (hxn : x.length ≤ 1000) (hi : i < l.length) (h : Ev (fun k => tmesislaw10_SplitNames.j7 k sh x (i : Int) false a b c l) r) (d : Nat) :
  ∀ (n : Nat) (e : Bool), n + d = x.length → (isName l[i] = true → e = true ∨ l[i].f3 ∈ x.drop n) → Ev (fun k => tmesislaw10_SplitNames.l3 k sh x (i : Int) e (n : Int) a b c l) r := by
 induction d with
 | zero =>
  intro n e hnn ho
  refine Ev.step (fun k => tmesislaw10_SplitNames.l3.eq_2 ..) (ev_else (by omega) (ev_if (by omega) (ev_if (by omega) ?_)))
  rw [rdT_get l i hi]
  refine ev_same (name_eq _) ?_
  by_cases hN : isName l[i] = true
  ·refine ev_if hN ?_
   have : e = true := (ho hN).elim id (fun h => by rw [List.drop_of_length_le (by omega)] at h; cases h)
   subst this
   exact h
  ·exact ev_else hN h
 | succ d ih =>
  intro n e hnn ho
  have step : ∀ e' : Bool, (isName l[i] = true → e' = true ∨ l[i].f3 ∈ x.drop (n + 1)) → Ev (fun k => tmesislaw10_SplitNames.j6 k sh x (i : Int) e' (n : Int) a b c l) r := fun e' he => by
   refine Ev.step (fun k => tmesislaw10_SplitNames.j6.eq_2 ..) ?_
   rw [w64n (by omega)]
   exact ih (n + 1) e' (by omega) he
  refine Ev.step (fun k => tmesislaw10_SplitNames.l3.eq_2 ..) (ev_if (by omega) ?_)
  by_cases he : e = true
  ·exact ev_if he (step true (fun _ => .inl rfl))
  ·refine ev_else he (ev_if (by omega) (ev_if (by omega) (ev_if (by omega) ?_)))
   rw [rdT_get l i hi, rdS_get x n (by omega)]
   refine step _ (fun hN => ?_)
   have := (ho hN).resolve_left he
   rw [List.drop_eq_getElem_cons (by omega)] at this
   rcases List.mem_cons.1 this with h1 | h1
   ·left; rw [h1]; simp
   ·exact .inr h1
theorem l2_loop (x : List ByteArray) (l : List TokR) (hn : l.length ≤ 1000) (hxn : x.length ≤ 1000) (hm : ∀ s ∈ nameL l, s ∈ x) (d : Nat) :
  ∀ i : Nat, i + d = l.length → Ev (fun k => tmesislaw10_SplitNames.l2 k true x (i : Int) a b c l) true := by
 induction d with
 | zero => intro i hi; exact Ev.step (fun k => tmesislaw10_SplitNames.l2.eq_2 ..) (ev_else (by omega) (Ev.now _))
 | succ d ih =>
  intro i hi
  refine Ev.step (fun k => tmesislaw10_SplitNames.l2.eq_2 ..) (ev_if (by omega) ?_)
  refine l3_loop x i l hn hxn (by omega) ?_ x.length 0 false (by omega) (fun hN => .inr ?_)
  ·refine Ev.step (fun k => tmesislaw10_SplitNames.j7.eq_2 ..) (ev_else (by simp) ?_)
   rw [w64n (by omega)]
   exact ih (i + 1) (by omega)
  ·rw [List.drop_zero]
   refine hm _ ?_
   unfold nameL
   exact List.mem_map_of_mem (List.mem_filter.2 ⟨List.getElem_mem _, hN⟩)
end
theorem SplitNames : tmesislaw10_SplitNames.Pure := by
 intro a b c l _ _ _ _
 apply Ev.rounds
 unfold tmesislaw10_SplitNames.f
 refine Ev.bind shown_ev (ev_same (short_eq a b c l) ?_)
 have hl : (l.take 40).length ≤ 40 := by rw [List.length_take]; omega
 generalize l.take 40 = w at *
 refine Ev.bind (names_ev a b c w (by omega)) ?_
 have hxn := names_len w
 exact l0_loop (namesS w) w (by omega) (by omega) (names_rising w) (fun s hs => (names_mem w s).1 hs) (l2_loop (namesS w) w (by omega) (by omega) (fun s hs => (names_mem w s).2 hs) w.length 0 (by omega)) _ 0 (Nat.zero_add _)
end Go.Proofs.YtpkklbdclghcfaaDoor.Pure
