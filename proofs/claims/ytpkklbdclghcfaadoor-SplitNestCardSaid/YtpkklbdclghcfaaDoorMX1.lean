/- Part of the proof: what the theorem needs of this text. -/
import Derived.Test.YtpkklbdclghcfaaDoorKHCM
import Derived.Test.YtpkklbdclghcfaaDoorKHG
import Derived.Test.YtpkklbdclghcfaaDoorKHIB
import Derived.Test.YtpkklbdclghcfaaDoorKHSC
import Derived.Test.YtpkklbdclghcfaaDoorKHTX
import Derived.Test.YtpkklbdclghcfaaDoorKPx10
import Derived.Test.YtpkklbdclghcfaaDoorKPx12
import Derived.Test.YtpkklbdclghcfaaDoorKPx24
import Derived.Test.YtpkklbdclghcfaaDoorKPx3
import Derived.Test.YtpkklbdclghcfaaDoorKPx4
import Derived.Test.YtpkklbdclghcfaaDoorKPx5
import Derived.Test.YtpkklbdclghcfaaDoorKPx6
import Derived.Test.YtpkklbdclghcfaaDoorKPx7
import Derived.Test.YtpkklbdclghcfaaDoorKPx8
import Derived.Test.YtpkklbdclghcfaaDoorKPx9
import Derived.Test.YtpkklbdclghcfaaDoorMW1
import Derived.Test.YtpkklbdclghcfaaDoorProg
import Derived.WalkKit
import Derived.ProofKit
import Derived.OpenShut
import Derived.KernelRfl
namespace Go.Proofs.YtpkklbdclghcfaaDoor.P
set_option linter.unusedSimpArgs false
set_option linter.unusedVariables false
open Go.RowKit Go.Proofs.YtpkklbdclghcfaaDoorW.PrintWords Go.Proofs.YtpkklbdclghcfaaDoorW.PrintLast Go.Proofs.YtpkklbdclghcfaaDoorW.PrintMore
section
variable {α β : Type}
theorem ev_if {c : Prop} [Decidable c] {a b : Nat → Option α} {r : α} (hc : c) (h : Ev a r) : Ev (fun k => if c then a k else b k) r := by simpa only [if_pos hc] using h
theorem ev_else {c : Prop} [Decidable c] {a b : Nat → Option α} {r : α} (hc : ¬ c) (h : Ev b r) : Ev (fun k => if c then a k else b k) r := by simpa only [if_neg hc] using h
theorem ev_same {o : Option β} {y : β} {f : Nat → β → Option α} {r : α} (ho : o = some y) (h : Ev (fun k => f k y) r) : Ev (fun k => o.bind (f k)) r := by subst ho; exact h
theorem ev_eq {g : Nat → Option α} {r r' : α} (h : Ev g r) (e : r = r') : Ev g r' := e ▸ h
theorem ev_now {r r' : α} (e : r = r') : Ev (fun _ => some r) r' := e ▸ Ev.now r
end
theorem w64 {i : Int} (h0 : -9223372036854775808 ≤ i) (h1 : i ≤ 9223372036854775807) : wrap64 i = i := by unfold wrap64; omega
end Go.Proofs.YtpkklbdclghcfaaDoor.P
namespace Go.Proofs.YtpkklbdclghcfaaDoor.P
set_option linter.unusedSimpArgs false
set_option linter.unusedVariables false
open Go.RowKit Go.Proofs.YtpkklbdclghcfaaDoorW.PrintWords Go.Proofs.YtpkklbdclghcfaaDoorW.PrintLast Go.Proofs.YtpkklbdclghcfaaDoorW.PrintMore
def Bytes (l : List Int) : Prop := ∀ x ∈ l, 0 ≤ x ∧ x < 256
theorem Bytes.take {l : List Int} (h : Bytes l) (n : Nat) : Bytes (l.take n) := fun x hx => h x (List.mem_of_mem_take hx)
theorem Bytes.drop {l : List Int} (h : Bytes l) (n : Nat) : Bytes (l.drop n) := fun x hx => h x (List.mem_of_mem_drop hx)
end Go.Proofs.YtpkklbdclghcfaaDoor.P
namespace Go.Proofs.YtpkklbdclghcfaaDoor.P
set_option linter.unusedSimpArgs false
set_option linter.unusedVariables false
open Go.RowKit Go.Proofs.YtpkklbdclghcfaaDoor.P Go.Proofs.YtpkklbdclghcfaaDoorW.PrintWords Go.Proofs.YtpkklbdclghcfaaDoorW.PrintLast Go.Proofs.YtpkklbdclghcfaaDoorW.PrintMore
theorem Bytes.cons {c : Int} {r : List Int} (h : Bytes (c :: r)) : (0 ≤ c ∧ c < 256) ∧ Bytes r := ⟨h c (by simp), fun x hx => h x (by simp [hx])⟩
end Go.Proofs.YtpkklbdclghcfaaDoor.P
namespace Go.Proofs.YtpkklbdclghcfaaDoor.P
set_option linter.unusedSimpArgs false
set_option linter.unusedVariables false
open Go.RowKit Go.Proofs.YtpkklbdclghcfaaDoorW.PrintWords Go.Proofs.YtpkklbdclghcfaaDoorW.PrintLast Go.Proofs.YtpkklbdclghcfaaDoorW.PrintMore
theorem w1 {i : Int} (h0 : -1 ≤ i) (h1 : i ≤ 9223372036854775806) : wrap64 (i + 1) = i + 1 := by unfold wrap64; omega
end Go.Proofs.YtpkklbdclghcfaaDoor.P
namespace Go.Proofs.YtpkklbdclghcfaaDoor.P
set_option linter.unusedSimpArgs false
set_option linter.unusedVariables false
open Go.RowKit Go.Proofs.YtpkklbdclghcfaaDoor.P Go.Proofs.YtpkklbdclghcfaaDoorW.PrintWords Go.Proofs.YtpkklbdclghcfaaDoorW.PrintLast Go.Proofs.YtpkklbdclghcfaaDoorW.PrintMore
abbrev TokR := S38
end Go.Proofs.YtpkklbdclghcfaaDoor.P
namespace Go.Proofs.YtpkklbdclghcfaaDoor.P
set_option linter.unusedSimpArgs false
set_option linter.unusedVariables false
open Go.RowKit Go.Proofs.YtpkklbdclghcfaaDoor.P Go.Proofs.YtpkklbdclghcfaaDoorW.PrintWords Go.Proofs.YtpkklbdclghcfaaDoorW.PrintLast Go.Proofs.YtpkklbdclghcfaaDoorW.PrintMore
abbrev PieceR := S25
theorem rdT_drop {l r : List TokR} {t : TokR} {i : Nat} (h : l.drop i = t :: r) : i < l.length ∧ rd_T38 l (i : Int) = t ∧ l.drop (i + 1) = r := by
 have hl : (l.drop i).length = r.length + 1 := by rw [h]; rfl
 rw [List.length_drop] at hl
 have h2 : l[i]? = some t := by rw [← List.head?_drop, h]; rfl
 refine ⟨by omega, ?_, by rw [← List.drop_drop, h]; rfl⟩
 show l.getD i _ = t
 rw [List.getD_eq_getElem?_getD, h2]; rfl
theorem w64n {i : Nat} (h : i ≤ 1000000000) : wrap64 ((i : Int) + 1) = ((i + 1 : Nat) : Int) := by rw [w64 (by omega) (by omega)]; omega
/-- how deep: what is open, and the most -/
def nestN (s : Int × Int) (t : TokR) : Int × Int :=
 if t.f0 = 6 then (if t.f3.toList = ([40] : List UInt8) then (s.1 + 1, mx s.2 (s.1 + 1)) else if t.f3.toList = ([41] : List UInt8) then (mx (s.1 - 1) 0, mx s.2 (mx (s.1 - 1) 0)) else (s.1, mx s.2 s.1)) else s
def nestS (l : List TokR) : Int := (l.foldl nestN (0, 0)).2
theorem mx0 (x : Int) : 0 ≤ mx x 0 := by unfold mx; split <;> omega
theorem nest_loop (l : List TokR) (hn : l.length ≤ 1000000) (r : List TokR) : ∀ (i : Nat) (o m : Int), l.drop i = r → i ≤ l.length → 0 ≤ o → o ≤ i →
  Ev (fun k => split_Nest.l0 k o m l (l.length : Int) (i : Int)) (r.foldl nestN (o, m)).2 := by
 induction r with
 | nil =>
  intro i o m h hi _ _
  have : l.length - i = 0 := by have := congrArg List.length h; simpa using this
  exact Ev.step (fun k => split_Nest.l0.eq_2 ..) (ev_else (by omega) (Ev.now _))
 | cons t r ih =>
  intro i o m h hi h0 ho
  obtain ⟨h1, h2, h3⟩ := rdT_drop h
  refine Ev.step (fun k => split_Nest.l0.eq_2 ..) (ev_if (by omega) (ev_if (by omega) (ev_if (by omega) ?_)))
  rw [h2, w64n (by omega), List.foldl_cons]
  unfold nestN
  by_cases h6 : t.f0 = 6
  ·rw [if_pos h6]
   refine ev_if h6 ?_
   by_cases hp : t.f3.toList = ([40] : List UInt8)
   ·rw [if_pos hp]
    refine ev_if hp ?_
    rw [w64 (i := o + 1) (by omega) (by omega)]
    exact ih (i + 1) _ _ h3 (by omega) (by omega) (by omega)
   ·rw [if_neg hp]
    refine ev_else hp ?_
    by_cases hq : t.f3.toList = ([41] : List UInt8)
    ·rw [if_pos hq]
     refine ev_if hq ?_
     rw [w64 (i := o - 1) (by omega) (by omega)]
     exact ih (i + 1) _ _ h3 (by omega) (mx0 _) (by unfold mx; split <;> omega)
    ·rw [if_neg hq]
     exact ev_else hq (ih (i + 1) _ _ h3 (by omega) (by omega) (by omega))
  ·rw [if_neg h6]
   exact ev_else h6 (ih (i + 1) _ _ h3 (by omega) (by omega) (by omega))
theorem nest_ev (a b c : Int) (l : List TokR) (hn : l.length ≤ 1000000) : Ev (fun k => split_Nest.f k a b c l) (nestS l) := nest_loop l hn l 0 0 0 rfl (Nat.zero_le _) (Int.le_refl _) (Int.le_refl _)
end Go.Proofs.YtpkklbdclghcfaaDoor.P
namespace Go.Proofs.YtpkklbdclghcfaaDoor.P
set_option linter.unusedSimpArgs false
set_option linter.unusedVariables false
open Go.RowKit Go.Proofs.YtpkklbdclghcfaaDoor.P Go.Proofs.YtpkklbdclghcfaaDoorW.PrintWords Go.Proofs.YtpkklbdclghcfaaDoorW.PrintLast Go.Proofs.YtpkklbdclghcfaaDoorW.PrintMore
def isName (t : TokR) : Bool := t.f0 == 1 || t.f0 == 2 || t.f0 == 6
def nameL (l : List TokR) : List ByteArray := (l.filter isName).map (·.f3)
def namesS (l : List TokR) : List ByteArray := cmpS (srtS (nameL l))
theorem nameL_cons (t : TokR) (r : List TokR) : nameL (t :: r) = if isName t then t.f3 :: nameL r else nameL r := by
 unfold nameL
 rw [List.filter_cons]
 cases isName t <;> rfl
theorem names_loop (l : List TokR) (hn : l.length ≤ 1000000) (r : List TokR) : ∀ (i : Nat) (acc : List ByteArray), l.drop i = r → i ≤ l.length → acc.length ≤ i →
  Ev (fun k => split_Names.l0 k acc l (l.length : Int) (i : Int)) (cmpS (srtS (acc ++ nameL r))) := by
 induction r with
 | nil =>
  intro i acc h hi ha
  have : l.length - i = 0 := by have := congrArg List.length h; simpa using this
  refine Ev.step (fun k => split_Names.l0.eq_2 ..) (ev_else (by omega) ?_)
  have h1 : slices_Sort_string_string.f acc = some (srtS acc) := by unfold slices_Sort_string_string.f; rw [if_pos (by omega)]
  have h2 : slices_Compact_string_string.f (srtS acc) = some (cmpS (srtS acc)) := by
   unfold slices_Compact_string_string.f
   rw [if_pos]
   unfold srtS
   rw [List.length_map, List.length_mergeSort, List.length_map]
   omega
  refine ev_same h1 (ev_same h2 (ev_now ?_))
  simp [nameL]
 | cons t r ih =>
  intro i acc h hi ha
  obtain ⟨h1, h2, h3⟩ := rdT_drop h
  refine Ev.step (fun k => split_Names.l0.eq_2 ..) (ev_if (by omega) (ev_if (by omega) (ev_if (by omega) ?_)))
  rw [h2, w64n (by omega)]
  have go : isName t = true → Ev (fun k => if acc.length < 8796093022208 then split_Names.l0 k (acc ++ [t.f3]) l (l.length : Int) ((i + 1 : Nat) : Int) else none) (cmpS (srtS (acc ++ nameL (t :: r)))) := fun hi2 => by
   refine ev_if (by omega) (ev_eq (ih (i + 1) _ h3 (by omega) (by simp; omega)) ?_)
   rw [nameL_cons, hi2, if_pos rfl, List.append_assoc]; rfl
  by_cases e1 : t.f0 = 1
  ·exact ev_if e1 (go (by simp [isName, e1]))
  ·refine ev_else e1 ?_
   by_cases e2 : t.f0 = 2
   ·exact ev_if e2 (go (by simp [isName, e2]))
   ·refine ev_else e2 ?_
    by_cases e6 : t.f0 = 6
    ·exact ev_if e6 (go (by simp [isName, e6]))
    ·refine ev_else e6 (ev_eq (ih (i + 1) _ h3 (by omega) (by omega)) ?_)
     rw [nameL_cons, if_neg (by simp [isName, e1, e2, e6])]
theorem names_ev (a b c : Int) (l : List TokR) (hn : l.length ≤ 1000000) : Ev (fun k => split_Names.f k a b c l) (namesS l) :=
 ev_eq (names_loop l hn l 0 [] rfl (Nat.zero_le _) (Nat.le_refl _)) (by rw [List.nil_append]; rfl)
end Go.Proofs.YtpkklbdclghcfaaDoor.P
namespace Go.Proofs.YtpkklbdclghcfaaDoor.P
set_option linter.unusedSimpArgs false
set_option linter.unusedVariables false
open Go.RowKit Go.Proofs.YtpkklbdclghcfaaDoor.P Go.Proofs.YtpkklbdclghcfaaDoorW.PrintWords Go.Proofs.YtpkklbdclghcfaaDoorW.PrintLast Go.Proofs.YtpkklbdclghcfaaDoorW.PrintMore
def shownP : List PieceR := [⟨0, 2, 0, [⟨1, 0, 1, ⟨#[97]⟩, 0⟩, ⟨7, 1, 2, ⟨#[46]⟩, 0⟩]⟩, ⟨3, 5, 2, [⟨6, 3, 4, ⟨#[40]⟩, 0⟩, ⟨1, 4, 5, ⟨#[98]⟩, 0⟩]⟩]
theorem shown_pieces : Ev (fun k => split_Pieces.f k [97, 46, 32, 40, 98]) shownP := Ev.of (fun k => split_Pieces.mono _ k) (k := 40) (by kernel_rfl)
theorem shown_ev : Ev (fun k => tmesislaw10_shown.f k) true := by
 unfold tmesislaw10_shown.f
 refine Ev.bind shown_pieces ?_
 refine ev_if rfl (ev_if (by decide) (ev_if rfl (ev_if (by decide) (ev_if rfl (ev_if rfl ?_)))))
 refine Ev.bind (nest_ev _ _ _ _ (by decide)) (ev_if (by kernel_rfl) (Ev.bind (names_ev _ _ _ _ (by decide)) (ev_now ?_)))
 have h1 : nameL (rd_T25 shownP 0).f3 = [⟨#[97]⟩] := by decide
 unfold namesS
 rw [h1]
 simp [cmpS, srtS, Lib.compact, Lib.compactUpTo, Lib.keeps, List.range_succ]
end Go.Proofs.YtpkklbdclghcfaaDoor.P
namespace Go.Proofs.YtpkklbdclghcfaaDoor.Pure
set_option linter.unusedSimpArgs false
set_option linter.unusedVariables false
open Go.RowKit Go.Proofs.YtpkklbdclghcfaaDoor.P Go.Proofs.YtpkklbdclghcfaaDoorW.PrintWords Go.Proofs.YtpkklbdclghcfaaDoorW.PrintLast
def brack (tx : ByteArray) : TokR := ⟨6, 0, 0, tx, 0⟩
def opn : ByteArray := ⟨#[40]⟩
def sht : ByteArray := ⟨#[41]⟩
theorem nest_opn (n : Nat) : ∀ o m : Int, o ≤ m → (List.replicate n (brack opn)).foldl nestN (o, m) = (o + (n : Int), max m (o + (n : Int))) := by
 induction n with
 | zero => intro o m h; simp; omega
 | succ n ih =>
  intro o m h
  rw [List.replicate_succ, List.foldl_cons]
  have e : nestN (o, m) (brack opn) = (o + 1, mx m (o + 1)) := by unfold nestN; rw [if_pos (show (brack opn).f0 = 6 from rfl), if_pos (show (brack opn).f3.toList = [40] by decide +kernel)]
  rw [e, ih _ _ (by unfold mx; split <;> omega)]
  congr 1
  ·omega
  ·unfold mx; split <;> omega
theorem nest_sht (n : Nat) : ∀ o m : Int, 0 ≤ o → o ≤ m → (List.replicate n (brack sht)).foldl nestN (o, m) = (max (o - (n : Int)) 0, m) := by
 induction n with
 | zero => intro o m h0 h; simp; omega
 | succ n ih =>
  intro o m h0 h
  rw [List.replicate_succ, List.foldl_cons]
  have e : nestN (o, m) (brack sht) = (mx (o - 1) 0, mx m (mx (o - 1) 0)) := by unfold nestN; rw [if_pos (show (brack sht).f0 = 6 from rfl), if_neg (show ¬ (brack sht).f3.toList = [40] by decide +kernel), if_pos (show (brack sht).f3.toList = [41] by decide +kernel)]
  have e2 : mx m (mx (o - 1) 0) = m := by unfold mx; split <;> split <;> omega
  rw [e, e2, ih _ _ (by unfold mx; split <;> omega) (by unfold mx; split <;> omega)]
  congr 1
  unfold mx; split <;> omega
/-- how many -/
def cnt (a : Int) : Nat := (a % 16).toNat
theorem cnt_eq {a : Int} (h : (Lit.int .u8 a).wf = true) : Int.tmod (wrap64 a) 16 = (cnt a : Int) ∧ cnt a < 16 := by
 have hb : 0 ≤ a ∧ a < 256 := by simp [Lit.wf, IntKind.min, IntKind.max, IntKind.signed, IntKind.bits] at h; omega
 rw [w64 (by omega) (by omega), Int.tmod_eq_emod_of_nonneg hb.1]
 unfold cnt
 omega
section
variable {a0 a1 a2 a3 : Int} (sh : Bool) {r : Bool}
theorem rep_push (x4 : List TokR) (d : Nat) (t : TokR) : x4 ++ List.replicate (d + 1) t = (x4 ++ [t]) ++ List.replicate d t := by rw [List.replicate_succ]; simp
theorem loop0 (n : Nat) (hn : Int.tmod (wrap64 a0) 16 = (n : Int)) (tx : ByteArray) (d : Nat) : ∀ (i : Nat) (x4 : List TokR), i + d = n → n ≤ 100 → x4.length + d ≤ 1000 →
  Ev (fun k => tmesislaw10_SplitNest.j3 k sh (x4 ++ List.replicate d (brack tx)) 0 a0 a1 a2 a3) r → Ev (fun k => tmesislaw10_SplitNest.l1 k sh x4 0 tx (i : Int) a0 a1 a2 a3) r := by
 induction d with
 | zero =>
  intro i x4 h h1 h2 he
  refine Ev.step (fun k => tmesislaw10_SplitNest.l1.eq_2 ..) (ev_if rfl (ev_else (by omega) ?_))
  simpa using he
 | succ d ih =>
  intro i x4 h h1 h2 he
  refine Ev.step (fun k => tmesislaw10_SplitNest.l1.eq_2 ..) (ev_if rfl (ev_if (by omega) (ev_if (by omega) ?_)))
  rw [w64n (by omega)]
  refine ih (i + 1) _ (by omega) h1 (by simp; omega) ?_
  rw [rep_push] at he
  exact he
theorem loop1 (n : Nat) (hn : Int.tmod (wrap64 a1) 16 = (n : Int)) (tx : ByteArray) (d : Nat) : ∀ (i : Nat) (x4 : List TokR), i + d = n → n ≤ 100 → x4.length + d ≤ 1000 →
  Ev (fun k => tmesislaw10_SplitNest.j3 k sh (x4 ++ List.replicate d (brack tx)) 1 a0 a1 a2 a3) r → Ev (fun k => tmesislaw10_SplitNest.l1 k sh x4 1 tx (i : Int) a0 a1 a2 a3) r := by
 induction d with
 | zero =>
  intro i x4 h h1 h2 he
  refine Ev.step (fun k => tmesislaw10_SplitNest.l1.eq_2 ..) (ev_else (by decide) (ev_if rfl (ev_else (by omega) ?_)))
  simpa using he
 | succ d ih =>
  intro i x4 h h1 h2 he
  refine Ev.step (fun k => tmesislaw10_SplitNest.l1.eq_2 ..) (ev_else (by decide) (ev_if rfl (ev_if (by omega) (ev_if (by omega) ?_))))
  rw [w64n (by omega)]
  refine ih (i + 1) _ (by omega) h1 (by simp; omega) ?_
  rw [rep_push] at he
  exact he
theorem loop2 (n : Nat) (hn : Int.tmod (wrap64 a2) 16 = (n : Int)) (tx : ByteArray) (d : Nat) : ∀ (i : Nat) (x4 : List TokR), i + d = n → n ≤ 100 → x4.length + d ≤ 1000 →
  Ev (fun k => tmesislaw10_SplitNest.j3 k sh (x4 ++ List.replicate d (brack tx)) 2 a0 a1 a2 a3) r → Ev (fun k => tmesislaw10_SplitNest.l1 k sh x4 2 tx (i : Int) a0 a1 a2 a3) r := by
 induction d with
 | zero =>
  intro i x4 h h1 h2 he
  refine Ev.step (fun k => tmesislaw10_SplitNest.l1.eq_2 ..) (ev_else (by decide) (ev_else (by decide) (ev_if rfl (ev_else (by omega) ?_))))
  simpa using he
 | succ d ih =>
  intro i x4 h h1 h2 he
  refine Ev.step (fun k => tmesislaw10_SplitNest.l1.eq_2 ..) (ev_else (by decide) (ev_else (by decide) (ev_if rfl (ev_if (by omega) (ev_if (by omega) ?_)))))
  rw [w64n (by omega)]
  refine ih (i + 1) _ (by omega) h1 (by simp; omega) ?_
  rw [rep_push] at he
  exact he
theorem loop3 (n : Nat) (hn : Int.tmod (wrap64 a3) 16 = (n : Int)) (tx : ByteArray) (d : Nat) : ∀ (i : Nat) (x4 : List TokR), i + d = n → n ≤ 100 → x4.length + d ≤ 1000 →
  Ev (fun k => tmesislaw10_SplitNest.j3 k sh (x4 ++ List.replicate d (brack tx)) 3 a0 a1 a2 a3) r → Ev (fun k => tmesislaw10_SplitNest.l1 k sh x4 3 tx (i : Int) a0 a1 a2 a3) r := by
 induction d with
 | zero =>
  intro i x4 h h1 h2 he
  refine Ev.step (fun k => tmesislaw10_SplitNest.l1.eq_2 ..) (ev_else (by decide) (ev_else (by decide) (ev_else (by decide) (ev_if rfl (ev_else (by omega) ?_)))))
  simpa using he
 | succ d ih =>
  intro i x4 h h1 h2 he
  refine Ev.step (fun k => tmesislaw10_SplitNest.l1.eq_2 ..) (ev_else (by decide) (ev_else (by decide) (ev_else (by decide) (ev_if rfl (ev_if (by omega) (ev_if (by omega) ?_))))))
  rw [w64n (by omega)]
  refine ih (i + 1) _ (by omega) h1 (by simp; omega) ?_
  rw [rep_push] at he
  exact he
end
theorem SplitNest : tmesislaw10_SplitNest.Pure := by
 intro a0 a1 a2 a3 h0 h1 h2 h3
 obtain ⟨c0, d0⟩ := cnt_eq h0
 obtain ⟨c1, d1⟩ := cnt_eq h1
 obtain ⟨c2, d2⟩ := cnt_eq h2
 obtain ⟨c3, d3⟩ := cnt_eq h3
 generalize cnt a0 = n0 at *
 generalize cnt a1 = n1 at *
 generalize cnt a2 = n2 at *
 generalize cnt a3 = n3 at *
 apply Ev.rounds
 unfold tmesislaw10_SplitNest.f
 refine Ev.bind shown_ev ?_
 refine Ev.step (fun k => tmesislaw10_SplitNest.l0.eq_2 ..) (ev_if (by decide) (ev_if (by decide) ?_))
 refine Ev.step (fun k => tmesislaw10_SplitNest.j1.eq_2 ..) ?_
 refine loop0 true n0 c0 sht n0 0 [] (by omega) (by omega) (by simp; omega) ?_
 refine Ev.step (fun k => tmesislaw10_SplitNest.j3.eq_2 ..) ?_
 rw [show wrap64 ((0 : Int) + 1) = 1 from w64 (by omega) (by omega)]
 refine  Ev.step (fun k => tmesislaw10_SplitNest.l0.eq_2 ..) (ev_if (by decide) (ev_else (by decide) ?_))
 refine Ev.step (fun k => tmesislaw10_SplitNest.j1.eq_2 ..) ?_
 refine loop1 true n1 c1 opn n1 0 _ (by omega) (by omega) (by simp; omega) ?_
 refine Ev.step (fun k => tmesislaw10_SplitNest.j3.eq_2 ..) ?_
 rw [show wrap64 ((1 : Int) + 1) = 2 from w64 (by omega) (by omega)]
 refine  Ev.step (fun k => tmesislaw10_SplitNest.l0.eq_2 ..) (ev_if (by decide) (ev_if (by decide) ?_))
 refine Ev.step (fun k => tmesislaw10_SplitNest.j1.eq_2 ..) ?_
 refine loop2 true n2 c2 sht n2 0 _ (by omega) (by omega) (by simp; omega) ?_
 refine Ev.step (fun k => tmesislaw10_SplitNest.j3.eq_2 ..) ?_
 rw [show wrap64 ((2 : Int) + 1) = 3 from w64 (by omega) (by omega)]
 refine  Ev.step (fun k => tmesislaw10_SplitNest.l0.eq_2 ..) (ev_if (by decide) (ev_else (by decide) ?_))
 refine Ev.step (fun k => tmesislaw10_SplitNest.j1.eq_2 ..) ?_
 refine loop3 true n3 c3 opn n3 0 _ (by omega) (by omega) (by simp; omega) ?_
 refine Ev.step (fun k => tmesislaw10_SplitNest.j3.eq_2 ..) ?_
 rw [show wrap64 ((3 : Int) + 1) = 4 from w64 (by omega) (by omega)]
 refine  Ev.step (fun k => tmesislaw10_SplitNest.l0.eq_2 ..) (ev_else (by decide) (ev_if rfl ?_))
 refine Ev.bind (nest_ev _ _ _ _ (by simp; omega)) (Ev.step (fun k => tmesislaw10_SplitNest.j4.eq_2 ..) (ev_now ?_))
 have hv : nestS ((([] ++ List.replicate n0 (brack sht)) ++ List.replicate n1 (brack opn)) ++ List.replicate n2 (brack sht) ++ List.replicate n3 (brack opn)) = max (n1 : Int) (max ((n1 : Int) - n2) 0 + n3) := by
  unfold nestS
  rw [List.nil_append, List.foldl_append, List.foldl_append, List.foldl_append, nest_sht n0 0 0 (by omega) (by omega)]
  rw [nest_opn n1 _ _ (by omega), nest_sht n2 _ _ (by omega) (by omega), nest_opn n3 _ _ (by omega)]
  simp only
  omega
 rw [hv, c1, c2, c3, w64 (i := (n1 : Int) - (n2 : Int)) (by omega) (by omega)]
 have hm : mx ((n1 : Int) - (n2 : Int)) 0 = max ((n1 : Int) - n2) 0 := by unfold mx; split <;> omega
 rw [hm, w64 (by omega) (by omega)]
 have hm2 : mx (n1 : Int) (max ((n1 : Int) - n2) 0 + n3) = max (n1 : Int) (max ((n1 : Int) - n2) 0 + n3) := by unfold mx; split <;> omega
 rw [hm2]
 simp
end Go.Proofs.YtpkklbdclghcfaaDoor.Pure
namespace Go.Proofs.YtpkklbdclghcfaaDoor.P
set_option linter.unusedSimpArgs false
set_option linter.unusedVariables false
open Go.ChangeShapes Go.WideShapes Go.ChangeAt Go.RowKit
section
variable {H : Type} {enc : TypeId × Value → H} {P : Program} {w : World} {base : Nat} {spare : Nat → Bool} {held : Bool}
def numOf : Value → Int
 | .int _ z => z
 | _ => 0
theorem open_arr {r : Reach} {b0 n : Nat} {t e : TypeId} {k : IntKind} {v : Value} {d : DataW H} {ps : List MemPlace} (ht : P.underlying t = some (.array n e)) (he : P.underlying e = some (.int k)) (h1 : P.cellsOf e = 1) (hn : P.cellsOf t = n)
  (hval : Value.okWide P w r b0 t v) (hd : DataW.Trod enc P w base spare held t v d ps) :
  ∃ zs : List Int, zs.length = n ∧ v = .agg (zs.map (Value.int k)).toArray ∧ d = .agg (zs.map fun z => .lit (.int k z)) ∧ ps = [] ∧ ∀ z ∈ zs, (Lit.int k z).wf = true := by
 unfold Value.okWide at hval
 rw [ht] at hval
 obtain ⟨cs, rfl, hsz, -⟩ := hval
 obtain ⟨fuel, hf⟩ := hd
 obtain ⟨xs, m, _, hx, hl, hxl, hall⟩ := DataW.trod_array ht hf
 simp only [Prod.mk.injEq] at hx
 obtain ⟨rfl, rfl⟩ := hx
 rw [hn] at hsz
 have hg : ∀ i, i < n → ∃ z, cs[i]? = some (.int k z) ∧ xs[i]? = some (.lit (.int k z), []) ∧ (Lit.int k z).wf = true := by
  intro i hi
  have h := hall i hi
  have hlt : i < xs.length := by omega
  rw [h1, Nat.mul_one, List.getElem?_eq_getElem hlt] at h
  obtain ⟨z, hz, hxz, hw⟩ := DataW.trod_int he h
  have hc : i < cs.size := by omega
  have e1 : (Value.agg cs).cells.toList = cs.toList := rfl
  rw [e1, List.drop_eq_getElem_cons (by simpa using hc)] at hz
  simp at hz
  refine ⟨z, ?_, ?_, hw⟩
  ·rw [Array.getElem?_eq_getElem hc, hz]
  ·rw [List.getElem?_eq_getElem hlt, hxz]
 refine ⟨cs.toList.map numOf, by simp [hsz], ?_, ?_, ?_, ?_⟩
 ·congr 1
  apply Array.ext
  ·simp
  ·intro i h2 h3
   obtain ⟨z, hz, -, -⟩ := hg i (by omega)
   rw [Array.getElem?_eq_getElem h2] at hz
   have := Option.some.inj hz
   simp [this, numOf]
 ·congr 1
  apply List.ext_getElem?
  intro i
  by_cases hi : i < n
  ·obtain ⟨z, hz, hxz, -⟩ := hg i hi
   simp [hz, hxz, numOf]
  ·simp [List.getElem?_eq_none (show xs.length ≤ i by omega), Array.getElem?_eq_none (show cs.size ≤ i by omega)]
 ·rw [List.flatMap_eq_nil_iff]
  intro x hx
  obtain ⟨i, hi, rfl⟩ := List.mem_iff_getElem.1 hx
  obtain ⟨z, -, hxz, -⟩ := hg i (by omega)
  rw [List.getElem?_eq_getElem hi] at hxz
  rw [Option.some.inj hxz]
 ·intro z hz
  obtain ⟨c, hc, rfl⟩ := List.mem_map.1 hz
  obtain ⟨i, hi, rfl⟩ := List.mem_iff_getElem.1 hc
  obtain ⟨z, hz2, -, hw⟩ := hg i (by simpa [hsz] using hi)
  rw [Array.getElem?_eq_getElem (by simpa using hi)] at hz2
  simp only [Array.getElem_toList]
  rw [Option.some.inj hz2]
  exact hw
theorem open_arr4 {r : Reach} {b0 : Nat} {t e : TypeId} {k : IntKind} {v : Value} {d : DataW H} {ps : List MemPlace} (ht : P.underlying t = some (.array 4 e)) (he : P.underlying e = some (.int k)) (h1 : P.cellsOf e = 1) (hn : P.cellsOf t = 4)
  (hval : Value.okWide P w r b0 t v) (hd : DataW.Trod enc P w base spare held t v d ps) :
  ∃ a b c g : Int, v = .agg #[.int k a, .int k b, .int k c, .int k g] ∧ d = .agg [.lit (.int k a), .lit (.int k b), .lit (.int k c), .lit (.int k g)] ∧ ps = [] ∧ (Lit.int k a).wf = true ∧ (Lit.int k b).wf = true ∧ (Lit.int k c).wf = true ∧ (Lit.int k g).wf = true := by
 obtain ⟨zs, hl, rfl, rfl, rfl, hw⟩ := open_arr ht he h1 hn hval hd
 match zs, hl with
 | [a, b, c, g], _ => exact ⟨a, b, c, g, rfl, rfl, rfl, hw a (by simp), hw b (by simp), hw c (by simp), hw g (by simp)⟩
theorem shut_arr4 {t e : TypeId} {k : IntKind} {a b c g : Int} (ht : P.underlying t = some (.array 4 e)) (he : P.underlying e = some (.int k)) (h1 : P.cellsOf e = 1) (hn : P.cellsOf t = 4) (ha : (Lit.int k a).wf = true) (hb : (Lit.int k b).wf = true) (hc : (Lit.int k c).wf = true) (hg : (Lit.int k g).wf = true) :
  DataW.Trod enc P w base spare held t (.agg #[.int k a, .int k b, .int k c, .int k g]) (.agg [.lit (.int k a), .lit (.int k b), .lit (.int k c), .lit (.int k g)]) [] := by
 have r2 : List.range 4 = [0, 1, 2, 3] := rfl
 exact ⟨2, by simp [DataW.trod, Value.cells, ht, he, h1, hn, r2, ha, hb, hc, hg]⟩
end
end Go.Proofs.YtpkklbdclghcfaaDoor.P
