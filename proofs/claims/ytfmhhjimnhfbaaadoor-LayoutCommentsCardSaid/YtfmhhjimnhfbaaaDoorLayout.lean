/- layout.Skip as a plain function of the bytes. -/
import Derived.Test.YtfmhhjimnhfbaaaDoorClass
import Derived.Test.YtfmhhjimnhfbaaaDoorHIB
import Derived.Test.YtfmhhjimnhfbaaaDoorHCM
import Derived.Test.YtfmhhjimnhfbaaaDoorPx2
import Derived.Test.YtfmhhjimnhfbaaaDoorPx3
namespace Go.Proofs.YtfmhhjimnhfbaaaDoor.P
set_option linter.unusedSimpArgs false
set_option linter.unusedVariables false
open Go.RowKit Go.Proofs.YtfmhhjimnhfbaaaDoor.P Go.Proofs.YtfmhhjimnhfbaaaDoorW.PrintWords Go.Proofs.YtfmhhjimnhfbaaaDoorW.PrintLast Go.Proofs.YtfmhhjimnhfbaaaDoorW.PrintMore
theorem u8_inj {x y : Int} (hx : 0 ≤ x ∧ x < 256) (hy : 0 ≤ y ∧ y < 256) (h : UInt8.ofNat x.toNat = UInt8.ofNat y.toNat) : x = y := by
  have := congrArg UInt8.toNat h
  rw [UInt8.toNat_ofNat', UInt8.toNat_ofNat'] at this
  omega
theorem Bytes.cons {c : Int} {r : List Int} (h : Bytes (c :: r)) : (0 ≤ c ∧ c < 256) ∧ Bytes r := ⟨h c (by simp), fun x hx => h x (by simp [hx])⟩
theorem strOf_list (l : List Int) : (strOfNums l).toList = l.map fun n => UInt8.ofNat n.toNat := by
  have := Lib.strOfNums_toList l
  rw [this]; rfl
/-- whether two bytes begin some -/
def two (a b : Int) : List Int → Bool
  | x :: y :: _ => x == a && y == b
  | _ => false
theorem hasP_two {l : List Int} (hl : Bytes l) {a b : Int} (ha : 0 ≤ a ∧ a < 256) (hb : 0 ≤ b ∧ b < 256) : hasP l [a, b] = two a b l := by
  unfold hasP
  match l with
  | [] => rfl
  | [x] => rfl
  | x :: y :: r =>
    have hx := hl x (by simp)
    have hy := hl y (by simp)
    rw [decide_eq_true (by simp), Bool.true_and, strOf_list, strOf_list]
    show (([UInt8.ofNat x.toNat, UInt8.ofNat y.toNat] : List UInt8) == [UInt8.ofNat a.toNat, UInt8.ofNat b.toNat]) = (x == a && y == b)
    rw [Bool.eq_iff_iff, beq_iff_eq, Bool.and_eq_true, beq_iff_eq, beq_iff_eq, List.cons.injEq, List.cons.injEq]
    constructor
    · rintro ⟨h1, h2, _⟩
      exact ⟨u8_inj hx ha h1, u8_inj hy hb h2⟩
    · rintro ⟨rfl, rfl⟩
      exact ⟨rfl, rfl, rfl⟩
/-- how much, inside a comment so deep, stands up to its end, with it -/
def comL : Nat → List Int → Option Nat
  | _, [] => none
  | _, [_] => none
  | d, x :: y :: r =>
    if x = 47 ∧ y = 42 then (comL (d + 1) r).map (· + 2)
    else if x = 42 ∧ y = 47 then (if d = 1 then some 2 else (comL (d - 1) r).map (· + 2))
    else (comL d (y :: r)).map (· + 1)
theorem comL_le (l : List Int) : ∀ (d n : Nat), comL d l = some n → 2 ≤ n ∧ n ≤ l.length := by
  induction h : l.length using Nat.strongRecOn generalizing l with
  | _ N ih =>
    intro d n hn
    match l with
    | [] => cases hn
    | [_] => cases hn
    | x :: y :: r =>
      simp only [List.length_cons] at h
      rw [comL] at hn
      by_cases h1 : x = 47 ∧ y = 42
      · rw [if_pos h1] at hn
        obtain ⟨m, hm, rfl⟩ := Option.map_eq_some_iff.1 hn
        have := ih r.length (by omega) r rfl _ _ hm
        omega
      · rw [if_neg h1] at hn
        by_cases h2 : x = 42 ∧ y = 47
        · rw [if_pos h2] at hn
          by_cases h3 : d = 1
          · rw [if_pos h3] at hn
            obtain rfl := Option.some.inj hn
            omega
          · rw [if_neg h3] at hn
            obtain ⟨m, hm, rfl⟩ := Option.map_eq_some_iff.1 hn
            have := ih r.length (by omega) r rfl _ _ hm
            omega
        · rw [if_neg h2] at hn
          obtain ⟨m, hm, rfl⟩ := Option.map_eq_some_iff.1 hn
          have := ih (r.length + 1) (by omega) (y :: r) rfl _ _ hm
          (try simp only [List.length_cons] at this)
          (try simp only [List.length_cons])
          omega
def optP (p : Nat) : Option Nat → Int
  | some n => ((p + n : Nat) : Int)
  | none => 0
theorem optP_map (p k : Nat) (o : Option Nat) : optP p (o.map (· + k)) = optP (p + k) o := by
  cases o with
  | none => rfl
  | some n => show ((p + (n + k) : Nat) : Int) = ((p + k + n : Nat) : Int); congr 1; omega
theorem drop_two {l : List Int} {p : Nat} {x y : Int} {r : List Int} (h : l.drop p = x :: y :: r) : l.drop (p + 2) = r ∧ l.drop (p + 1) = y :: r := by
  have h1 : l.drop (p + 1) = (l.drop p).drop 1 := by rw [List.drop_drop]
  have h2 : l.drop (p + 2) = (l.drop p).drop 2 := by rw [List.drop_drop]
  rw [h] at h1 h2
  exact ⟨h2, h1⟩
theorem comGo_eq (l : List Int) (hl : Bytes l) (f : Nat) : ∀ (d p : Nat), 1 ≤ d → p ≤ l.length → l.length + 1 ≤ p + f → comGo f l (d : Int) p = optP p (comL d (l.drop p)) := by
  induction f with
  | zero => intro d p _ hp hf; omega
  | succ f ih =>
    intro d p hd hp hf
    by_cases hend : l.length ≤ p
    · rw [List.drop_of_length_le hend, comGo, if_pos hend]; rfl
    rw [comGo_step f l d p hend, hasP_two (hl.drop p) (by omega) (by omega), hasP_two (hl.drop p) (by omega) (by omega)]
    match hm : l.drop p with
    | [] => have := congrArg List.length hm; simp at this; omega
    | [x] =>
      have h1 : p + 1 = l.length := by have := congrArg List.length hm; simp at this; omega
      have e := ih d (p + 1) hd (by omega) (by omega)
      rw [List.drop_of_length_le (by omega)] at e
      show (if (d : Int) > 0 then comGo f l d (p + 1) else ((p + 1 : Nat) : Int)) = _
      rw [if_pos (by omega), e]; rfl
    | x :: y :: r =>
      have hlen : p + 2 ≤ l.length := by have := congrArg List.length hm; simp at this; omega
      obtain ⟨e2, e1⟩ := drop_two hm
      rw [comL]
      by_cases h1 : x = 47 ∧ y = 42
      · have t : two 47 42 (x :: y :: r) = true := by simp [two, h1.1, h1.2]
        rw [if_pos t, if_pos h1, if_pos (by omega), show (d : Int) + 1 = ((d + 1 : Nat) : Int) by omega, ih (d + 1) (p + 2) (by omega) hlen (by omega), e2, optP_map]
      · have t : ¬ two 47 42 (x :: y :: r) = true := by simpa [two] using h1
        rw [if_neg t, if_neg h1]
        by_cases h2 : x = 42 ∧ y = 47
        · have t : two 42 47 (x :: y :: r) = true := by simp [two, h2.1, h2.2]
          rw [if_pos t, if_pos h2]
          by_cases h3 : d = 1
          · subst h3
            rw [if_neg (by omega), if_pos rfl]; rfl
          · rw [if_pos (by omega), if_neg h3, show (d : Int) - 1 = ((d - 1 : Nat) : Int) by omega, ih (d - 1) (p + 2) (by omega) hlen (by omega), e2, optP_map]
        · have t : ¬ two 42 47 (x :: y :: r) = true := by simpa [two] using h2
          rw [if_neg t, if_neg h2, if_pos (by omega), ih d (p + 1) hd (by omega) (by omega), e1, optP_map]
/-- how long the comment at the beginning is -/
def comS (l : List Int) : Option Nat := (comL 1 (l.drop 2)).map (· + 2)
theorem comment_eq {l : List Int} (hl : Bytes l) (h : two 47 42 l = true) : layout_comment.f l = some (optP 0 (comS l)) := by
  match l, h with
  | x :: y :: r, h =>
    unfold layout_comment.f
    rw [comGo_step _ _ _ _ (by simp), hasP_two (hl.drop 0) (by omega) (by omega)]
    rw [if_pos (show two 47 42 ((x :: y :: r).drop 0) = true from h), if_pos (by omega)]
    rw [show (0 : Int) + 1 = ((1 : Nat) : Int) from rfl, comGo_eq _ hl _ 1 (0 + 2) (by omega) (by simp) (by simp; omega)]
    unfold comS
    rw [optP_map]
/-- how long the rest of the line is -/
def lineS (l : List Int) : Nat := (l.takeWhile fun c => c != 10).length
theorem lineS_cons (c : Int) (r : List Int) : lineS (c :: r) = if c = 10 then 0 else lineS r + 1 := by
  unfold lineS
  by_cases h : c = 10 <;> simp [List.takeWhile_cons, h]
theorem lineS_le (l : List Int) : lineS l ≤ l.length := List.Sublist.length_le (List.takeWhile_sublist _)
theorem index_line (l : List Int) (hl : Bytes l) : (Lib.indexByte (Lib.bytesOf l) (10 : Int).toNat.toUInt8 = -1 ∧ lineS l = l.length) ∨ (Lib.indexByte (Lib.bytesOf l) (10 : Int).toNat.toUInt8 = (lineS l : Int) ∧ lineS l < l.length) := by
  induction l with
  | nil => left; exact ⟨rfl, rfl⟩
  | cons c r ih =>
    obtain ⟨hc, hr⟩ := hl.cons
    have e : Lib.indexByte (Lib.bytesOf (c :: r)) (10 : Int).toNat.toUInt8 = if (c.toNat.toUInt8 == (10 : Int).toNat.toUInt8) = true then 0 else if (Lib.indexByte (Lib.bytesOf r) (10 : Int).toNat.toUInt8 == -1) = true then -1 else Lib.indexByte (Lib.bytesOf r) (10 : Int).toNat.toUInt8 + 1 := rfl
    rw [e, lineS_cons]
    by_cases h : c = 10
    · subst h
      right
      rw [if_pos rfl, if_pos (by decide)]
      exact ⟨rfl, by simp⟩
    · have hne : ¬ (c.toNat.toUInt8 == (10 : Int).toNat.toUInt8) = true := by
        rw [beq_iff_eq]
        exact fun hh => h (u8_inj hc (by omega) hh)
      rw [if_neg h, if_neg hne]
      rcases ih hr with ⟨h1, h2⟩ | ⟨h1, h2⟩
      · left
        rw [h1, if_pos (by decide)]
        exact ⟨rfl, by simp [h2]⟩
      · right
        rw [h1, if_neg (by rw [beq_iff_eq]; omega)]
        exact ⟨by omega, by simp; omega⟩
theorem line_eq {l : List Int} (hl : Bytes l) : layout_line.f l = some (lineS l : Int) := by
  unfold layout_line.f bytes_IndexByte.f
  rw [Option.bind_some]
  rcases index_line l hl with ⟨h1, h2⟩ | ⟨h1, h2⟩
  · rw [h1, if_neg (by omega), h2]
  · rw [h1, if_pos (by omega)]
/-- what is skipped next: so much; or it ends there, with an error or none -/
def stepS : List Int → Nat × Int
  | [] => (0, 0)
  | c :: r => if classOf c = 1 then (1, 0) else if c = 37 then (lineS (c :: r), 0) else if two 47 42 (c :: r) = true then (match comS (c :: r) with | some n => (n, 0) | none => (0, 14)) else (0, 0)
theorem stepS_le (l : List Int) : (stepS l).1 ≤ l.length := by
  match l with
  | [] => exact Nat.le_refl _
  | c :: r =>
    rw [stepS]
    by_cases h1 : classOf c = 1
    · rw [if_pos h1]; simp
    rw [if_neg h1]
    by_cases h2 : c = 37
    · rw [if_pos h2]; exact lineS_le _
    rw [if_neg h2]
    by_cases h3 : two 47 42 (c :: r) = true
    · rw [if_pos h3]
      cases h4 : comS (c :: r) with
      | none => simp
      | some n =>
        match r, h3 with
        | y :: r, h3 =>
          obtain ⟨m, hm, rfl⟩ := Option.map_eq_some_iff.1 h4
          have := comL_le _ _ _ hm
          simp at this ⊢; omega
    · rw [if_neg h3]; simp
/-- how much is skipped, and the error -/
def skipS (l : List Int) : Nat × Int := if h : (stepS l).1 = 0 then stepS l else ((stepS l).1 + (skipS (l.drop (stepS l).1)).1, (skipS (l.drop (stepS l).1)).2)
termination_by l.length
decreasing_by all_goals (have := stepS_le l; rw [List.length_drop]; omega)
theorem skipS_stop {l : List Int} (h : (stepS l).1 = 0) : skipS l = stepS l := by rw [skipS, dif_pos h]
theorem skipS_go {l : List Int} (h : (stepS l).1 ≠ 0) : skipS l = ((stepS l).1 + (skipS (l.drop (stepS l).1)).1, (skipS (l.drop (stepS l).1)).2) := by rw [skipS, dif_neg h]
theorem skipS_run (l : List Int) : skipS l = (runS l 1 + (skipS (l.drop (runS l 1))).1, (skipS (l.drop (runS l 1))).2) := by
  induction l with
  | nil => rw [runS_nil]; simp
  | cons c r ih =>
    rw [runS_cons]
    by_cases h : classOf c = 1
    · have e : stepS (c :: r) = (1, 0) := by rw [stepS, if_pos h]
      rw [if_pos h, skipS_go (by rw [e]; simp), e]
      simp only [List.drop_succ_cons, List.drop_zero]
      rw [ih]
      simp; omega
    · rw [if_neg h]; simp
theorem runS_first {c : Int} {r : List Int} (h : runS (c :: r) 1 = 0) : classOf c ≠ 1 := by
  intro hc
  rw [runS_cons, if_pos hc] at h
  omega
theorem percent_all : ∀ n : Nat, n < 256 → (classOf (n : Int) = 8 ↔ (n : Int) = 37) := by decide +kernel
theorem percent_iff {c : Int} (h : 0 ≤ c ∧ c < 256) : classOf c = 8 ↔ c = 37 := byte_all (p := fun c => classOf c = 8 ↔ c = 37) percent_all h
theorem skip_loop (l : List Int) (hl : Bytes l) (hn : l.length ≤ 1000000) (N : Nat) : ∀ p : Nat, l.length - p < N → p ≤ l.length →
    Ev (fun k => layout_Skip.l0 k l (p : Int)) (((p + (skipS (l.drop p)).1 : Nat) : Int), (skipS (l.drop p)).2) := by
  induction N with
  | zero => intro p h; omega
  | succ N ih =>
    intro p hN hp
    have hb := hl.drop p
    have hml : (l.drop p).length = l.length - p := List.length_drop
    have hrun := skipS_run (l.drop p)
    have hle := runS_le (l.drop p) 1
    have next : ∀ n : Nat, 1 ≤ n → p + n ≤ l.length → Ev (fun k => layout_Skip.l0 k l (wrap64 ((p : Int) + (n : Int)))) (((p + n + (skipS (l.drop (p + n))).1 : Nat) : Int), (skipS (l.drop (p + n))).2) := by
      intro n h1 h2
      rw [show wrap64 ((p : Int) + (n : Int)) = ((p + n : Nat) : Int) by rw [w64 (by omega) (by omega)]; omega]
      exact ih (p + n) (by omega) h2
    refine Ev.step (fun k => layout_Skip.l0.eq_2 ..) (ev_if (by omega) (ev_if (by omega) ?_))
    rw [show l.drop ((p : Int)).toNat = l.drop p from rfl]
    refine Ev.bind (run_ev _ 1 (by omega)) ?_
    by_cases h : runS (l.drop p) 1 = 0
    · refine ev_else (by omega) ?_
      match hm : l.drop p with
      | [] =>
        refine ev_else (by simp) (Ev.step (fun k => layout_Skip.j1.eq_2 ..) (ev_else (by simp) ?_))
        refine ev_same (hasP_eq _ _) (ev_else (by simp [hasP]) (ev_now ?_))
        rw [skipS_stop rfl]; rfl
      | c :: r =>
        rw [hm] at h hb hml
        have hc := runS_first h
        have hcb := hb.cons.1
        refine ev_if (by simp) (ev_if (by simp) ?_)
        rw [show rd (c :: r) 0 = c from rfl, class_of]
        refine ev_let (Ev.step (fun k => layout_Skip.j1.eq_2 ..) ?_)
        have cut : ∀ n : Nat, l.drop (p + n) = (c :: r).drop n := fun n => by rw [← hm, List.drop_drop]
        by_cases h8 : c = 37
        · have hls := lineS_le (c :: r)
          have h1 : 1 ≤ lineS (c :: r) := by rw [lineS_cons, if_neg (by omega)]; omega
          have es : stepS (c :: r) = (lineS (c :: r), 0) := by rw [stepS, if_neg hc, if_pos h8]
          refine ev_if (by rw [(percent_iff hcb).2 h8]; rfl) (ev_same (line_eq hb) ?_)
          refine ev_eq (next _ h1 (by omega)) ?_
          have eg := skipS_go (l := c :: r) (by rw [es]; simp only; omega)
          rw [es] at eg
          rw [cut, eg]
          simp only [Prod.mk.injEq, and_true]
          omega
        · refine ev_else (by rw [beq_iff_eq, percent_iff hcb]; exact h8) (ev_same (hasP_eq _ _) ?_)
          rw [hasP_two hb (by omega) (by omega)]
          by_cases ht : two 47 42 (c :: r) = true
          · refine ev_if ht (ev_same (comment_eq hb ht) ?_)
            cases h4 : comS (c :: r) with
            | none =>
              have es : stepS (c :: r) = (0, 14) := by rw [stepS, if_neg hc, if_neg h8, if_pos ht, h4]
              refine ev_if rfl (ev_now ?_)
              rw [skipS_stop (by rw [es]), es]; rfl
            | some n =>
              have es : stepS (c :: r) = (n, 0) := by rw [stepS, if_neg hc, if_neg h8, if_pos ht, h4]
              have hsl := stepS_le (c :: r)
              rw [es] at hsl
              have h1 : 1 ≤ n := by
                obtain ⟨m, hm2, rfl⟩ := Option.map_eq_some_iff.1 h4
                omega
              have e0 : optP 0 (some n) = (n : Int) := by show ((0 + n : Nat) : Int) = n; omega
              rw [e0]
              refine ev_else (by omega) ?_
              simp only at hsl
              refine ev_eq (next n h1 (by omega)) ?_
              have eg := skipS_go (l := c :: r) (by rw [es]; simp only; omega)
              rw [es] at eg
              rw [cut, eg]
              simp only [Prod.mk.injEq, and_true]
              omega
          · have es : stepS (c :: r) = (0, 0) := by rw [stepS, if_neg hc, if_neg h8, if_neg ht]
            refine ev_else ht (ev_now ?_)
            rw [skipS_stop (by rw [es]), es]; rfl
    · refine ev_if (by omega) ?_
      refine ev_eq (next _ (by omega) (by omega)) ?_
      rw [hrun, List.drop_drop]
      simp only [Prod.mk.injEq, and_true]
      omega
theorem skip_ev (l : List Int) (hl : Bytes l) (hn : l.length ≤ 1000000) : Ev (fun k => layout_Skip.f k l) (((skipS l).1 : Int), (skipS l).2) := by
  refine ev_eq (skip_loop l hl hn (l.length + 1) 0 (by omega) (by omega)) ?_
  simp
end Go.Proofs.YtfmhhjimnhfbaaaDoor.P
