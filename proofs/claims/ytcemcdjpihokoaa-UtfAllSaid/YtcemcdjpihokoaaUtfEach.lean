/- utf.Valid, utf.Count and the reference's own functions, as plain functions of the bytes. -/
import Derived.Test.YtcemcdjpihokoaaUtf
import Derived.Test.YtcemcdjpihokoaaEv
import Derived.Test.YtcemcdjpihokoaaPx1
import Derived.Test.YtcemcdjpihokoaaPx3
import Derived.Test.YtcemcdjpihokoaaPx2
namespace Go.Proofs.Ytcemcdjpihokoaa.P
open Go.RowKit Go.Proofs.YtcemcdjpihokoaaW.PrintWords Go.Proofs.YtcemcdjpihokoaaW.PrintLast Go.Proofs.YtcemcdjpihokoaaW.PrintMore

def cutS (l : List Int) : List Int := l.drop (takeS l).1.toNat
theorem cutS_lt {l : List Int} (h : l ≠ []) : (cutS l).length < l.length := by
  cases l with
  | nil => exact absurd rfl h
  | cons c r =>
    have := take_pos c r
    unfold cutS
    rw [List.length_drop]
    simp at this ⊢
    omega
def eachS (l : List Int) : Nat × Bool := if h : l = [] then (0, true) else ((eachS (cutS l)).1 + 1, (takeS l).2 && (eachS (cutS l)).2)
termination_by l.length
decreasing_by all_goals exact cutS_lt h
theorem eachS_nil : eachS [] = (0, true) := by rw [eachS]; simp
theorem eachS_cons {l : List Int} (h : l ≠ []) : eachS l = ((eachS (cutS l)).1 + 1, (takeS l).2 && (eachS (cutS l)).2) := by rw [eachS, dif_neg h]
theorem eachS_fst {l : List Int} (h : l ≠ []) : (eachS l).1 = (eachS (cutS l)).1 + 1 := by rw [eachS_cons h]
theorem eachS_snd {l : List Int} (h : l ≠ []) : (eachS l).2 = ((takeS l).2 && (eachS (cutS l)).2) := by rw [eachS_cons h]
theorem eachS_le (l : List Int) : (eachS l).1 ≤ l.length := by
  by_cases h : l = []
  · subst h; rw [eachS_nil]; exact Nat.le_refl _
  · have := cutS_lt h
    have := eachS_le (cutS l)
    rw [eachS_cons h]
    omega
termination_by l.length
decreasing_by exact cutS_lt h

theorem each_loop (l : List Int) : ∀ (n : Int) (b : Bool), 0 ≤ n → n + l.length ≤ 9223372036854775807 → Ev (fun k => utf_each.l0 k l n b) (n + ((eachS l).1 : Int), b && (eachS l).2) := by
  intro n b h0 hn
  refine Ev.step (fun k => utf_each.l0.eq_2 ..) ?_
  by_cases h : l = []
  · subst h
    refine ev_else (by simp) ?_
    rw [eachS_nil]
    exact ev_now (by simp)
  · have hlt := cutS_lt h
    have hlen : 0 < l.length := by cases l with
      | nil => exact absurd rfl h
      | cons c r => simp
    refine ev_if (by omega) ?_
    refine Ev.bind (take_ev l) ?_
    have hp : 1 ≤ (takeS l).1 ∧ (takeS l).1 ≤ (l.length : Int) := by
      cases l with
      | nil => exact absurd rfl h
      | cons c r => exact ⟨(take_pos c r).1, (take_pos c r).2.1⟩
    refine ev_if (by omega) (ev_if hp.2 (ev_let ?_))
    have ih := each_loop (cutS l) (n + 1) 
    rw [eachS_cons h, show wrap64 (n + 1) = n + 1 from w64 (by omega) (by omega)]
    cases b with
    | true =>
      refine ev_if rfl ?_
      refine ev_eq (ih (takeS l).2 (by omega) (by omega)) ?_
      simp; omega
    | false =>
      refine ev_else (by simp) ?_
      refine ev_eq (ih false (by omega) (by omega)) ?_
      simp; omega
termination_by l.length
decreasing_by exact hlt
theorem each_ev (l : List Int) (hl : l.length ≤ 1000000) : Ev (fun k => utf_each.f k l) (((eachS l).1 : Int), (eachS l).2) := by
  refine ev_eq (each_loop l 0 true (by omega) (by omega)) ?_
  simp
theorem valid_ev (l : List Int) (hl : l.length ≤ 1000000) : Ev (fun k => utf_Valid.f k l) (eachS l).2 := Ev.bind (each_ev l hl) (Ev.now _)
theorem count_ev (l : List Int) (hl : l.length ≤ 1000000) : Ev (fun k => utf_Count.f k l) ((eachS l).1 : Int) := Ev.bind (each_ev l hl) (Ev.now _)

theorem shown_ev : Ev (fun k => tmesislaw01_shown.f k) true := Ev.of (fun k => tmesislaw01_shown.mono k) (k := 20) (by decide +kernel)
theorem few_eq (l : List Int) : tmesislaw01_few.f l = some (l.take 200) := by
  unfold tmesislaw01_few.f
  have h1 : 0 ≤ mn (l.length : Int) 200 := by unfold mn; split <;> omega
  have h2 : mn (l.length : Int) 200 ≤ (l.length : Int) := by unfold mn; split <;> omega
  rw [if_pos h1, if_pos h2, mn_le _ _ (by omega)]
  congr 1
  rw [Nat.min_comm, ← List.take_take, List.take_length]
  rfl

theorem long_eq (k : Nat) (c : Int) : tmesisref01_long.f (k + 1) c = some (uLong c : Int) := by
  unfold tmesisref01_long.f uLong
  simp only [tmesisref01_long.j0]
  by_cases h1 : c < 128
  · simp [h1]
  by_cases h2 : c < 194
  · simp [h1, h2]
  by_cases h3 : c > 244
  · simp [h1, h2, h3]
  by_cases h4 : c < 224
  · simp [*]
  by_cases h7 : c < 240
  · simp [*]
  simp [*]
theorem second_eq (c a : Int) : tmesisref01_second.f c a = some (decide (uLo c ≤ a ∧ a ≤ uHi c)) := by
  unfold tmesisref01_second.f uLo uHi
  by_cases h1 : c = 224
  · subst h1; by_cases h : a ≥ 160 <;> simp [h]
  by_cases h2 : c = 237
  · subst h2; by_cases h : a ≥ 128 <;> simp [h]
  by_cases h3 : c = 240
  · subst h3; by_cases h : a ≥ 144 <;> simp [h]
  by_cases h4 : c = 244
  · subst h4; by_cases h : a ≥ 128 <;> simp [h]
  by_cases h : a ≥ 128 <;> simp [*]
theorem rl (d : Nat) : ∀ (k : Nat) (l : List Int) (m : Int) (i : Nat), m = ((i + d : Nat) : Int) → d < k → i + d ≤ l.length → i + d < 10 →
    tmesisref01_Take.l0 k l m (i : Int) = some (if restOk d 128 191 (l.drop i) then (m, true) else (1, false)) := by
  induction d with
  | zero =>
    intro k l m i hm hk h1 h2
    obtain ⟨k, rfl⟩ : ∃ j, k = j + 1 := ⟨k - 1, by omega⟩
    simp only [tmesisref01_Take.l0]
    rw [if_neg (by omega)]
    rfl
  | succ d ih =>
    intro k l m i hm hk h1 h2
    obtain ⟨k, rfl⟩ : ∃ j, k = j + 1 := ⟨k - 1, by omega⟩
    have e : wrap64 ((i : Int) + 1) = ((i + 1 : Nat) : Int) := by rw [w64 (by omega) (by omega)]; omega
    have er : rd l (i : Int) = l[i] := by
      show l.getD i 0 = _
      simp [List.getD_eq_getElem?_getD, List.getElem?_eq_getElem (show i < l.length by omega)]
    simp only [tmesisref01_Take.l0]
    rw [if_pos (by omega), if_pos (by omega), if_pos (by omega), e, er, ih k l m (i + 1) (by omega) (by omega) (by omega) (by omega), List.drop_eq_getElem_cons (i := i) (by omega), restOk_cons]
    by_cases a : l[i] < 128
    · rw [if_pos a, decide_eq_false (by omega), Bool.false_and]; rfl
    · rw [if_neg a]
      by_cases b : l[i] > 191
      · rw [if_pos b, decide_eq_false (by omega), Bool.false_and]; rfl
      · rw [if_neg b, decide_eq_true (by omega), Bool.true_and]
theorem rtake_ten (l : List Int) : tmesisref01_Take.f 10 l = some (takeS l) := by
  unfold tmesisref01_Take.f
  cases l with
  | nil => simp [takeS]
  | cons c r =>
    rw [if_neg (by simp; omega), if_pos (by simp)]
    have e0 : rd (c :: r) 0 = c := rfl
    rw [e0, long_eq, takeS_cons]
    simp only [Option.bind_some]
    have hle := uLong_le c
    by_cases h0 : uLong c = 0
    · rw [h0]
      simp [tmesisref01_Take.j0]
    rw [if_neg (by omega), if_neg h0]
    by_cases h1 : ((c :: r).length : Int) < (uLong c : Int)
    · rw [if_pos h1, restOk_short _ _ _ r (by simp at h1; omega)]
      simp [tmesisref01_Take.j0]
    rw [if_neg h1]
    by_cases h2 : uLong c = 1
    · rw [h2]
      have := rl 0 9 (c :: r) 1 1 (by omega) (by omega) (by simp) (by omega)
      simp [tmesisref01_Take.j0, restOk]
      simp only [tmesisref01_Take.l0]
      rw [if_neg (by omega)]
    · rw [if_pos (by omega)]
      cases r with
      | nil => simp at h1; omega
      | cons a t =>
        have e1 : rd (c :: a :: t) 1 = a := rfl
        rw [if_pos (by simp; omega), e1, second_eq]
        simp only [Option.bind_some, tmesisref01_Take.j0]
        obtain ⟨n, hn⟩ : ∃ n, uLong c = n + 2 := ⟨uLong c - 2, by omega⟩
        rw [hn, show n + 2 - 1 = n + 1 from rfl, restOk_cons]
        have := rl n 9 (c :: a :: t) ((n + 2 : Nat) : Int) 2 (by omega) (by omega) (by simp at h1 ⊢; omega) (by omega)
        by_cases A : uLo c ≤ a ∧ a ≤ uHi c
        · rw [decide_eq_true A, Bool.true_and, if_neg (by simp)]
          exact this
        · rw [decide_eq_false A, Bool.false_and, if_pos (by simp)]
          rfl
theorem rtake_ev (l : List Int) : Ev (fun k => tmesisref01_Take.f k l) (takeS l) := Ev.of (fun k => tmesisref01_Take.mono l k) (rtake_ten l)

theorem take_prop {l : List Int} (h : l ≠ []) : 1 ≤ (takeS l).1 ∧ (takeS l).1 ≤ (l.length : Int) ∧ (takeS l).1 ≤ 4 ∧ ((takeS l).2 = false → (takeS l).1 = 1) := by
  cases l with
  | nil => exact absurd rfl h
  | cons c r => exact take_pos c r
theorem rvalid_loop (l : List Int) (hl : l.length ≤ 1000000) : ∀ (m : List Int) (i : Nat), m = l.drop i → i ≤ l.length → Ev (fun k => tmesisref01_Valid.l0 k l (i : Int)) (eachS m).2 := by
  intro m i hm hi
  refine Ev.step (fun k => tmesisref01_Valid.l0.eq_2 ..) ?_
  have hml : m.length = l.length - i := by rw [hm]; simp
  by_cases h : m = []
  · refine ev_else (by rw [h] at hml; simp at hml; omega) ?_
    rw [h, eachS_nil]
    exact Ev.now _
  · have hlt := cutS_lt h
    have hp := take_prop h
    refine ev_if (by omega) (ev_if (by omega) (ev_if (by omega) ?_))
    have e : l.drop ((i : Int)).toNat = m := by rw [hm]; rfl
    rw [e]
    refine Ev.bind (rtake_ev m) ?_
    rw [eachS_cons h]
    cases ht : (takeS m).2 with
    | false => exact ev_else (by simp) (ev_now (by simp))
    | true =>
      refine ev_if rfl ?_
      have hw : wrap64 ((i : Int) + (takeS m).1) = ((i + (takeS m).1.toNat : Nat) : Int) := by rw [w64 (by omega) (by omega)]; omega
      rw [hw]
      refine ev_eq (rvalid_loop l hl (cutS m) (i + (takeS m).1.toNat) (by unfold cutS; rw [hm, List.drop_drop]) (by omega)) ?_
      simp
termination_by m => m.length
theorem rvalid_ev (l : List Int) (hl : l.length ≤ 1000000) : Ev (fun k => tmesisref01_Valid.f k l) (eachS l).2 := rvalid_loop l hl l 0 rfl (by omega)
theorem rcount_loop (l : List Int) (hl : l.length ≤ 1000000) : ∀ (m : List Int) (i : Nat) (n : Int), m = l.drop i → i ≤ l.length → 0 ≤ n → n + m.length ≤ 2000000 → Ev (fun k => tmesisref01_Count.l0 k l (i : Int) n) (n + ((eachS m).1 : Int)) := by
  intro m i n hm hi h0 hn
  refine Ev.step (fun k => tmesisref01_Count.l0.eq_2 ..) ?_
  have hml : m.length = l.length - i := by rw [hm]; simp
  by_cases h : m = []
  · refine ev_else (by rw [h] at hml; simp at hml; omega) ?_
    rw [h, eachS_nil]
    exact ev_now (by simp)
  · have hlt := cutS_lt h
    have hp := take_prop h
    refine ev_if (by omega) (ev_if (by omega) (ev_if (by omega) ?_))
    have e : l.drop ((i : Int)).toNat = m := by rw [hm]; rfl
    rw [e]
    refine Ev.bind (rtake_ev m) ?_
    have hw : wrap64 ((i : Int) + (takeS m).1) = ((i + (takeS m).1.toNat : Nat) : Int) := by rw [w64 (by omega) (by omega)]; omega
    rw [hw, eachS_cons h, w64 (by omega) (by omega)]
    refine ev_eq (rcount_loop l hl (cutS m) (i + (takeS m).1.toNat) (n + 1) (by unfold cutS; rw [hm, List.drop_drop]) (by omega) (by omega) (by omega)) ?_
    simp; omega
termination_by m => m.length
theorem rcount_ev (l : List Int) (hl : l.length ≤ 1000000) : Ev (fun k => tmesisref01_Count.f k l) ((eachS l).1 : Int) := ev_eq (rcount_loop l hl l 0 0 rfl (by omega) (by omega) (by omega)) (by simp)
end Go.Proofs.Ytcemcdjpihokoaa.P
