/- What utf.Take answers, as a plain function of the bytes. -/
import Derived.Test.YtcemcdjpihokoaaWMore
import Derived.Test.YtcemcdjpihokoaaPx1
namespace Go.Proofs.Ytcemcdjpihokoaa.P
open Go.RowKit Go.Proofs.YtcemcdjpihokoaaW.PrintWords Go.Proofs.YtcemcdjpihokoaaW.PrintLast Go.Proofs.YtcemcdjpihokoaaW.PrintMore

def uLo (c : Int) : Int := if c = 224 then 160 else if c = 240 then 144 else 128
def uHi (c : Int) : Int := if c = 237 then 159 else if c = 244 then 143 else 191
/-- how many bytes a sequence with a first byte has; 0: none -/
def uLong (c : Int) : Nat := if c < 128 then 1 else if c < 194 ∨ c > 244 then 0 else if c < 224 then 2 else if c < 240 then 3 else 4
/-- so many bytes more, the first one of them from lo to hi, the others 128 to 191 -/
def restOk : Nat → Int → Int → List Int → Bool
  | 0, _, _, _ => true
  | _ + 1, _, _, [] => false
  | n + 1, lo, hi, a :: t => decide (lo ≤ a ∧ a ≤ hi) && restOk n 128 191 t
/-- how many bytes the first sequence has, and whether it is one -/
def takeS : List Int → Int × Bool
  | [] => (0, false)
  | c :: r => if uLong c = 0 then (1, false) else if restOk (uLong c - 1) (uLo c) (uHi c) r then ((uLong c : Int), true) else (1, false)
theorem takeS_cons (c : Int) (r : List Int) : takeS (c :: r) = if uLong c = 0 then (1, false) else if restOk (uLong c - 1) (uLo c) (uHi c) r then ((uLong c : Int), true) else (1, false) := rfl
theorem restOk_cons (n : Nat) (lo hi a : Int) (t : List Int) : restOk (n + 1) lo hi (a :: t) = (decide (lo ≤ a ∧ a ≤ hi) && restOk n 128 191 t) := rfl
theorem restOk_short (n : Nat) : ∀ (lo hi : Int) (r : List Int), r.length < n → restOk n lo hi r = false := by
  induction n with
  | zero => intro _ _ r h; omega
  | succ n ih =>
    intro lo hi r h
    cases r with
    | nil => rfl
    | cons a t => rw [restOk_cons, ih _ _ t (by simp at h; omega)]; simp

def beh (c : Int) : Int × Int × Int := if c < 128 then (0, 0, 0) else if c < 194 ∨ c > 244 then (0, 0, -1) else (uLo c, uHi c, (uLong c : Int) - 1)
theorem behind_eq (k : Nat) (c : Int) : utf_behind.f (k + 1) c = some (beh c) := by
  unfold utf_behind.f beh uLo uHi uLong
  simp only [utf_behind.j0]
  by_cases h1 : c < 128
  · simp [h1]
  by_cases h2 : c < 194
  · simp [h1, h2]
  by_cases h3 : c > 244
  · simp [h1, h2, h3]
  by_cases h4 : c < 224
  · have : c ≠ 224 := by omega
    have : c ≠ 240 := by omega
    have : c ≠ 237 := by omega
    have : c ≠ 244 := by omega
    simp [*]
  by_cases h5 : c = 224
  · subst h5; simp
  by_cases h6 : c = 237
  · subst h6; simp
  by_cases h7 : c < 240
  · have : c ≠ 240 := by omega
    have : c ≠ 244 := by omega
    simp [*]
  by_cases h8 : c = 240
  · subst h8; simp
  by_cases h9 : c = 244
  · subst h9; simp
  simp [*]
theorem w1 {i : Int} (h0 : -1 ≤ i) (h1 : i ≤ 9223372036854775806) : wrap64 (i + 1) = i + 1 := by unfold wrap64; omega

theorem wl0 (k : Nat) (l : List Int) (m i lo hi q : Int) (h : ¬ i < m) (h0 : -1 ≤ q) (h1 : q ≤ 100) : utf_Take.l0 (k + 1) l m i lo hi q = some (q + 1, true) := by
  simp only [utf_Take.l0]; rw [if_neg h, w1 h0 (by omega)]
theorem wl1 (k : Nat) (l : List Int) (m : Int) (i : Nat) (lo hi q : Int) (h : (i : Int) < m) (h2 : i + 1 < l.length) (h3 : i < 10) :
    utf_Take.l0 (k + 1) l m (i : Int) lo hi q = if lo ≤ l.getD (i + 1) 0 ∧ l.getD (i + 1) 0 ≤ hi then utf_Take.l0 k l m ((i + 1 : Nat) : Int) 128 191 q else some (1, false) := by
  have e : wrap64 ((i : Int) + 1) = ((i + 1 : Nat) : Int) := by rw [w1 (by omega) (by omega)]; omega
  simp only [utf_Take.l0]
  rw [if_pos h, e, if_pos (by omega), if_pos (by omega)]
  have er : rd l ((i + 1 : Nat) : Int) = l.getD (i + 1) 0 := rfl
  rw [er]
  by_cases a : l.getD (i + 1) 0 < lo
  · rw [if_pos a, if_neg (by omega)]
  · rw [if_neg a]
    by_cases b : l.getD (i + 1) 0 > hi
    · rw [if_pos b, if_neg (by omega)]
    · rw [if_neg b, if_pos (by omega)]

theorem wl (d : Nat) : ∀ (k : Nat) (l : List Int) (m : Int) (i : Nat) (lo hi q : Int), m = ((i + d : Nat) : Int) → d < k → i + d < l.length → i + d < 10 → -1 ≤ q → q ≤ 100 →
    utf_Take.l0 k l m (i : Int) lo hi q = some (if restOk d lo hi (l.drop (i + 1)) then (q + 1, true) else (1, false)) := by
  induction d with
  | zero =>
    intro k l m i lo hi q hm hk h1 h2 h3 h4
    obtain ⟨k, rfl⟩ : ∃ j, k = j + 1 := ⟨k - 1, by omega⟩
    rw [wl0 _ _ _ _ _ _ _ (by omega) h3 h4]
    rfl
  | succ d ih =>
    intro k l m i lo hi q hm hk h1 h2 h3 h4
    obtain ⟨k, rfl⟩ : ∃ j, k = j + 1 := ⟨k - 1, by omega⟩
    rw [wl1 _ _ _ _ _ _ _ (by omega) (by omega) (by omega), ih k l m (i + 1) 128 191 q (by omega) (by omega) (by omega) (by omega) h3 h4]
    rw [List.drop_eq_getElem_cons (i := i + 1) (by omega)]
    have e : l.getD (i + 1) 0 = l[i + 1] := by simp [List.getD_eq_getElem?_getD, List.getElem?_eq_getElem (show i + 1 < l.length by omega)]
    rw [e]
    rw [restOk_cons]
    by_cases A : lo ≤ l[i + 1] ∧ l[i + 1] ≤ hi
    · rw [if_pos A, decide_eq_true A, Bool.true_and]
    · rw [if_neg A, decide_eq_false A, Bool.false_and]; rfl

theorem uLong_le (c : Int) : uLong c ≤ 4 := by
  unfold uLong
  repeat' split
  all_goals omega
theorem take_ten (l : List Int) : utf_Take.f 10 l = some (takeS l) := by
  unfold utf_Take.f
  cases l with
  | nil => simp [takeS]
  | cons c r =>
    rw [if_neg (by simp; omega), if_pos (by simp)]
    have e0 : rd (c :: r) 0 = c := rfl
    rw [e0, behind_eq]
    simp only [Option.bind_some]
    have go : ∀ (lo hi : Int) (n : Nat), n < 4 → utf_Take.j0 10 (c :: r) (decide (((c :: r).length : Int) ≤ (n : Int))) lo hi (n : Int) = some (if restOk n lo hi r then ((n : Int) + 1, true) else (1, false)) := by
      intro lo hi n hn
      simp only [utf_Take.j0]
      by_cases hs : ((c :: r).length : Int) ≤ (n : Int)
      · rw [if_pos (decide_eq_true hs), restOk_short n lo hi r (by simp at hs; omega)]
        rfl
      · rw [if_neg (by rw [decide_eq_false hs]; simp)]
        exact wl n 9 (c :: r) (n : Int) 0 lo hi (n : Int) (by omega) (by omega) (by simp at hs ⊢; omega) (by omega) (by omega) (by omega)
    rw [takeS_cons]
    unfold beh
    by_cases h1 : c < 128
    · have e : uLong c = 1 := by unfold uLong; rw [if_pos h1]
      rw [e, if_pos h1, if_neg (show ¬ (0 : Int) < 0 by omega)]
      exact go 0 0 0 (by omega)
    by_cases h2 : c < 194 ∨ c > 244
    · have e : uLong c = 0 := by unfold uLong; rw [if_neg h1, if_pos h2]
      rw [e, if_neg h1, if_pos h2, if_pos (show (-1 : Int) < 0 by omega)]
      simp [utf_Take.j0]
    rw [if_neg h1, if_neg h2]
    have hL : uLong c ≠ 0 := by
      unfold uLong; rw [if_neg h1, if_neg h2]
      repeat' split
      all_goals omega
    obtain ⟨n, hn⟩ : ∃ n, uLong c = n + 1 := ⟨uLong c - 1, by omega⟩
    have hle := uLong_le c
    have e2 : ((n + 1 : Nat) : Int) - 1 = (n : Int) := by omega
    rw [hn, e2, if_neg (show ¬ (n : Int) < 0 by omega), if_neg (show ¬ n + 1 = 0 by omega), Nat.add_sub_cancel]
    exact go _ _ n (by omega)

theorem take_ev (l : List Int) : Ev (fun k => utf_Take.f k l) (takeS l) := Ev.of (fun k => utf_Take.mono l k) (take_ten l)

theorem restOk_len (n : Nat) : ∀ (lo hi : Int) (r : List Int), restOk n lo hi r = true → n ≤ r.length := by
  intro lo hi r h
  rcases Nat.lt_or_ge r.length n with h2 | h2
  · rw [restOk_short n lo hi r h2] at h; cases h
  · exact h2
theorem take_pos (c : Int) (r : List Int) : 1 ≤ (takeS (c :: r)).1 ∧ (takeS (c :: r)).1 ≤ ((c :: r).length : Int) ∧ (takeS (c :: r)).1 ≤ 4 ∧ ((takeS (c :: r)).2 = false → (takeS (c :: r)).1 = 1) := by
  have hle := uLong_le c
  simp only [takeS]
  by_cases h0 : uLong c = 0
  · rw [if_pos h0]; simp; omega
  · rw [if_neg h0]
    by_cases h1 : restOk (uLong c - 1) (uLo c) (uHi c) r = true
    · have := restOk_len _ _ _ _ h1
      rw [if_pos h1]; simp; omega
    · rw [if_neg h1]; simp; omega
end Go.Proofs.Ytcemcdjpihokoaa.P
