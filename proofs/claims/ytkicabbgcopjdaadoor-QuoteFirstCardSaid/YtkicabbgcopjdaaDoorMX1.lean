/- Part of the proof: what the theorem needs of this text. -/
import Derived.Test.YtkicabbgcopjdaaDoorKHRA
import Derived.Test.YtkicabbgcopjdaaDoorKPx1
import Derived.Test.YtkicabbgcopjdaaDoorKPx12
import Derived.Test.YtkicabbgcopjdaaDoorKPx2
import Derived.Test.YtkicabbgcopjdaaDoorKPx3
import Derived.Test.YtkicabbgcopjdaaDoorKPx6
import Derived.Test.YtkicabbgcopjdaaDoorMW1
import Derived.Lib.BytesEntry
namespace Go.Proofs.YtkicabbgcopjdaaDoor.P
set_option linter.unusedSimpArgs false
set_option linter.unusedVariables false
open Go.RowKit Go.Proofs.YtkicabbgcopjdaaDoorW.PrintWords Go.Proofs.YtkicabbgcopjdaaDoorW.PrintLast Go.Proofs.YtkicabbgcopjdaaDoorW.PrintMore
section
variable {α β : Type}
theorem ev_if {c : Prop} [Decidable c] {a b : Nat → Option α} {r : α} (hc : c) (h : Ev a r) : Ev (fun k => if c then a k else b k) r := by simpa only [if_pos hc] using h
theorem ev_else {c : Prop} [Decidable c] {a b : Nat → Option α} {r : α} (hc : ¬ c) (h : Ev b r) : Ev (fun k => if c then a k else b k) r := by simpa only [if_neg hc] using h
theorem ev_let {y : β} {f : Nat → β → Option α} {r : α} (h : Ev (fun k => f k y) r) : Ev (fun k => (some y).bind (f k)) r := h
theorem ev_same {o : Option β} {y : β} {f : Nat → β → Option α} {r : α} (ho : o = some y) (h : Ev (fun k => f k y) r) : Ev (fun k => o.bind (f k)) r := by subst ho; exact h
theorem ev_eq {g : Nat → Option α} {r r' : α} (h : Ev g r) (e : r = r') : Ev g r' := e ▸ h
theorem ev_now {r r' : α} (e : r = r') : Ev (fun _ => some r) r' := e ▸ Ev.now r
/-- Both ways to one answer. -/
theorem ev_ite {c : Prop} [Decidable c] {a b : Nat → Option α} {r s : α} (ha : c → Ev a r) (hb : ¬ c → Ev b s) : Ev (fun k => if c then a k else b k) (if c then r else s) := by
 by_cases hc : c
 ·rw [if_pos hc]; exact ev_if hc (ha hc)
 ·rw [if_neg hc]; exact ev_else hc (hb hc)
end
theorem w64 {i : Int} (h0 : -9223372036854775808 ≤ i) (h1 : i ≤ 9223372036854775807) : wrap64 i = i := by unfold wrap64; omega
theorem mn_le (n : Nat) (m : Int) (hm : 0 ≤ m) : (mn (n : Int) m).toNat = min n m.toNat := by unfold mn; split <;> omega
end Go.Proofs.YtkicabbgcopjdaaDoor.P
namespace Go.Proofs.YtkicabbgcopjdaaDoor.P
set_option linter.unusedSimpArgs false
set_option linter.unusedVariables false
open Go.RowKit Go.Proofs.YtkicabbgcopjdaaDoor.P Go.Proofs.YtkicabbgcopjdaaDoorW.PrintWords Go.Proofs.YtkicabbgcopjdaaDoorW.PrintLast Go.Proofs.YtkicabbgcopjdaaDoorW.PrintMore
theorem shown_ev : Ev (fun k => tmesislaw04_shown.f k) true := Ev.of (fun k => tmesislaw04_shown.mono k) (k := 30) (by decide +kernel)
theorem few_eq (l : List Int) : tmesislaw04_few.f l = some (l.take 100) := by
 unfold tmesislaw04_few.f
 have h1 : 0 ≤ mn (l.length : Int) 100 := by unfold mn; split <;> omega
 have h2 : mn (l.length : Int) 100 ≤ (l.length : Int) := by unfold mn; split <;> omega
 rw [if_pos h1, if_pos h2, mn_le _ _ (by omega)]
 congr 1
 rw [Nat.min_comm, ← List.take_take, List.take_length]
 rfl
end Go.Proofs.YtkicabbgcopjdaaDoor.P
namespace Go.Proofs.YtkicabbgcopjdaaDoor.P
set_option linter.unusedSimpArgs false
set_option linter.unusedVariables false
open Go.RowKit Go.Proofs.YtkicabbgcopjdaaDoorW.PrintWords Go.Proofs.YtkicabbgcopjdaaDoorW.PrintLast Go.Proofs.YtkicabbgcopjdaaDoorW.PrintMore
def Bytes (l : List Int) : Prop := ∀ x ∈ l, 0 ≤ x ∧ x < 256
theorem u8_wf {x : Int} (h : (Lit.int .u8 x).wf = true) : 0 ≤ x ∧ x < 256 := by
 simp [Lit.wf, IntKind.min, IntKind.max, IntKind.signed, IntKind.bits] at h
 omega
theorem bytes_wf {l : List Int} (h : ∀ x ∈ l, (Lit.int .u8 x).wf = true) : Bytes l := fun x hx => u8_wf (h x hx)
theorem Bytes.take {l : List Int} (h : Bytes l) (n : Nat) : Bytes (l.take n) := fun x hx => h x (List.mem_of_mem_take hx)
theorem Bytes.drop {l : List Int} (h : Bytes l) (n : Nat) : Bytes (l.drop n) := fun x hx => h x (List.mem_of_mem_drop hx)
theorem Bytes.cons {c : Int} {r : List Int} (h : Bytes (c :: r)) : (0 ≤ c ∧ c < 256) ∧ Bytes r := ⟨h c (by simp), fun x hx => h x (by simp [hx])⟩
end Go.Proofs.YtkicabbgcopjdaaDoor.P
namespace Go.Proofs.YtkicabbgcopjdaaDoor.P
set_option linter.unusedSimpArgs false
set_option linter.unusedVariables false
open Go.RowKit Go.Proofs.YtkicabbgcopjdaaDoorW.PrintWords Go.Proofs.YtkicabbgcopjdaaDoorW.PrintLast Go.Proofs.YtkicabbgcopjdaaDoorW.PrintMore
def uLo (c : Int) : Int := if c = 224 then 160 else if c = 240 then 144 else 128
def uHi (c : Int) : Int := if c = 237 then 159 else if c = 244 then 143 else 191
/-- how many bytes a sequence with a first byte has; 0: none -/
def uLong (c : Int) : Nat := if c < 128 then 1 else if c < 194 ∨ c > 244 then 0 else if c < 224 then 2 else if c < 240 then 3 else 4
/-- so many bytes more, the first one of them from lo to hi, the others 128 to 191 -/
def restOk : Nat → Int → Int → List Int → Bool
 | 0, _, _, _ => true
 | _ + 1, _, _, [] => false
 | n + 1, lo, hi, a :: t => decide (lo ≤ a ∧ a ≤ hi) && restOk n 128 191 t
/-- how many bytes the first sequence has, and whether it is one -/
def takeS : List Int → Int × Bool
 | [] => (0, false)
 | c :: r => if uLong c = 0 then (1, false) else if restOk (uLong c - 1) (uLo c) (uHi c) r then ((uLong c : Int), true) else (1, false)
theorem takeS_cons (c : Int) (r : List Int) : takeS (c :: r) = if uLong c = 0 then (1, false) else if restOk (uLong c - 1) (uLo c) (uHi c) r then ((uLong c : Int), true) else (1, false) := rfl
theorem restOk_cons (n : Nat) (lo hi a : Int) (t : List Int) : restOk (n + 1) lo hi (a :: t) = (decide (lo ≤ a ∧ a ≤ hi) && restOk n 128 191 t) := rfl
theorem restOk_short (n : Nat) : ∀ (lo hi : Int) (r : List Int), r.length < n → restOk n lo hi r = false := by
 induction n with
 | zero => intro _ _ r h; omega
 | succ n ih =>
  intro lo hi r h
  cases r with
  | nil => rfl
  | cons a t => rw [restOk_cons, ih _ _ t (by simp at h; omega)]; simp
def beh (c : Int) : Int × Int × Int := if c < 128 then (0, 0, 0) else if c < 194 ∨ c > 244 then (0, 0, -1) else (uLo c, uHi c, (uLong c : Int) - 1)
theorem behind_eq (k : Nat) (c : Int) : utf_behind.f (k + 1) c = some (beh c) := by
 unfold utf_behind.f beh uLo uHi uLong
 simp only [utf_behind.j0]
 by_cases h1 : c < 128
 ·simp [h1]
 by_cases h2 : c < 194
 ·simp [h1, h2]
 by_cases h3 : c > 244
 ·simp [h1, h2, h3]
 by_cases h4 : c < 224
 ·have : c ≠ 224 := by omega
  have : c ≠ 240 := by omega
  have : c ≠ 237 := by omega
  have : c ≠ 244 := by omega
  simp [*]
 by_cases h5 : c = 224
 ·subst h5; simp
 by_cases h6 : c = 237
 ·subst h6; simp
 by_cases h7 : c < 240
 ·have : c ≠ 240 := by omega
  have : c ≠ 244 := by omega
  simp [*]
 by_cases h8 : c = 240
 ·subst h8; simp
 by_cases h9 : c = 244
 ·subst h9; simp
 simp [*]
theorem w1 {i : Int} (h0 : -1 ≤ i) (h1 : i ≤ 9223372036854775806) : wrap64 (i + 1) = i + 1 := by unfold wrap64; omega
theorem wl0 (k : Nat) (l : List Int) (m i lo hi q : Int) (h : ¬ i < m) (h0 : -1 ≤ q) (h1 : q ≤ 100) : utf_Take.l0 (k + 1) l m i lo hi q = some (q + 1, true) := by
 simp only [utf_Take.l0]; rw [if_neg h, w1 h0 (by omega)]
theorem wl1 (k : Nat) (l : List Int) (m : Int) (i : Nat) (lo hi q : Int) (h : (i : Int) < m) (h2 : i + 1 < l.length) (h3 : i < 10) :
  utf_Take.l0 (k + 1) l m (i : Int) lo hi q = if lo ≤ l.getD (i + 1) 0 ∧ l.getD (i + 1) 0 ≤ hi then utf_Take.l0 k l m ((i + 1 : Nat) : Int) 128 191 q else some (1, false) := by
 have e : wrap64 ((i : Int) + 1) = ((i + 1 : Nat) : Int) := by rw [w1 (by omega) (by omega)]; omega
 simp only [utf_Take.l0]
 rw [if_pos h, e, if_pos (by omega), if_pos (by omega)]
 have er : rd l ((i + 1 : Nat) : Int) = l.getD (i + 1) 0 := rfl
 rw [er]
 by_cases a : l.getD (i + 1) 0 < lo
 ·rw [if_pos a, if_neg (by omega)]
 ·rw [if_neg a]
  by_cases b : l.getD (i + 1) 0 > hi
  ·rw [if_pos b, if_neg (by omega)]
  ·rw [if_neg b, if_pos (by omega)]
theorem wl (d : Nat) : ∀ (k : Nat) (l : List Int) (m : Int) (i : Nat) (lo hi q : Int), m = ((i + d : Nat) : Int) → d < k → i + d < l.length → i + d < 10 → -1 ≤ q → q ≤ 100 →
  utf_Take.l0 k l m (i : Int) lo hi q = some (if restOk d lo hi (l.drop (i + 1)) then (q + 1, true) else (1, false)) := by
 induction d with
 | zero =>
  intro k l m i lo hi q hm hk h1 h2 h3 h4
  obtain ⟨k, rfl⟩ : ∃ j, k = j + 1 := ⟨k - 1, by omega⟩
  rw [wl0 _ _ _ _ _ _ _ (by omega) h3 h4]
  rfl
 | succ d ih =>
  intro k l m i lo hi q hm hk h1 h2 h3 h4
  obtain ⟨k, rfl⟩ : ∃ j, k = j + 1 := ⟨k - 1, by omega⟩
  rw [wl1 _ _ _ _ _ _ _ (by omega) (by omega) (by omega), ih k l m (i + 1) 128 191 q (by omega) (by omega) (by omega) (by omega) h3 h4]
  rw [List.drop_eq_getElem_cons (i := i + 1) (by omega)]
  have e : l.getD (i + 1) 0 = l[i + 1] := by simp [List.getD_eq_getElem?_getD, List.getElem?_eq_getElem (show i + 1 < l.length by omega)]
  rw [e]
  rw [restOk_cons]
  by_cases A : lo ≤ l[i + 1] ∧ l[i + 1] ≤ hi
  ·rw [if_pos A, decide_eq_true A, Bool.true_and]
  ·rw [if_neg A, decide_eq_false A, Bool.false_and]; rfl
theorem uLong_le (c : Int) : uLong c ≤ 4 := by
 unfold uLong
 repeat' split
 all_goals omega
theorem take_ten (l : List Int) : utf_Take.f 10 l = some (takeS l) := by
 unfold utf_Take.f
 cases l with
 | nil => simp [takeS]
 | cons c r =>
  rw [if_neg (by simp; omega), if_pos (by simp)]
  have e0 : rd (c :: r) 0 = c := rfl
  rw [e0, behind_eq]
  simp only [Option.bind_some]
  have go : ∀ (lo hi : Int) (n : Nat), n < 4 → utf_Take.j0 10 (c :: r) (decide (((c :: r).length : Int) ≤ (n : Int))) lo hi (n : Int) = some (if restOk n lo hi r then ((n : Int) + 1, true) else (1, false)) := by
   intro lo hi n hn
   simp only [utf_Take.j0]
   by_cases hs : ((c :: r).length : Int) ≤ (n : Int)
   ·rw [if_pos (decide_eq_true hs), restOk_short n lo hi r (by simp at hs; omega)]
    rfl
   ·rw [if_neg (by rw [decide_eq_false hs]; simp)]
    exact wl n 9 (c :: r) (n : Int) 0 lo hi (n : Int) (by omega) (by omega) (by simp at hs ⊢; omega) (by omega) (by omega) (by omega)
  rw [takeS_cons]
  unfold beh
  by_cases h1 : c < 128
  ·have e : uLong c = 1 := by unfold uLong; rw [if_pos h1]
   rw [e, if_pos h1, if_neg (show ¬ (0 : Int) < 0 by omega)]
   exact go 0 0 0 (by omega)
  by_cases h2 : c < 194 ∨ c > 244
  ·have e : uLong c = 0 := by unfold uLong; rw [if_neg h1, if_pos h2]
   rw [e, if_neg h1, if_pos h2, if_pos (show (-1 : Int) < 0 by omega)]
   simp [utf_Take.j0]
  rw [if_neg h1, if_neg h2]
  have hL : uLong c ≠ 0 := by
   unfold uLong; rw [if_neg h1, if_neg h2]
   repeat' split
   all_goals omega
  obtain ⟨n, hn⟩ : ∃ n, uLong c = n + 1 := ⟨uLong c - 1, by omega⟩
  have hle := uLong_le c
  have e2 : ((n + 1 : Nat) : Int) - 1 = (n : Int) := by omega
  rw [hn, e2, if_neg (show ¬ (n : Int) < 0 by omega), if_neg (show ¬ n + 1 = 0 by omega), Nat.add_sub_cancel]
  exact go _ _ n (by omega)
theorem take_ev (l : List Int) : Ev (fun k => utf_Take.f k l) (takeS l) := Ev.of (fun k => utf_Take.mono l k) (take_ten l)
theorem restOk_len (n : Nat) : ∀ (lo hi : Int) (r : List Int), restOk n lo hi r = true → n ≤ r.length := by
 intro lo hi r h
 rcases Nat.lt_or_ge r.length n with h2 | h2
 ·rw [restOk_short n lo hi r h2] at h; cases h
 ·exact h2
theorem take_pos (c : Int) (r : List Int) : 1 ≤ (takeS (c :: r)).1 ∧ (takeS (c :: r)).1 ≤ ((c :: r).length : Int) ∧ (takeS (c :: r)).1 ≤ 4 ∧ ((takeS (c :: r)).2 = false → (takeS (c :: r)).1 = 1) := by
 have hle := uLong_le c
 simp only [takeS]
 by_cases h0 : uLong c = 0
 ·rw [if_pos h0]; simp; omega
 ·rw [if_neg h0]
  by_cases h1 : restOk (uLong c - 1) (uLo c) (uHi c) r = true
  ·have := restOk_len _ _ _ _ h1
   rw [if_pos h1]; simp; omega
  ·rw [if_neg h1]; simp; omega
end Go.Proofs.YtkicabbgcopjdaaDoor.P
namespace Go.Proofs.YtkicabbgcopjdaaDoor.P
set_option linter.unusedSimpArgs false
set_option linter.unusedVariables false
open Go.RowKit Go.Proofs.YtkicabbgcopjdaaDoor.P Go.Proofs.YtkicabbgcopjdaaDoorW.PrintWords Go.Proofs.YtkicabbgcopjdaaDoorW.PrintLast Go.Proofs.YtkicabbgcopjdaaDoorW.PrintMore
/-- what stands next between the quotes: what it says, how long it is; and 0: go on, -1: its end, else the error -/
def itemQ : List Int → List Int × Nat × Int
 | [] => ([], 0, 12)
 | c :: r =>
  if c = 39 then (if r.headD 0 = 39 then ([39], 2, 0) else ([], 1, -1))
  else if c = 92 then (if r.headD 0 = 92 ∨ r.headD 0 = 39 then ([r.headD 0], 2, 0) else if r.headD 0 = 110 then ([10], 2, 0) else ([], 0, 13))
  else if c = 10 then ([], 0, 12)
  else if c < 32 ∨ c = 127 then ([], 0, 11)
  else if (takeS (c :: r)).2 = true then ((c :: r).take (takeS (c :: r)).1.toNat, (takeS (c :: r)).1.toNat, 0) else ([], 0, 10)
theorem itemQ_le (s : List Int) : (itemQ s).2.1 ≤ s.length ∧ ((itemQ s).2.2 = 0 → 1 ≤ (itemQ s).2.1) ∧ (itemQ s).1.length ≤ (itemQ s).2.1 := by
 match s with
 | [] => simp [itemQ]
 | c :: r =>
  have hd : ∀ x : Int, x ≠ 0 → r.headD 0 = x → 1 ≤ r.length := by
   intro x hx h
   cases r with
   | nil => exact absurd h.symm hx
   | cons a t => simp
  rw [itemQ]
  by_cases h1 : c = 39
  ·rw [if_pos h1]
   by_cases h2 : r.headD 0 = 39
   ·have := hd 39 (by omega) h2
    rw [if_pos h2]; simp; omega
   ·rw [if_neg h2]; simp
  rw [if_neg h1]
  by_cases h2 : c = 92
  ·rw [if_pos h2]
   by_cases h3 : r.headD 0 = 92 ∨ r.headD 0 = 39
   ·have : 1 ≤ r.length := by rcases h3 with h3 | h3 <;> exact hd _ (by omega) h3
    rw [if_pos h3]; simp; omega
   rw [if_neg h3]
   by_cases h4 : r.headD 0 = 110
   ·have := hd 110 (by omega) h4
    rw [if_pos h4]; simp; omega
   ·rw [if_neg h4]; simp
  rw [if_neg h2]
  by_cases h3 : c = 10
  ·rw [if_pos h3]; simp
  rw [if_neg h3]
  by_cases h4 : c < 32 ∨ c = 127
  ·rw [if_pos h4]; simp
  rw [if_neg h4]
  by_cases h5 : (takeS (c :: r)).2 = true
  ·have := take_pos c r
   rw [if_pos h5]
   refine ⟨?_, fun _ => ?_, ?_⟩
   ·simp only; omega
   ·simp only; omega
   ·simp only [List.length_take]; omega
  ·rw [if_neg h5]; simp
/-- what is said up to the end, how much that is, and -1; or how much there is ahead of the error, and that -/
def textQ (s : List Int) : List Int × Nat × Int := if h : (itemQ s).2.2 = 0 then ((itemQ s).1 ++ (textQ (s.drop (itemQ s).2.1)).1, (itemQ s).2.1 + (textQ (s.drop (itemQ s).2.1)).2.1, (textQ (s.drop (itemQ s).2.1)).2.2) else itemQ s
termination_by s.length
decreasing_by all_goals (have := itemQ_le s; have := this.2.1 h; rw [List.length_drop]; omega)
theorem textQ_stop {s : List Int} (h : (itemQ s).2.2 ≠ 0) : textQ s = itemQ s := by rw [textQ, dif_neg h]
theorem textQ_go {s : List Int} (h : (itemQ s).2.2 = 0) : textQ s = ((itemQ s).1 ++ (textQ (s.drop (itemQ s).2.1)).1, (itemQ s).2.1 + (textQ (s.drop (itemQ s).2.1)).2.1, (textQ (s.drop (itemQ s).2.1)).2.2) := by rw [textQ, dif_pos h]
def resQ (acc : List Int) (p : Nat) (t : List Int × Nat × Int) : List Int × Int × Int := if t.2.2 = -1 then (acc ++ t.1, ((p + t.2.1 : Nat) : Int), 0) else ([], ((p + t.2.1 : Nat) : Int), t.2.2)
theorem resQ_go {acc s v : List Int} {p n : Nat} (h : itemQ s = (v, n, 0)) : resQ acc p (textQ s) = resQ (acc ++ v) (p + n) (textQ (s.drop n)) := by
 rw [textQ_go (by rw [h]), h]
 simp only [resQ, List.append_assoc, Nat.add_assoc]
theorem resQ_end {acc s : List Int} {p n : Nat} (h : itemQ s = ([], n, -1)) : resQ acc p (textQ s) = (acc, ((p + n : Nat) : Int), 0) := by
 rw [textQ_stop (by rw [h]; show (-1 : Int) ≠ 0; decide), h]
 simp [resQ]
theorem resQ_bad {acc s : List Int} {p : Nat} {e : Int} (h : itemQ s = ([], 0, e)) (h0 : e ≠ 0) (h1 : e ≠ -1) : resQ acc p (textQ s) = ([], (p : Int), e) := by
 rw [textQ_stop (by rw [h]; exact h0), h]
 simp only [resQ]
 rw [if_neg h1]; rfl
/-- a quoted atom at the beginning: what it says, how long it is, the error -/
def quoteS (l : List Int) : List Int × Int × Int := if l.headD 0 = 39 then resQ [] 1 (textQ (l.drop 1)) else ([], 0, 2)
theorem rd_next {l : List Int} {p : Nat} {c : Int} {r : List Int} (hm : l.drop p = c :: r) (hr : r ≠ []) : rd l ((p + 1 : Nat) : Int) = r.headD 0 := by
 show l.getD (p + 1) 0 = _
 have h1 : l.drop (p + 1) = r := by rw [← List.drop_drop, hm]; rfl
 cases r with
 | nil => exact absurd rfl hr
 | cons a t =>
  have : l[p + 1]? = some a := by rw [← List.head?_drop, h1]; rfl
  simp [List.getD_eq_getElem?_getD, this]
theorem rd_here {l : List Int} {p : Nat} {c : Int} {r : List Int} (hm : l.drop p = c :: r) : rd l (p : Int) = c := by
 show l.getD p 0 = _
 have : l[p]? = some c := by rw [← List.head?_drop, hm]; rfl
 simp [List.getD_eq_getElem?_getD, this]
theorem quote_loop (l : List Int) (hl : Bytes l) (hn : l.length ≤ 1000000) (N : Nat) : ∀ (p : Nat) (acc : List Int), l.length - p < N → p ≤ l.length → acc.length ≤ p →
  Ev (fun k => quote_Take.l0 k l acc (p : Int)) (resQ acc p (textQ (l.drop p))) := by
 induction N with
 | zero => intro p _ h; omega
 | succ N ih =>
  intro p acc hN hp ha
  have hml : (l.drop p).length = l.length - p := List.length_drop
  have w1 : wrap64 ((p : Int) + 1) = ((p + 1 : Nat) : Int) := by rw [w64 (by omega) (by omega)]; omega
  have w2 : wrap64 ((p : Int) + 2) = ((p + 2 : Nat) : Int) := by rw [w64 (by omega) (by omega)]; omega
  refine Ev.step (fun k => quote_Take.l0.eq_2 ..) ?_
  match hm : l.drop p with
  | [] =>
   rw [hm] at hml
   simp only [List.length_nil] at hml
   refine ev_else (by omega) (ev_now ?_)
   rw [resQ_bad (s := []) (e := 12) rfl (by decide) (by decide)]
  | c :: r =>
   rw [hm] at hml
   simp only [List.length_cons] at hml
   have hle := itemQ_le (c :: r)
   have cut : ∀ n : Nat, l.drop (p + n) = (c :: r).drop n := fun n => by rw [← hm, List.drop_drop]
   have key : ∀ {R : List Int × Int × Int}, Ev (fun k => quote_Take.j2 k l acc (p : Int) (r.headD 0)) R → Ev (fun k => if (p : Int) < (l.length : Int) then (if (wrap64 ((p : Int) + 1)) < (l.length : Int) then (if 0 ≤ (wrap64 ((p : Int) + 1)) then (quote_Take.j2 k l acc (p : Int) (rd l (wrap64 ((p : Int) + 1)))) else (none)) else (quote_Take.j2 k l acc (p : Int) 0)) else (some (([] : List Int), (p : Int), 12))) R := by
    intro R h
    refine ev_if (by omega) ?_
    rw [w1]
    cases hr : r with
    | nil =>
     rw [hr] at h hml
     simp only [List.length_nil] at hml
     exact ev_else (by omega) h
    | cons a t =>
     have e := rd_next hm (by rw [hr]; simp)
     rw [e]
     rw [hr] at hml
     simp only [List.length_cons] at hml
     exact ev_if (by omega) (ev_if (by omega) h)
   refine key ?_
   generalize hd : r.headD 0 = d
   have hgo : ∀ (v : List Int) (n : Nat), itemQ (c :: r) = (v, n, 0) → Ev (fun k => quote_Take.l0 k l (acc ++ v) ((p + n : Nat) : Int)) (resQ acc p (textQ (c :: r))) := by
    intro v n h
    rw [h] at hle
    simp only [List.length_cons] at hle
    have h1 := hle.2.1 trivial
    rw [resQ_go h, ← cut]
    refine ih (p + n) (acc ++ v) (by omega) (by omega) ?_
    rw [List.length_append]
    omega
   refine Ev.step (fun k => quote_Take.j2.eq_2 ..) (ev_if (by omega) (ev_if (by omega) ?_))
   rw [rd_here hm]
   by_cases h39 : c = 39
   ·refine ev_if h39 (Ev.step (fun k => quote_Take.j3.eq_2 ..) ?_)
    by_cases hd9 : d = 39
    ·have hi : itemQ (c :: r) = ([39], 2, 0) := by rw [itemQ, if_pos h39, if_pos (by rw [hd]; exact hd9)]
     refine ev_else (by simp [hd9]) (ev_if h39 (Ev.step (fun k => quote_Take.j4.eq_2 ..) (ev_if (by simp [h39]) (ev_if (by omega) ?_))))
     rw [w2, hd9]
     exact hgo _ _ hi
    ·have hi : itemQ (c :: r) = ([], 1, -1) := by rw [itemQ, if_pos h39, if_neg (by rw [hd]; exact hd9)]
     refine ev_if (by simp [hd9]) (ev_now ?_)
     rw [resQ_end hi, w1]
   ·refine ev_else h39 (Ev.step (fun k => quote_Take.j3.eq_2 ..) (ev_else (by simp) (ev_else h39 ?_)))
    by_cases h92 : c = 92
    ·refine ev_if h92 ?_
     by_cases hq : d = 92 ∨ d = 39
     ·have hi : itemQ (c :: r) = ([d], 2, 0) := by rw [itemQ, if_neg h39, if_pos h92, hd, if_pos hq]
      have fin : Ev (fun k => quote_Take.j4 k l acc (p : Int) d c true) (resQ acc p (textQ (c :: r))) := by
       refine Ev.step (fun k => quote_Take.j4.eq_2 ..) (ev_if rfl (ev_if (by omega) ?_))
       rw [w2]
       exact hgo _ _ hi
      by_cases h2 : d = 92
      ·exact ev_if h2 fin
      ·refine ev_else h2 ?_
       rw [show (d == 39) = true by simp; omega]
       exact fin
     ·have n1 : d ≠ 92 := fun h => hq (.inl h)
      have n2 : d ≠ 39 := fun h => hq (.inr h)
      refine ev_else n1 (Ev.step (fun k => quote_Take.j4.eq_2 ..) (ev_else (by simp [n2]) (ev_if h92 (Ev.step (fun k => quote_Take.j5.eq_2 ..) ?_))))
      by_cases hn10 : d = 110
      ·have hi : itemQ (c :: r) = ([10], 2, 0) := by rw [itemQ, if_neg h39, if_pos h92, hd, if_neg hq, if_pos hn10]
       refine ev_if (by simp [hn10]) (ev_if (by omega) ?_)
       rw [w2]
       exact hgo _ _ hi
      ·have hi : itemQ (c :: r) = ([], 0, 13) := by rw [itemQ, if_neg h39, if_pos h92, hd, if_neg hq, if_neg hn10]
       refine ev_else (by simp [hn10]) (ev_if h92 (ev_now ?_))
       rw [resQ_bad hi (by decide) (by decide)]
    ·refine ev_else h92 (Ev.step (fun k => quote_Take.j4.eq_2 ..) (ev_else (by simp) (ev_else h92 (Ev.step (fun k => quote_Take.j5.eq_2 ..) (ev_else (by simp) (ev_else h92 ?_))))))
     by_cases h10 : c = 10
     ·have hi : itemQ (c :: r) = ([], 0, 12) := by rw [itemQ, if_neg h39, if_neg h92, if_pos h10]
      refine ev_if h10 (ev_now ?_)
      rw [resQ_bad hi (by decide) (by decide)]
     ·refine ev_else h10 ?_
      by_cases hc : c < 32 ∨ c = 127
      ·have hi : itemQ (c :: r) = ([], 0, 11) := by rw [itemQ, if_neg h39, if_neg h92, if_neg h10, if_pos hc]
       have fin : Ev (fun k => quote_Take.j6 k l acc (p : Int) true) (resQ acc p (textQ (c :: r))) := by
        refine Ev.step (fun k => quote_Take.j6.eq_2 ..) (ev_if rfl (ev_now ?_))
        rw [resQ_bad hi (by decide) (by decide)]
       by_cases h32 : c < 32
       ·exact ev_if h32 fin
       ·refine ev_else h32 ?_
        rw [show (c == 127) = true by simp; omega]
        exact fin
      ·have n1 : ¬ c < 32 := fun h => hc (.inl h)
       have n2 : c ≠ 127 := fun h => hc (.inr h)
       refine ev_else n1 (Ev.step (fun k => quote_Take.j6.eq_2 ..) (ev_else (by simp [n2]) (ev_if (by omega) (ev_if (by omega) ?_))))
       rw [show l.drop ((p : Int)).toNat = c :: r from hm]
       refine Ev.bind (take_ev _) ?_
       have tp := take_pos c r
       simp only [List.length_cons] at tp
       by_cases ht : (takeS (c :: r)).2 = true
       ·have hi : itemQ (c :: r) = ((c :: r).take (takeS (c :: r)).1.toNat, (takeS (c :: r)).1.toNat, 0) := by rw [itemQ, if_neg h39, if_neg h92, if_neg h10, if_neg hc, if_pos ht]
        generalize (takeS (c :: r)).1 = n at tp hi ⊢
        have wn : wrap64 ((p : Int) + n) = ((p + n.toNat : Nat) : Int) := by rw [w64 (by omega) (by omega)]; omega
        rw [wn]
        have et : (l.take (((p + n.toNat : Nat) : Int)).toNat).drop ((p : Int)).toNat = (c :: r).take n.toNat := by
         show (l.take (p + n.toNat)).drop p = _
         rw [List.drop_take, hm, Nat.add_sub_cancel_left]
        rw [et]
        refine ev_if ht (ev_if (by omega) (ev_if (by omega) (ev_if ?_ ?_)))
        ·rw [List.length_take]; simp only [List.length_cons]; omega
        ·exact hgo _ _ hi
       ·have hi : itemQ (c :: r) = ([], 0, 10) := by rw [itemQ, if_neg h39, if_neg h92, if_neg h10, if_neg hc, if_neg ht]
        refine ev_else ht (ev_now ?_)
        rw [resQ_bad hi (by decide) (by decide)]
theorem quote_ev (l : List Int) (hl : Bytes l) (hn : l.length ≤ 1000000) : Ev (fun k => quote_Take.f k l) (quoteS l) := by
 unfold quote_Take.f quoteS
 cases l with
 | nil => exact ev_if rfl (Ev.step (fun k => quote_Take.j0.eq_2 ..) (ev_if rfl (ev_now rfl)))
 | cons c r =>
  refine ev_else (by simp; omega) (ev_if (by simp) ?_)
  rw [show rd (c :: r) 0 = c from rfl, show (c :: r).headD 0 = c from rfl]
  refine Ev.step (fun k => quote_Take.j0.eq_2 ..) ?_
  by_cases h : c = 39
  ·rw [if_pos h]
   exact ev_else (by simp [h]) (quote_loop _ hl hn ((c :: r).length + 1) 1 [] (by omega) (by simp) (by simp))
  ·rw [if_neg h]
   exact ev_if (by simp [h]) (ev_now rfl)
end Go.Proofs.YtkicabbgcopjdaaDoor.P
namespace Go.Proofs.YtkicabbgcopjdaaDoor.P
set_option linter.unusedSimpArgs false
set_option linter.unusedVariables false
open Go.RowKit Go.Proofs.YtkicabbgcopjdaaDoorW.PrintWords Go.Proofs.YtkicabbgcopjdaaDoorW.PrintLast Go.Proofs.YtkicabbgcopjdaaDoorW.PrintMore
def cutS (l : List Int) : List Int := l.drop (takeS l).1.toNat
theorem cutS_lt {l : List Int} (h : l ≠ []) : (cutS l).length < l.length := by
 cases l with
 | nil => exact absurd rfl h
 | cons c r =>
  have := take_pos c r
  unfold cutS
  rw [List.length_drop]
  simp at this ⊢
  omega
def eachS (l : List Int) : Nat × Bool := if h : l = [] then (0, true) else ((eachS (cutS l)).1 + 1, (takeS l).2 && (eachS (cutS l)).2)
termination_by l.length
decreasing_by all_goals exact cutS_lt h
theorem eachS_nil : eachS [] = (0, true) := by rw [eachS]; simp
theorem eachS_cons {l : List Int} (h : l ≠ []) : eachS l = ((eachS (cutS l)).1 + 1, (takeS l).2 && (eachS (cutS l)).2) := by rw [eachS, dif_neg h]
theorem eachS_snd {l : List Int} (h : l ≠ []) : (eachS l).2 = ((takeS l).2 && (eachS (cutS l)).2) := by rw [eachS_cons h]
end Go.Proofs.YtkicabbgcopjdaaDoor.P
namespace Go.Proofs.YtkicabbgcopjdaaDoor.P
set_option linter.unusedSimpArgs false
set_option linter.unusedVariables false
open Go.RowKit Go.Proofs.YtkicabbgcopjdaaDoor.P Go.Proofs.YtkicabbgcopjdaaDoorW.PrintWords Go.Proofs.YtkicabbgcopjdaaDoorW.PrintLast Go.Proofs.YtkicabbgcopjdaaDoorW.PrintMore
theorem qapp {a b : List Int} (h : Bytes a) (h2 : Bytes b) : Bytes (a ++ b) := fun x hx => by
 rcases List.mem_append.1 hx with h1 | h1
 ·exact h x h1
 ·exact h2 x h1
def encQ (x : Int) : List Int := if x = 39 then [39, 39] else if x = 92 then [92, 92] else if x = 10 then [92, 110] else [x]
def encsQ (s : List Int) : List Int := s.flatMap encQ
theorem encsQ_cons (x : Int) (s : List Int) : encsQ (x :: s) = encQ x ++ encsQ s := rfl
theorem encsQ_append (a b : List Int) : encsQ (a ++ b) = encsQ a ++ encsQ b := by unfold encsQ; rw [List.flatMap_append]
theorem encQ_plain {x : Int} (h1 : x ≠ 39) (h2 : x ≠ 92) (h3 : x ≠ 10) : encQ x = [x] := by unfold encQ; rw [if_neg h1, if_neg h2, if_neg h3]
theorem encsQ_plain {s : List Int} (h : ∀ x ∈ s, x ≠ 39 ∧ x ≠ 92 ∧ x ≠ 10) : encsQ s = s := by
 induction s with
 | nil => rfl
 | cons a t ih =>
  have ha := h a (by simp)
  rw [encsQ_cons, encQ_plain ha.1 ha.2.1 ha.2.2, ih (fun x hx => h x (by simp [hx]))]; rfl
theorem encsQ_high {s : List Int} (h : ∀ x ∈ s, 128 ≤ x) : encsQ s = s := encsQ_plain (fun x hx => by have := h x hx; omega)
theorem encQ_len (x : Int) : 1 ≤ (encQ x).length ∧ (encQ x).length ≤ 2 := by
 unfold encQ
 repeat' split
 all_goals simp
theorem encsQ_len (s : List Int) : s.length ≤ (encsQ s).length ∧ (encsQ s).length ≤ 2 * s.length := by
 induction s with
 | nil => simp [encsQ]
 | cons a t ih =>
  have := encQ_len a
  rw [encsQ_cons, List.length_append, List.length_cons]
  omega
theorem encQ_byte {x : Int} (h : 0 ≤ x ∧ x < 256) : Bytes (encQ x) := by
 intro y hy
 unfold encQ at hy
 split at hy
 ·simp at hy; omega
 ·split at hy
  ·simp at hy; omega
  ·split at hy
   ·simp at hy; omega
   ·simp at hy; omega
theorem encsQ_byte {s : List Int} (h : Bytes s) : Bytes (encsQ s) := by
 induction s with
 | nil => intro x hx; cases hx
 | cons a t ih =>
  rw [encsQ_cons]
  exact qapp (encQ_byte (h a (by simp))) (ih (fun x hx => h x (by simp [hx])))
theorem restOk_enc (n : Nat) : ∀ (lo hi : Int) (r t : List Int), 128 ≤ lo → restOk n lo hi (encsQ r ++ 39 :: t) = restOk n lo hi r := by
 induction n with
 | zero => intro _ _ _ _ _; rfl
 | succ n ih =>
  intro lo hi r t hlo
  cases r with
  | nil =>
   show restOk (n + 1) lo hi (39 :: t) = false
   rw [restOk_cons, decide_eq_false (by omega)]; rfl
  | cons a r =>
   have low : ∀ (x y : Int) (z : List Int), a < 128 → x < 128 → restOk (n + 1) lo hi (x :: z) = restOk (n + 1) lo hi (a :: r) := by
    intro x y z ha hx
    rw [restOk_cons, restOk_cons, decide_eq_false (by omega), decide_eq_false (by omega)]; rfl
   rw [encsQ_cons]
   by_cases h1 : a = 39
   ·subst h1; exact low 39 0 _ (by omega) (by omega)
   by_cases h2 : a = 92
   ·subst h2; exact low 92 0 _ (by omega) (by omega)
   by_cases h3 : a = 10
   ·subst h3; exact low 92 0 _ (by omega) (by omega)
   rw [encQ_plain h1 h2 h3, List.append_assoc, List.singleton_append, restOk_cons, restOk_cons, ih _ _ r t (by omega)]
theorem restOk_take (n : Nat) : ∀ (lo hi : Int) (r : List Int), 128 ≤ lo → restOk n lo hi r = true → (∀ x ∈ r.take n, 128 ≤ x) ∧ n ≤ r.length ∧ ∀ z, restOk n lo hi (r.take n ++ z) = true := by
 induction n with
 | zero => intro _ _ r _ _; simp [restOk]
 | succ n ih =>
  intro lo hi r hlo h
  cases r with
  | nil => cases h
  | cons a t =>
   rw [restOk_cons, Bool.and_eq_true, decide_eq_true_eq] at h
   obtain ⟨i1, i2, i3⟩ := ih 128 191 t (by omega) h.2
   refine ⟨fun x hx => ?_, by simp; omega, fun z => ?_⟩
   ·rw [List.take_succ_cons, List.mem_cons] at hx
    rcases hx with rfl | hx
    ·omega
    ·exact i1 x hx
   ·rw [List.take_succ_cons, List.cons_append, restOk_cons, i3, decide_eq_true h.1]; rfl
theorem uLo_ge (c : Int) : 128 ≤ uLo c := by
 unfold uLo
 repeat' split
 all_goals omega
theorem uLong_low {c : Int} (h : c < 128) : uLong c = 1 := by unfold uLong; rw [if_pos h]
theorem takeS_low {c : Int} (h : c < 128) (r : List Int) : takeS (c :: r) = (1, true) := by rw [takeS_cons, uLong_low h]; rfl
theorem takeS_enc (c : Int) (r t : List Int) : takeS (c :: (encsQ r ++ 39 :: t)) = takeS (c :: r) := by
 rw [takeS_cons, takeS_cons, restOk_enc _ _ _ _ _ (uLo_ge c)]
/-- a text that may stand between quotes -/
def goodQ (s : List Int) : Prop := (eachS s).2 = true ∧ ∀ x ∈ s, (32 ≤ x ∨ x = 10) ∧ x ≠ 127
theorem goodQ_nil : goodQ [] := ⟨by rw [eachS_nil], fun x hx => by cases hx⟩
theorem eachS_low {c : Int} (h : c < 128) (r : List Int) : (eachS (c :: r)).2 = (eachS r).2 := by
 rw [eachS_snd (by simp), takeS_low h, Bool.true_and]
 unfold cutS
 rw [takeS_low h]; rfl
theorem goodQ_low {c : Int} {r : List Int} (h : c < 128) : goodQ (c :: r) ↔ ((32 ≤ c ∨ c = 10) ∧ c ≠ 127) ∧ goodQ r := by
 unfold goodQ
 rw [eachS_low h]
 constructor
 ·rintro ⟨h1, h2⟩
  exact ⟨h2 c (by simp), h1, fun x hx => h2 x (by simp [hx])⟩
 ·rintro ⟨h0, h1, h2⟩
  refine ⟨h1, fun x hx => ?_⟩
  rw [List.mem_cons] at hx
  rcases hx with rfl | hx
  ·exact h0
  ·exact h2 x hx
theorem item_plain {c : Int} (h39 : c ≠ 39) (h92 : c ≠ 92) (h10 : c ≠ 10) (hc : ¬ (c < 32 ∨ c = 127)) (r : List Int) :
  itemQ (c :: r) = if (takeS (c :: r)).2 = true then ((c :: r).take (takeS (c :: r)).1.toNat, (takeS (c :: r)).1.toNat, 0) else ([], 0, 10) := by
 rw [itemQ, if_neg h39, if_neg h92, if_neg h10, if_neg hc]
/-- what goes wrong where a text's beginning ends within an item -/
def cutQ (u : List Int) (j : Nat) : Prop := (itemQ u = ([], 1, -1) ∧ j = 1 ∧ u.getLast? = some 39) ∨ (itemQ u = ([], 0, 13) ∧ j = 1 ∧ u.getLast? = some 92) ∨ (itemQ u = ([], 0, 10) ∧ ∃ x, u.getLast? = some x ∧ 128 ≤ x)
/-- the first item of a good text -/
theorem good_step {c : Int} {r : List Int} (hg : goodQ (c :: r)) : ∃ v s, c :: r = v ++ s ∧ goodQ s ∧ 1 ≤ v.length ∧ (∀ z, itemQ (encsQ v ++ z) = (v, (encsQ v).length, 0)) ∧ ∀ j, 0 < j → j < (encsQ v).length → cutQ ((encsQ v).take j) j := by
 by_cases hlow : c < 128
 ·obtain ⟨hc, hr⟩ := (goodQ_low hlow).1 hg
  have e1 : encsQ [c] = encQ c := by simp [encsQ]
  refine ⟨[c], r, rfl, hr, by simp, ?_, ?_⟩
  ·intro z
   rw [e1]
   by_cases h1 : c = 39
   ·subst h1; rfl
   by_cases h2 : c = 92
   ·subst h2; rfl
   by_cases h3 : c = 10
   ·subst h3; rfl
   rw [encQ_plain h1 h2 h3, List.singleton_append, item_plain h1 h2 h3 (by omega), takeS_low hlow]; rfl
  ·intro j h0 hj
   rw [e1] at hj ⊢
   by_cases h1 : c = 39
   ·subst h1
    obtain rfl : j = 1 := by have : j < 2 := hj; omega
    exact .inl ⟨rfl, rfl, rfl⟩
   by_cases h2 : c = 92
   ·subst h2
    obtain rfl : j = 1 := by have : j < 2 := hj; omega
    exact .inr (.inl ⟨rfl, rfl, rfl⟩)
   by_cases h3 : c = 10
   ·subst h3
    obtain rfl : j = 1 := by have : j < 2 := hj; omega
    exact .inr (.inl ⟨rfl, rfl, rfl⟩)
   rw [encQ_plain h1 h2 h3] at hj
   have : j < 1 := hj
   omega
 ·obtain ⟨hv, hall⟩ := hg
  have hc := hall c (by simp)
  rw [eachS_snd (by simp), Bool.and_eq_true] at hv
  obtain ⟨ht, hcut⟩ := hv
  have htk := takeS_cons c r
  by_cases h0 : uLong c = 0
  ·rw [if_pos h0] at htk; rw [htk] at ht; cases ht
  rw [if_neg h0] at htk
  by_cases hrest : restOk (uLong c - 1) (uLo c) (uHi c) r = true
  rotate_left
  ·rw [if_neg hrest] at htk; rw [htk] at ht; cases ht
  rw [if_pos hrest] at htk
  obtain ⟨n, hn⟩ : ∃ n, uLong c = n + 1 := ⟨uLong c - 1, by omega⟩
  rw [hn, Nat.add_sub_cancel] at hrest
  obtain ⟨r1, r2, r3⟩ := restOk_take n _ _ r (uLo_ge c) hrest
  have hcutS : cutS (c :: r) = r.drop n := by
   unfold cutS; rw [htk, hn]; rfl
  rw [hcutS] at hcut
  have hhigh : ∀ x ∈ c :: r.take n, 128 ≤ x := by
   intro x hx
   rw [List.mem_cons] at hx
   rcases hx with rfl | hx
   ·omega
   ·exact r1 x hx
  refine ⟨c :: r.take n, r.drop n, by rw [List.cons_append, List.take_append_drop], ⟨hcut, fun x hx => hall x (by simp [List.mem_of_mem_drop hx])⟩, by simp, ?_, ?_⟩
  ·intro z
   have e : takeS (c :: (r.take n ++ z)) = (((n + 1 : Nat) : Int), true) := by
    rw [takeS_cons, if_neg h0, hn, Nat.add_sub_cancel, if_pos (r3 z)]
   rw [encsQ_high hhigh, List.cons_append, item_plain (by omega) (by omega) (by omega) (by omega), e]
   have hl : (r.take n).length = n := by rw [List.length_take]; omega
   have e2 : (c :: (r.take n ++ z)).take (n + 1) = c :: r.take n := by
    rw [List.take_succ_cons, List.take_append_of_le_length (by omega), List.take_take, Nat.min_self]
   show (if true = true then ((c :: (r.take n ++ z)).take (n + 1), n + 1, 0) else ([], 0, 10)) = _
   rw [if_pos rfl, e2, List.length_cons, hl]
  ·intro j h1 hj
   rw [encsQ_high hhigh] at hj ⊢
   obtain ⟨j, rfl⟩ : ∃ i, j = i + 1 := ⟨j - 1, by omega⟩
   have hl : (r.take n).length = n := by rw [List.length_take]; omega
   rw [List.length_cons, hl] at hj
   rw [List.take_succ_cons]
   refine .inr (.inr ⟨?_, ?_⟩)
   ·have e : takeS (c :: (r.take n).take j) = (1, false) := by
     rw [takeS_cons, if_neg h0, hn, Nat.add_sub_cancel, restOk_short _ _ _ _ (by rw [List.length_take]; omega)]; rfl
    rw [item_plain (by omega) (by omega) (by omega) (by omega), e]; rfl
   ·refine ⟨(c :: (r.take n).take j).getLast (by simp), List.getLast?_eq_some_getLast (by simp), hhigh _ ?_⟩
    have := List.getLast_mem (l := c :: (r.take n).take j) (by simp)
    rw [List.mem_cons] at this ⊢
    rcases this with h | h
    ·exact .inl h
    ·exact .inr (List.mem_of_mem_take h)
theorem textQ_item {v u : List Int} {n : Nat} (h : itemQ u = (v, n, 0)) : textQ u = (v ++ (textQ (u.drop n)).1, n + (textQ (u.drop n)).2.1, (textQ (u.drop n)).2.2) := by
 rw [textQ_go (by rw [h]), h]
/-- a good text, whatever stands behind -/
theorem textQ_good (N : Nat) : ∀ (s z : List Int), s.length < N → goodQ s → textQ (encsQ s ++ z) = (s ++ (textQ z).1, (encsQ s).length + (textQ z).2.1, (textQ z).2.2) := by
 induction N with
 | zero => intro s z h; omega
 | succ N ih =>
  intro s z hN hg
  cases s with
  | nil => simp [encsQ]
  | cons c r =>
   obtain ⟨v, s, e, hs, hv, hi, _⟩ := good_step hg
   rw [e] at hN ⊢
   rw [List.length_append] at hN
   rw [encsQ_append, List.append_assoc, textQ_item (hi _), List.drop_left, ih s z (by omega) hs]
   simp only [List.append_assoc, List.length_append, Nat.add_assoc]
/-- a text that is not good does not end as_ one -/
theorem textQ_bad (N : Nat) : ∀ (s t : List Int), s.length < N → ¬ goodQ s → (textQ (encsQ s ++ 39 :: t)).2.2 ≠ -1 := by
 induction N with
 | zero => intro s z h; omega
 | succ N ih =>
  intro s t hN hg
  cases s with
  | nil => exact absurd goodQ_nil hg
  | cons c r =>
   rw [List.length_cons] at hN
   have stop : ∀ {u : List Int} {e : Int}, itemQ u = ([], 0, e) → e ≠ 0 → e ≠ -1 → (textQ u).2.2 ≠ -1 := by
    intro u e h h0 h1
    rw [textQ_stop (by rw [h]; exact h0), h]; exact h1
   by_cases hlow : c < 128
   ·have go : ∀ v : List Int, (∀ z, itemQ (encQ c ++ z) = (v, (encQ c).length, 0)) → ((32 ≤ c ∨ c = 10) ∧ c ≠ 127) → (textQ (encsQ (c :: r) ++ 39 :: t)).2.2 ≠ -1 := by
     intro v h hc
     rw [encsQ_cons, List.append_assoc, textQ_item (h _), List.drop_left]
     exact ih r t (by omega) (fun hr => hg ((goodQ_low hlow).2 ⟨hc, hr⟩))
    by_cases h1 : c = 39
    ·subst h1; exact go [39] (fun z => rfl) (by omega)
    by_cases h2 : c = 92
    ·subst h2; exact go [92] (fun z => rfl) (by omega)
    by_cases h3 : c = 10
    ·subst h3; exact go [10] (fun z => rfl) (by omega)
    by_cases hc : c < 32 ∨ c = 127
    ·rw [encsQ_cons, encQ_plain h1 h2 h3]
     refine stop (e := 11) ?_ (by decide) (by decide)
     rw [List.append_assoc, List.singleton_append, itemQ, if_neg h1, if_neg h2, if_neg h3, if_pos hc]
    ·refine go [c] (fun z => ?_) (by omega)
     rw [encQ_plain h1 h2 h3, List.singleton_append, item_plain h1 h2 h3 hc, takeS_low hlow]; rfl
   ·rw [encsQ_cons, encQ_plain (by omega) (by omega) (by omega), List.append_assoc, List.singleton_append]
    by_cases ht : (takeS (c :: r)).2 = true
    rotate_left
    ·refine stop (e := 10) ?_ (by decide) (by decide)
     rw [item_plain (by omega) (by omega) (by omega) (by omega), takeS_enc, if_neg ht]
    have htk := takeS_cons c r
    by_cases h0 : uLong c = 0
    ·rw [if_pos h0] at htk; rw [htk] at ht; cases ht
    rw [if_neg h0] at htk
    by_cases hrest : restOk (uLong c - 1) (uLo c) (uHi c) r = true
    rotate_left
    ·rw [if_neg hrest] at htk; rw [htk] at ht; cases ht
    rw [if_pos hrest] at htk
    obtain ⟨n, hn⟩ : ∃ n, uLong c = n + 1 := ⟨uLong c - 1, by omega⟩
    rw [hn, Nat.add_sub_cancel] at hrest
    obtain ⟨r1, r2, r3⟩ := restOk_take n _ _ r (uLo_ge c) hrest
    have hl : (r.take n).length = n := by rw [List.length_take]; omega
    have er : encsQ r = r.take n ++ encsQ (r.drop n) := by
     conv => lhs; rw [← List.take_append_drop n r]
     rw [encsQ_append, encsQ_high r1]
    have e2 : (takeS (c :: (encsQ r ++ 39 :: t))).1.toNat = n + 1 := by rw [takeS_enc, htk, hn]; rfl
    have hi : itemQ (c :: (encsQ r ++ 39 :: t)) = ((c :: (encsQ r ++ 39 :: t)).take (n + 1), n + 1, 0) := by
     rw [item_plain (by omega) (by omega) (by omega) (by omega), e2, takeS_enc, if_pos ht]
    rw [textQ_item hi]
    have e3 : (c :: (encsQ r ++ 39 :: t)).drop (n + 1) = encsQ (r.drop n) ++ 39 :: t := by
     rw [List.drop_succ_cons, er, List.append_assoc, List.drop_append_of_le_length (by omega), List.drop_of_length_le (by omega), List.nil_append]
    rw [e3]
    refine ih (r.drop n) t (by rw [List.length_drop]; omega) (fun hr => hg ?_)
    have hcutS : cutS (c :: r) = r.drop n := by unfold cutS; rw [htk, hn]; rfl
    refine ⟨by rw [eachS_snd (by simp), ht, hcutS, hr.1]; rfl, fun x hx => ?_⟩
    rw [List.mem_cons] at hx
    rcases hx with rfl | hx
    ·omega
    ·rw [← List.take_append_drop n r, List.mem_append] at hx
     rcases hx with hx | hx
     ·have := r1 x hx; omega
     ·exact hr.2 x hx
/-- between quotes -/
def putQ (s : List Int) : List Int := 39 :: (encsQ s ++ [39])
theorem putQ_len (s : List Int) : (putQ s).length = (encsQ s).length + 2 := by simp [putQ]
theorem putQ_byte {s : List Int} (h : Bytes s) : Bytes (putQ s) := by
 intro x hx
 unfold putQ at hx
 rw [List.mem_cons, List.mem_append, List.mem_singleton] at hx
 rcases hx with rfl | hx | rfl
 ·omega
 ·exact encsQ_byte h x hx
 ·omega
theorem resQ_of {acc : List Int} {p : Nat} {x : List Int} {n : Nat} {u : List Int} {e : Int} (h : textQ u = (x, n, e)) : resQ acc p (textQ u) = if e = -1 then (acc ++ x, ((p + n : Nat) : Int), 0) else ([], ((p + n : Nat) : Int), e) := by rw [h]; rfl
theorem quoteS_39 (l : List Int) : quoteS (39 :: l) = resQ [] 1 (textQ l) := rfl
theorem quoteS_put {s : List Int} (h : goodQ s) (t : List Int) (ht : t.headD 0 ≠ 39) : quoteS (putQ s ++ t) = (s, ((putQ s).length : Int), 0) := by
 have e : textQ (39 :: t) = ([], 1, -1) := by
  have h1 : itemQ (39 :: t) = ([], 1, -1) := by rw [itemQ, if_pos rfl, if_neg ht]
  rw [textQ_stop (by rw [h1]; decide), h1]
 unfold putQ
 rw [List.cons_append, List.append_assoc, List.singleton_append, quoteS_39, textQ_good _ s (39 :: t) (Nat.lt_succ_self _) h, e]
 simp [resQ]
 omega
theorem textQ_status (N : Nat) : ∀ u : List Int, u.length < N → (textQ u).2.2 ≠ 0 := by
 induction N with
 | zero => intro u h; omega
 | succ N ih =>
  intro u hN
  by_cases h : (itemQ u).2.2 = 0
  ·rw [textQ_go h]
   have := (itemQ_le u).2.1 h
   have := (itemQ_le u).1
   exact ih _ (by rw [List.length_drop]; omega)
  ·rw [textQ_stop h]; exact h
theorem quoteS_bad {s : List Int} (h : ¬ goodQ s) : (quoteS (putQ s)).2.2 ≠ 0 := by
 have h1 := textQ_bad _ s [] (Nat.lt_succ_self _) h
 have h2 := textQ_status _ (encsQ s ++ 39 :: []) (Nat.lt_succ_self _)
 unfold putQ
 rw [quoteS_39]
 unfold resQ
 rw [if_neg h1]; exact h2
instance (s : List Int) : Decidable (goodQ s) := by unfold goodQ; infer_instance
/-- what Put gives: the bytes, and the error -/
def putS (s : List Int) : List Int × Int := if goodQ s then (putQ s, 0) else ([], 1)
end Go.Proofs.YtkicabbgcopjdaaDoor.P
namespace Go.Proofs.YtkicabbgcopjdaaDoor.P
set_option linter.unusedSimpArgs false
set_option linter.unusedVariables false
open Go.RowKit Go.Proofs.YtkicabbgcopjdaaDoor.P Go.Proofs.YtkicabbgcopjdaaDoorW.PrintWords Go.Proofs.YtkicabbgcopjdaaDoorW.PrintLast Go.Proofs.YtkicabbgcopjdaaDoorW.PrintMore
theorem rep_enc (l : List Int) : repS 10 [92, 110] (repS 39 [39, 39] (repS 92 [92, 92] l)) = encsQ l := by
 induction l with
 | nil => rfl
 | cons x r ih =>
  rw [repS_cons, repS_append, repS_append, ih, encsQ_cons]
  congr 1
  unfold encQ
  by_cases h1 : x = 92
  ·subst h1; rfl
  rw [if_neg h1]
  by_cases h2 : x = 39
  ·subst h2; rfl
  by_cases h3 : x = 10
  ·subst h3; rfl
  simp [repS, h1, h2, h3]
theorem u8s_of {l : List Int} (h : Bytes l) : u8s l = true := by
 unfold u8s
 rw [List.all_eq_true]
 intro x hx
 have := h x hx
 simpa using this
theorem rep_bytes {c : Int} {new l : List Int} (h : Bytes l) (hn : Bytes new) : Bytes (repS c new l) := by
 intro x hx
 obtain ⟨y, hy, hxy⟩ := List.mem_flatMap.1 hx
 split at hxy
 ·exact hn x hxy
 ·rw [List.mem_singleton] at hxy; subst hxy; exact h x hy
theorem rep_le {c a b : Int} (l : List Int) : (repS c [a, b] l).length ≤ 2 * l.length := by
 rw [repS_len c [a, b] l (by simp)]
 have := List.count_le_length (a := c) (l := l)
 simp
 omega
theorem replaceAll_eq {c a b : Int} {l : List Int} (hl : Bytes l) (hn : l.length ≤ 1000000) (hc : 0 ≤ c ∧ c < 256) : bytes_ReplaceAll.f l [c] [a, b] = some (repS c [a, b] l) := by
 unfold bytes_ReplaceAll.f
 rw [if_pos ⟨rfl, by simp, by simp, hn, hc, u8s_of hl⟩]; rfl
theorem concat_ev (m : List Int) (hm : m.length ≤ 100000) : Ev (fun k => slices_Concat_byte_byte.f k [[39], m, [39]]) (39 :: (m ++ [39])) := by
 unfold slices_Concat_byte_byte.f
 have w0 : wrap64 ((0 : Int) + ((rd_L1 [[39], m, [39]] 0).length : Int)) = 1 := by show wrap64 ((0 : Int) + 1) = 1; rw [w64 (by omega) (by omega)]; rfl
 have w1 : wrap64 ((1 : Int) + ((rd_L1 [[39], m, [39]] 1).length : Int)) = 1 + (m.length : Int) := by show wrap64 (1 + (m.length : Int)) = _; rw [w64 (by omega) (by omega)]
 have w2 : wrap64 (1 + (m.length : Int) + ((rd_L1 [[39], m, [39]] 2).length : Int)) = (m.length : Int) + 2 := by show wrap64 (1 + (m.length : Int) + 1) = _; rw [w64 (by omega) (by omega)]; omega
 refine Ev.step (fun k => slices_Concat_byte_byte.l0.eq_2 ..) (ev_if (by simp) (ev_if (by simp) (ev_if (by simp) ?_)))
 rw [w0]
 refine ev_else (by simp) (Ev.step (fun k => slices_Concat_byte_byte.l0.eq_2 ..) ?_)
 rw [show wrap64 (0 + 1) = (1 : Int) from w64 (by decide) (by decide)]
 refine ev_if (by simp) (ev_if (by simp) (ev_if (by simp) ?_))
 rw [w1]
 refine ev_else (by omega) (Ev.step (fun k => slices_Concat_byte_byte.l0.eq_2 ..) ?_)
 rw [show wrap64 (1 + 1) = (2 : Int) from w64 (by decide) (by decide)]
 refine ev_if (by simp) (ev_if (by simp) (ev_if (by simp) ?_))
 rw [w2]
 refine ev_else (by omega) (Ev.step (fun k => slices_Concat_byte_byte.l0.eq_2 ..) ?_)
 rw [show wrap64 (2 + 1) = (3 : Int) from w64 (by decide) (by decide)]
 refine ev_else (by simp) ?_
 refine ev_same (y := []) (by unfold slices_Grow_byte_byte.f; rw [if_pos ⟨rfl, by omega, by omega⟩]) ?_
 refine Ev.step (fun k => slices_Concat_byte_byte.l1.eq_2 ..) (ev_if (by simp) (ev_if (by simp) (ev_if (by simp) (ev_if ?_ ?_))))
 ·show ([] : List Int).length + [(39 : Int)].length < 140737488355328
  simp
 rw [show ([] : List Int) ++ rd_L1 [[39], m, [39]] 0 = [39] from rfl, show wrap64 (0 + 1) = (1 : Int) from w64 (by decide) (by decide)]
 refine Ev.step (fun k => slices_Concat_byte_byte.l1.eq_2 ..) (ev_if (by simp) (ev_if (by simp) (ev_if (by simp) (ev_if ?_ ?_))))
 ·show ([(39 : Int)] : List Int).length + m.length < 140737488355328
  simp; omega
 rw [show ([39] : List Int) ++ rd_L1 [[39], m, [39]] 1 = 39 :: m from rfl, show wrap64 (1 + 1) = (2 : Int) from w64 (by decide) (by decide)]
 refine Ev.step (fun k => slices_Concat_byte_byte.l1.eq_2 ..) (ev_if (by simp) (ev_if (by simp) (ev_if (by simp) (ev_if ?_ ?_))))
 ·show (39 :: m).length + [(39 : Int)].length < 140737488355328
  simp; omega
 rw [show (39 :: m) ++ rd_L1 [[39], m, [39]] 2 = 39 :: (m ++ [39]) from rfl, show wrap64 (2 + 1) = (3 : Int) from w64 (by decide) (by decide)]
 exact Ev.step (fun k => slices_Concat_byte_byte.l1.eq_2 ..) (ev_else (by simp) (Ev.now _))
theorem putS_if (l : List Int) : (if (quoteS (putQ l)).2.2 = 0 then (putQ l, (0 : Int)) else ([], 1)) = putS l := by
 unfold putS
 by_cases h : goodQ l
 ·have := quoteS_put h [] (by simp)
  rw [List.append_nil] at this
  rw [if_pos h, this, if_pos rfl]
 ·rw [if_neg h, if_neg (quoteS_bad h)]
theorem put_ev (l : List Int) (hl : Bytes l) (hn : l.length ≤ 10000) : Ev (fun k => quote_Put.f k l) (putS l) := by
 have b2 : ∀ a b : Int, 0 ≤ a ∧ a < 256 → 0 ≤ b ∧ b < 256 → Bytes [a, b] := by
  intro a b ha hb x hx
  simp at hx
  rcases hx with rfl | rfl <;> assumption
 have h1 := rep_bytes (c := 92) hl (b2 92 92 (by omega) (by omega))
 have h2 := rep_bytes (c := 39) h1 (b2 39 39 (by omega) (by omega))
 have l1 := rep_le (c := 92) (a := 92) (b := 92) l
 have l2 := rep_le (c := 39) (a := 39) (b := 39) (repS 92 [92, 92] l)
 have le := encsQ_len l
 unfold quote_Put.f
 refine ev_same (replaceAll_eq hl (by omega) (by omega)) (ev_same (replaceAll_eq h1 (by omega) (by omega)) (ev_same (replaceAll_eq h2 (by omega) (by omega)) ?_))
 rw [rep_enc]
 refine Ev.bind (concat_ev _ (by omega)) ?_
 have hq : Bytes (putQ l) := putQ_byte hl
 have hlen := putQ_len l
 refine Ev.bind (quote_ev (putQ l) hq (by omega)) ?_
 rw [← putS_if l]
 exact ev_ite (fun _ => Ev.now _) (fun _ => Ev.now _)
end Go.Proofs.YtkicabbgcopjdaaDoor.P
namespace Go.Proofs.YtkicabbgcopjdaaDoor.Pure
set_option linter.unusedSimpArgs false
set_option linter.unusedVariables false
open Go.RowKit Go.Proofs.YtkicabbgcopjdaaDoor.P Go.Proofs.YtkicabbgcopjdaaDoorW.PrintWords Go.Proofs.YtkicabbgcopjdaaDoorW.PrintLast
theorem take_odd {g O B : List Int} {e : Int} (hg : goodQ g) (hgb : Bytes g) (hgn : g.length ≤ 100) (hO : Bytes O) (hOn : O.length ≤ 2) (hB : Bytes B) (hBn : B.length ≤ 100) (hi : itemQ (O ++ B) = ([], 0, e)) (h0 : e ≠ 0) (h1 : e ≠ -1) :
  Ev (fun k => quote_Take.f k (((39 :: encsQ g) ++ O) ++ B)) (([] : List Int), (((encsQ g).length + 1 : Nat) : Int), e) := by
 have hl := (encsQ_len g).2
 have hb : Bytes (((39 :: encsQ g) ++ O) ++ B) := qapp (qapp (fun x hx => by
  rcases List.mem_cons.1 hx with rfl | hx
  ·omega
  ·exact encsQ_byte hgb x hx) hO) hB
 refine ev_eq (quote_ev _ hb (by simp; omega)) ?_
 rw [show ((39 :: encsQ g) ++ O) ++ B = 39 :: (encsQ g ++ (O ++ B)) by simp, quoteS_39]
 have ht : textQ (O ++ B) = ([], 0, e) := by rw [textQ_stop (by rw [hi]; exact h0), hi]
 rw [resQ_of (textQ_good _ g (O ++ B) (Nat.lt_succ_self _) hg), ht]
 simp only
 rw [if_neg h1]
 simp
 omega
theorem first_all (g : List Int) (hg : goodQ g) (hgb : Bytes g) (hgn : g.length ≤ 100) (m : List Int) (hm : Bytes (m.take 100)) (a : Int) (ha : 0 ≤ a ∧ a < 256) : Ev (fun k => tmesislaw04_QuoteFirst.j0 k a m true (putQ g)) true := by
 have hl := (encsQ_len g).2
 have hp := putQ_len g
 have hml : (m.take 100).length ≤ 100 := by rw [List.length_take]; omega
 have fm := few_eq m
 generalize m.take 100 = B at *
 have w : wrap64 (((putQ g).length : Int) - 1) = (((encsQ g).length + 1 : Nat) : Int) := by rw [w64 (by omega) (by omega)]; omega
 have htk : (putQ g).take ((encsQ g).length + 1) = 39 :: encsQ g := by
  unfold putQ
  rw [List.take_succ_cons, List.take_left]
 have hlen : (39 :: encsQ g).length = (encsQ g).length + 1 := rfl
 have t0 := Int.tmod_nonneg 5 ha.1
 have t1 := Int.tmod_lt_of_pos a (show (0 : Int) < 5 by decide)
 refine Ev.step (fun k => tmesislaw04_QuoteFirst.j0.eq_2 ..) (ev_else (by omega) (ev_let (ev_if (by rw [w]; omega) (ev_if (by rw [w]; omega) ?_))))
 rw [w, Int.toNat_natCast, htk]
 refine ev_let (ev_if (by simp; omega) (ev_let ?_))
 rw [List.nil_append]
 have b2 : Bytes [92, 116] := fun x hx => by simp at hx; omega
 have b1 : ∀ c : Int, 0 ≤ c ∧ c < 256 → Bytes [c] := fun c h x hx => by rw [List.mem_singleton.1 hx]; exact h
 by_cases e0 : Int.tmod a 5 = 0
 ·refine ev_if e0 (ev_if (by rw [hlen]; omega) (ev_let (ev_same fm ?_)))
  rw [show Go.Proofs.YtkicabbgcopjdaaDoorW.PrintWords.bytesOf (⟨#[92, 116]⟩ : ByteArray) = [92, 116] from rfl]
  refine ev_if (by simp; omega) (Ev.bind (take_odd (e := 13) hg hgb hgn b2 (by decide) hm hml (by simp [itemQ]) (by decide) (by decide)) (ev_if rfl (ev_if rfl (ev_if rfl ?_))))
  exact Ev.step (fun k => tmesislaw04_QuoteFirst.j1.eq_2 ..) (ev_now rfl)
 refine ev_else e0 ?_
 by_cases e1 : Int.tmod a 5 = 1
 ·refine ev_if e1 (ev_if (by rw [hlen]; omega) (ev_let (ev_same fm ?_)))
  rw [show Go.Proofs.YtkicabbgcopjdaaDoorW.PrintWords.bytesOf (⟨#[10]⟩ : ByteArray) = [10] from rfl]
  refine ev_if (by simp; omega) (Ev.bind (take_odd (e := 12) hg hgb hgn (b1 10 (by decide)) (by decide) hm hml (by simp [itemQ]) (by decide) (by decide)) (ev_if rfl (ev_if rfl (ev_if rfl ?_))))
  exact Ev.step (fun k => tmesislaw04_QuoteFirst.j2.eq_2 ..) (ev_now rfl)
 refine ev_else e1 ?_
 by_cases e2 : Int.tmod a 5 = 2
 ·refine ev_if e2 (ev_if (by rw [hlen]; omega) (ev_let (ev_same fm ?_)))
  rw [show Go.Proofs.YtkicabbgcopjdaaDoorW.PrintWords.bytesOf (⟨#[1]⟩ : ByteArray) = [1] from rfl]
  refine ev_if (by simp; omega) (Ev.bind (take_odd (e := 11) hg hgb hgn (b1 1 (by decide)) (by decide) hm hml (by simp [itemQ]) (by decide) (by decide)) (ev_if rfl (ev_if rfl (ev_if rfl ?_))))
  exact Ev.step (fun k => tmesislaw04_QuoteFirst.j3.eq_2 ..) (ev_now rfl)
 refine ev_else e2 ?_
 by_cases e3 : Int.tmod a 5 = 3
 ·refine ev_if e3 (ev_if (by rw [hlen]; omega) (ev_let (ev_same fm ?_)))
  rw [show Go.Proofs.YtkicabbgcopjdaaDoorW.PrintWords.bytesOf (⟨#[127]⟩ : ByteArray) = [127] from rfl]
  refine ev_if (by simp; omega) (Ev.bind (take_odd (e := 11) hg hgb hgn (b1 127 (by decide)) (by decide) hm hml (by simp [itemQ]) (by decide) (by decide)) (ev_if rfl (ev_if rfl (ev_if rfl ?_))))
  exact Ev.step (fun k => tmesislaw04_QuoteFirst.j4.eq_2 ..) (ev_now rfl)
 have e4 : Int.tmod a 5 = 4 := by omega
 refine ev_else e3 (ev_if e4 (ev_if (by rw [hlen]; omega) (ev_let (ev_same fm ?_))))
 rw [show Go.Proofs.YtkicabbgcopjdaaDoorW.PrintWords.bytesOf (⟨#[255]⟩ : ByteArray) = [255] from rfl]
 have hu : ∀ r : List Int, (takeS (255 :: r)).2 = false := fun r => by rw [takeS_cons]; rfl
 refine ev_if (by simp; omega) (Ev.bind (take_odd (e := 10) hg hgb hgn (b1 255 (by decide)) (by decide) hm hml (by simp [itemQ, hu]) (by decide) (by decide)) (ev_if rfl (ev_if rfl (ev_if rfl ?_))))
 exact Ev.step (fun k => tmesislaw04_QuoteFirst.j5.eq_2 ..) (ev_now rfl)
theorem QuoteFirst : tmesislaw04_QuoteFirst.Pure := by
 intro l a m _ _ hb ha _ _ hm
 have hb := (bytes_wf hb).take 100
 have hm := (bytes_wf hm).take 100
 have hl : (l.take 100).length ≤ 100 := by rw [List.length_take]; omega
 apply Ev.rounds
 unfold tmesislaw04_QuoteFirst.f
 refine Ev.bind shown_ev (ev_same (few_eq l) (Ev.bind (put_ev _ hb (by omega)) ?_))
 unfold putS
 by_cases hg : goodQ (l.take 100)
 ·rw [if_pos hg]
  exact ev_if rfl (first_all _ hg hb hl m hm a (u8_wf ha))
 ·rw [if_neg hg]
  exact ev_else (by decide) (first_all [] goodQ_nil (fun x hx => (by cases hx)) (by decide) m hm a (u8_wf ha))
end Go.Proofs.YtkicabbgcopjdaaDoor.Pure
