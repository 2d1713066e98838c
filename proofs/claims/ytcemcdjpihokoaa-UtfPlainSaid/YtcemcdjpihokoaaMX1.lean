/- Part of the proof: what the theorem needs of this text. -/
import Derived.Test.YtcemcdjpihokoaaKPx1
import Derived.Test.YtcemcdjpihokoaaKPx2
import Derived.Test.YtcemcdjpihokoaaKPx3
import Derived.Test.YtcemcdjpihokoaaMW1
namespace Go.Proofs.Ytcemcdjpihokoaa.P
set_option linter.unusedSimpArgs false
set_option linter.unusedVariables false
open Go.RowKit Go.Proofs.YtcemcdjpihokoaaW.PrintWords Go.Proofs.YtcemcdjpihokoaaW.PrintLast Go.Proofs.YtcemcdjpihokoaaW.PrintMore
def uLo (c : Int) : Int := if c = 224 then 160 else if c = 240 then 144 else 128
def uHi (c : Int) : Int := if c = 237 then 159 else if c = 244 then 143 else 191
/-- how many bytes a sequence with a first byte has; 0: none -/
def uLong (c : Int) : Nat := if c < 128 then 1 else if c < 194 ∨ c > 244 then 0 else if c < 224 then 2 else if c < 240 then 3 else 4
/-- so many bytes more, the first one of them from lo to hi, the others 128 to 191 -/
def restOk : Nat → Int → Int → List Int → Bool
 | 0, _, _, _ => true
 | _ + 1, _, _, [] => false
 | n + 1, lo, hi, a :: t => decide (lo ≤ a ∧ a ≤ hi) && restOk n 128 191 t
/-- how many bytes the first sequence has, and whether it is one -/
def takeS : List Int → Int × Bool
 | [] => (0, false)
 | c :: r => if uLong c = 0 then (1, false) else if restOk (uLong c - 1) (uLo c) (uHi c) r then ((uLong c : Int), true) else (1, false)
theorem takeS_cons (c : Int) (r : List Int) : takeS (c :: r) = if uLong c = 0 then (1, false) else if restOk (uLong c - 1) (uLo c) (uHi c) r then ((uLong c : Int), true) else (1, false) := rfl
theorem restOk_cons (n : Nat) (lo hi a : Int) (t : List Int) : restOk (n + 1) lo hi (a :: t) = (decide (lo ≤ a ∧ a ≤ hi) && restOk n 128 191 t) := rfl
theorem restOk_short (n : Nat) : ∀ (lo hi : Int) (r : List Int), r.length < n → restOk n lo hi r = false := by
 induction n with
 | zero => intro _ _ r h; omega
 | succ n ih =>
  intro lo hi r h
  cases r with
  | nil => rfl
  | cons a t => rw [restOk_cons, ih _ _ t (by simp at h; omega)]; simp
def beh (c : Int) : Int × Int × Int := if c < 128 then (0, 0, 0) else if c < 194 ∨ c > 244 then (0, 0, -1) else (uLo c, uHi c, (uLong c : Int) - 1)
theorem behind_eq (k : Nat) (c : Int) : utf_behind.f (k + 1) c = some (beh c) := by
 unfold utf_behind.f beh uLo uHi uLong
 simp only [utf_behind.j0]
 by_cases h1 : c < 128
 ·simp [h1]
 by_cases h2 : c < 194
 ·simp [h1, h2]
 by_cases h3 : c > 244
 ·simp [h1, h2, h3]
 by_cases h4 : c < 224
 ·have : c ≠ 224 := by omega
  have : c ≠ 240 := by omega
  have : c ≠ 237 := by omega
  have : c ≠ 244 := by omega
  simp [*]
 by_cases h5 : c = 224
 ·subst h5; simp
 by_cases h6 : c = 237
 ·subst h6; simp
 by_cases h7 : c < 240
 ·have : c ≠ 240 := by omega
  have : c ≠ 244 := by omega
  simp [*]
 by_cases h8 : c = 240
 ·subst h8; simp
 by_cases h9 : c = 244
 ·subst h9; simp
 simp [*]
theorem w1 {i : Int} (h0 : -1 ≤ i) (h1 : i ≤ 9223372036854775806) : wrap64 (i + 1) = i + 1 := by unfold wrap64; omega
theorem wl0 (k : Nat) (l : List Int) (m i lo hi q : Int) (h : ¬ i < m) (h0 : -1 ≤ q) (h1 : q ≤ 100) : utf_Take.l0 (k + 1) l m i lo hi q = some (q + 1, true) := by
 simp only [utf_Take.l0]; rw [if_neg h, w1 h0 (by omega)]
theorem wl1 (k : Nat) (l : List Int) (m : Int) (i : Nat) (lo hi q : Int) (h : (i : Int) < m) (h2 : i + 1 < l.length) (h3 : i < 10) :
  utf_Take.l0 (k + 1) l m (i : Int) lo hi q = if lo ≤ l.getD (i + 1) 0 ∧ l.getD (i + 1) 0 ≤ hi then utf_Take.l0 k l m ((i + 1 : Nat) : Int) 128 191 q else some (1, false) := by
 have e : wrap64 ((i : Int) + 1) = ((i + 1 : Nat) : Int) := by rw [w1 (by omega) (by omega)]; omega
 simp only [utf_Take.l0]
 rw [if_pos h, e, if_pos (by omega), if_pos (by omega)]
 have er : rd l ((i + 1 : Nat) : Int) = l.getD (i + 1) 0 := rfl
 rw [er]
 by_cases a : l.getD (i + 1) 0 < lo
 ·rw [if_pos a, if_neg (by omega)]
 ·rw [if_neg a]
  by_cases b : l.getD (i + 1) 0 > hi
  ·rw [if_pos b, if_neg (by omega)]
  ·rw [if_neg b, if_pos (by omega)]
theorem wl (d : Nat) : ∀ (k : Nat) (l : List Int) (m : Int) (i : Nat) (lo hi q : Int), m = ((i + d : Nat) : Int) → d < k → i + d < l.length → i + d < 10 → -1 ≤ q → q ≤ 100 →
  utf_Take.l0 k l m (i : Int) lo hi q = some (if restOk d lo hi (l.drop (i + 1)) then (q + 1, true) else (1, false)) := by
 induction d with
 | zero =>
  intro k l m i lo hi q hm hk h1 h2 h3 h4
  obtain ⟨k, rfl⟩ : ∃ j, k = j + 1 := ⟨k - 1, by omega⟩
  rw [wl0 _ _ _ _ _ _ _ (by omega) h3 h4]
  rfl
 | succ d ih =>
  intro k l m i lo hi q hm hk h1 h2 h3 h4
  obtain ⟨k, rfl⟩ : ∃ j, k = j + 1 := ⟨k - 1, by omega⟩
  rw [wl1 _ _ _ _ _ _ _ (by omega) (by omega) (by omega), ih k l m (i + 1) 128 191 q (by omega) (by omega) (by omega) (by omega) h3 h4]
  rw [List.drop_eq_getElem_cons (i := i + 1) (by omega)]
  have e : l.getD (i + 1) 0 = l[i + 1] := by simp [List.getD_eq_getElem?_getD, List.getElem?_eq_getElem (show i + 1 < l.length by omega)]
  rw [e]
  rw [restOk_cons]
  by_cases A : lo ≤ l[i + 1] ∧ l[i + 1] ≤ hi
  ·rw [if_pos A, decide_eq_true A, Bool.true_and]
  ·rw [if_neg A, decide_eq_false A, Bool.false_and]; rfl
theorem uLong_le (c : Int) : uLong c ≤ 4 := by
 unfold uLong
 repeat' split
 all_goals omega
theorem take_ten (l : List Int) : utf_Take.f 10 l = some (takeS l) := by
 unfold utf_Take.f
 cases l with
 | nil => simp [takeS]
 | cons c r =>
  rw [if_neg (by simp; omega), if_pos (by simp)]
  have e0 : rd (c :: r) 0 = c := rfl
  rw [e0, behind_eq]
  simp only [Option.bind_some]
  have go : ∀ (lo hi : Int) (n : Nat), n < 4 → utf_Take.j0 10 (c :: r) (decide (((c :: r).length : Int) ≤ (n : Int))) lo hi (n : Int) = some (if restOk n lo hi r then ((n : Int) + 1, true) else (1, false)) := by
   intro lo hi n hn
   simp only [utf_Take.j0]
   by_cases hs : ((c :: r).length : Int) ≤ (n : Int)
   ·rw [if_pos (decide_eq_true hs), restOk_short n lo hi r (by simp at hs; omega)]
    rfl
   ·rw [if_neg (by rw [decide_eq_false hs]; simp)]
    exact wl n 9 (c :: r) (n : Int) 0 lo hi (n : Int) (by omega) (by omega) (by simp at hs ⊢; omega) (by omega) (by omega) (by omega)
  rw [takeS_cons]
  unfold beh
  by_cases h1 : c < 128
  ·have e : uLong c = 1 := by unfold uLong; rw [if_pos h1]
   rw [e, if_pos h1, if_neg (show ¬ (0 : Int) < 0 by omega)]
   exact go 0 0 0 (by omega)
  by_cases h2 : c < 194 ∨ c > 244
  ·have e : uLong c = 0 := by unfold uLong; rw [if_neg h1, if_pos h2]
   rw [e, if_neg h1, if_pos h2, if_pos (show (-1 : Int) < 0 by omega)]
   simp [utf_Take.j0]
  rw [if_neg h1, if_neg h2]
  have hL : uLong c ≠ 0 := by
   unfold uLong; rw [if_neg h1, if_neg h2]
   repeat' split
   all_goals omega
  obtain ⟨n, hn⟩ : ∃ n, uLong c = n + 1 := ⟨uLong c - 1, by omega⟩
  have hle := uLong_le c
  have e2 : ((n + 1 : Nat) : Int) - 1 = (n : Int) := by omega
  rw [hn, e2, if_neg (show ¬ (n : Int) < 0 by omega), if_neg (show ¬ n + 1 = 0 by omega), Nat.add_sub_cancel]
  exact go _ _ n (by omega)
theorem take_ev (l : List Int) : Ev (fun k => utf_Take.f k l) (takeS l) := Ev.of (fun k => utf_Take.mono l k) (take_ten l)
theorem restOk_len (n : Nat) : ∀ (lo hi : Int) (r : List Int), restOk n lo hi r = true → n ≤ r.length := by
 intro lo hi r h
 rcases Nat.lt_or_ge r.length n with h2 | h2
 ·rw [restOk_short n lo hi r h2] at h; cases h
 ·exact h2
theorem take_pos (c : Int) (r : List Int) : 1 ≤ (takeS (c :: r)).1 ∧ (takeS (c :: r)).1 ≤ ((c :: r).length : Int) ∧ (takeS (c :: r)).1 ≤ 4 ∧ ((takeS (c :: r)).2 = false → (takeS (c :: r)).1 = 1) := by
 have hle := uLong_le c
 simp only [takeS]
 by_cases h0 : uLong c = 0
 ·rw [if_pos h0]; simp; omega
 ·rw [if_neg h0]
  by_cases h1 : restOk (uLong c - 1) (uLo c) (uHi c) r = true
  ·have := restOk_len _ _ _ _ h1
   rw [if_pos h1]; simp; omega
  ·rw [if_neg h1]; simp; omega
end Go.Proofs.Ytcemcdjpihokoaa.P
namespace Go.Proofs.Ytcemcdjpihokoaa.P
set_option linter.unusedSimpArgs false
set_option linter.unusedVariables false
open Go.RowKit Go.Proofs.YtcemcdjpihokoaaW.PrintWords Go.Proofs.YtcemcdjpihokoaaW.PrintLast Go.Proofs.YtcemcdjpihokoaaW.PrintMore
section
variable {α β : Type}
theorem ev_if {c : Prop} [Decidable c] {a b : Nat → Option α} {r : α} (hc : c) (h : Ev a r) : Ev (fun k => if c then a k else b k) r := by simpa only [if_pos hc] using h
theorem ev_else {c : Prop} [Decidable c] {a b : Nat → Option α} {r : α} (hc : ¬ c) (h : Ev b r) : Ev (fun k => if c then a k else b k) r := by simpa only [if_neg hc] using h
theorem ev_let {y : β} {f : Nat → β → Option α} {r : α} (h : Ev (fun k => f k y) r) : Ev (fun k => (some y).bind (f k)) r := h
theorem ev_same {o : Option β} {y : β} {f : Nat → β → Option α} {r : α} (ho : o = some y) (h : Ev (fun k => f k y) r) : Ev (fun k => o.bind (f k)) r := by subst ho; exact h
theorem ev_eq {g : Nat → Option α} {r r' : α} (h : Ev g r) (e : r = r') : Ev g r' := e ▸ h
theorem ev_now {r r' : α} (e : r = r') : Ev (fun _ => some r) r' := e ▸ Ev.now r
end
theorem w64 {i : Int} (h0 : -9223372036854775808 ≤ i) (h1 : i ≤ 9223372036854775807) : wrap64 i = i := by unfold wrap64; omega
theorem mn_le (n : Nat) (m : Int) (hm : 0 ≤ m) : (mn (n : Int) m).toNat = min n m.toNat := by unfold mn; split <;> omega
end Go.Proofs.Ytcemcdjpihokoaa.P
namespace Go.Proofs.Ytcemcdjpihokoaa.P
set_option linter.unusedSimpArgs false
set_option linter.unusedVariables false
open Go.RowKit Go.Proofs.YtcemcdjpihokoaaW.PrintWords Go.Proofs.YtcemcdjpihokoaaW.PrintLast Go.Proofs.YtcemcdjpihokoaaW.PrintMore
def cutS (l : List Int) : List Int := l.drop (takeS l).1.toNat
theorem cutS_lt {l : List Int} (h : l ≠ []) : (cutS l).length < l.length := by
 cases l with
 | nil => exact absurd rfl h
 | cons c r =>
  have := take_pos c r
  unfold cutS
  rw [List.length_drop]
  simp at this ⊢
  omega
def eachS (l : List Int) : Nat × Bool := if h : l = [] then (0, true) else ((eachS (cutS l)).1 + 1, (takeS l).2 && (eachS (cutS l)).2)
termination_by l.length
decreasing_by all_goals exact cutS_lt h
theorem eachS_nil : eachS [] = (0, true) := by rw [eachS]; simp
theorem eachS_cons {l : List Int} (h : l ≠ []) : eachS l = ((eachS (cutS l)).1 + 1, (takeS l).2 && (eachS (cutS l)).2) := by rw [eachS, dif_neg h]
theorem each_loop (l : List Int) : ∀ (n : Int) (b : Bool), 0 ≤ n → n + l.length ≤ 9223372036854775807 → Ev (fun k => utf_each.l0 k l n b) (n + ((eachS l).1 : Int), b && (eachS l).2) := by
 intro n b h0 hn
 refine Ev.step (fun k => utf_each.l0.eq_2 ..) ?_
 by_cases h : l = []
 ·subst h
  refine ev_else (by simp) ?_
  rw [eachS_nil]
  exact ev_now (by simp)
 ·have hlt := cutS_lt h
  have hlen : 0 < l.length := by cases l with
   | nil => exact absurd rfl h
   | cons c r => simp
  refine ev_if (by omega) ?_
  refine Ev.bind (take_ev l) ?_
  have hp : 1 ≤ (takeS l).1 ∧ (takeS l).1 ≤ (l.length : Int) := by
   cases l with
   | nil => exact absurd rfl h
   | cons c r => exact ⟨(take_pos c r).1, (take_pos c r).2.1⟩
  refine ev_if (by omega) (ev_if hp.2 (ev_let ?_))
  have ih := each_loop (cutS l) (n + 1) 
  rw [eachS_cons h, show wrap64 (n + 1) = n + 1 from w64 (by omega) (by omega)]
  cases b with
  | true =>
   refine ev_if rfl ?_
   refine ev_eq (ih (takeS l).2 (by omega) (by omega)) ?_
   simp; omega
  | false =>
   refine ev_else (by simp) ?_
   refine ev_eq (ih false (by omega) (by omega)) ?_
   simp; omega
termination_by l.length
decreasing_by exact hlt
theorem each_ev (l : List Int) (hl : l.length ≤ 1000000) : Ev (fun k => utf_each.f k l) (((eachS l).1 : Int), (eachS l).2) := by
 refine ev_eq (each_loop l 0 true (by omega) (by omega)) ?_
 simp
theorem valid_ev (l : List Int) (hl : l.length ≤ 1000000) : Ev (fun k => utf_Valid.f k l) (eachS l).2 := Ev.bind (each_ev l hl) (Ev.now _)
theorem count_ev (l : List Int) (hl : l.length ≤ 1000000) : Ev (fun k => utf_Count.f k l) ((eachS l).1 : Int) := Ev.bind (each_ev l hl) (Ev.now _)
theorem shown_ev : Ev (fun k => tmesislaw01_shown.f k) true := Ev.of (fun k => tmesislaw01_shown.mono k) (k := 20) (by decide +kernel)
theorem few_eq (l : List Int) : tmesislaw01_few.f l = some (l.take 200) := by
 unfold tmesislaw01_few.f
 have h1 : 0 ≤ mn (l.length : Int) 200 := by unfold mn; split <;> omega
 have h2 : mn (l.length : Int) 200 ≤ (l.length : Int) := by unfold mn; split <;> omega
 rw [if_pos h1, if_pos h2, mn_le _ _ (by omega)]
 congr 1
 rw [Nat.min_comm, ← List.take_take, List.take_length]
 rfl
end Go.Proofs.Ytcemcdjpihokoaa.P
namespace Go.Proofs.Ytcemcdjpihokoaa.Pure
set_option linter.unusedSimpArgs false
set_option linter.unusedVariables false
open Go.RowKit Go.Proofs.Ytcemcdjpihokoaa.P Go.Proofs.YtcemcdjpihokoaaW.PrintWords Go.Proofs.YtcemcdjpihokoaaW.PrintLast
theorem u8w {x : Int} (h : (Lit.int .u8 x).wf = true) : 0 ≤ x ∧ x < 256 := by
 simp [Lit.wf, IntKind.min, IntKind.max, IntKind.signed, IntKind.bits] at h
 omega
theorem every {p : Int → Prop} (h : ∀ n : Nat, n < 256 → p (n : Int)) {c : Int} (hc : 0 ≤ c ∧ c < 256) : p c := by
 have := h c.toNat (by omega)
 rwa [Int.toNat_of_nonneg hc.1] at this
def low (c : Int) : Int := Go.bits .and .u8 c 127
def six (c : Int) : Int := Go.bits .and .u8 c 63
theorem low_all : ∀ n : Nat, n < 256 → 0 ≤ low (n : Int) ∧ low (n : Int) < 128 := by decide +kernel
theorem six_all : ∀ n : Nat, n < 256 → 0 ≤ six (n : Int) ∧ six (n : Int) < 64 := by decide +kernel
theorem low_bd {c : Int} (h : 0 ≤ c ∧ c < 256) : 0 ≤ low c ∧ low c < 128 := every (p := fun c => 0 ≤ low c ∧ low c < 128) low_all h
theorem six_bd {c : Int} (h : 0 ≤ c ∧ c < 256) : 0 ≤ six c ∧ six c < 64 := every (p := fun c => 0 ≤ six c ∧ six c < 64) six_all h
theorem take_one {c : Int} (h : c < 128) (r : List Int) : takeS (c :: r) = (1, true) := by
 have e : uLong c = 1 := by unfold uLong; rw [if_pos h]
 rw [takeS_cons, e]; rfl
theorem plain_each {a : List Int} (ha : ∀ x ∈ a, x < 128) (s : List Int) : eachS (a ++ s) = (a.length + (eachS s).1, (eachS s).2) := by
 induction a with
 | nil => simp
 | cons c a ih =>
  have e := take_one (ha c (by simp)) (a ++ s)
  have hc : cutS (c :: (a ++ s)) = a ++ s := by unfold cutS; rw [e]; rfl
  rw [List.cons_append, eachS_cons (by simp), hc, e, ih (fun x hx => ha x (by simp [hx]))]
  simp only [List.length_cons, Bool.true_and, Prod.mk.injEq, and_true]
  omega
theorem odd_each {x : Int} (h0 : 128 ≤ x) (h1 : x < 192) (s : List Int) : eachS (x :: s) = ((eachS s).1 + 1, false) := by
 have u : uLong x = 0 := by unfold uLong; rw [if_neg (by omega), if_pos (by omega)]
 have e : takeS (x :: s) = (1, false) := by rw [takeS_cons, u]; rfl
 have hc : cutS (x :: s) = s := by unfold cutS; rw [e]; rfl
 rw [eachS_cons (by simp), hc, e]; rfl
theorem set_low (l : List Int) (i : Nat) (h : i < l.length) : ((l.take i).map low ++ l.drop i).set i (low l[i]) = (l.take (i + 1)).map low ++ l.drop (i + 1) := by
 have hs : ∀ (a b : List Int) (x y : Int), (a ++ x :: b).set a.length y = a ++ y :: b := by
  intro a b x y
  induction a with
  | nil => rfl
  | cons z a ih => simp only [List.cons_append, List.length_cons, List.set_cons_succ, ih]
 have hl : ((l.take i).map low).length = i := by rw [List.length_map, List.length_take]; omega
 have e := hs ((l.take i).map low) (l.drop (i + 1)) l[i] (low l[i])
 rw [hl] at e
 have ht : l.take (i + 1) = l.take i ++ [l[i]] := by rw [List.take_add_one, List.getElem?_eq_getElem h]; rfl
 rw [List.drop_eq_getElem_cons h, e, ht, List.map_append, List.append_assoc]; rfl
theorem at_low (l : List Int) (i : Nat) (h : i < l.length) : rd ((l.take i).map low ++ l.drop i) (i : Int) = l[i] := by
 have hl : ((l.take i).map low).length = i := by rw [List.length_map, List.length_take]; omega
 show ((l.take i).map low ++ l.drop i).getD i 0 = _
 rw [List.getD_eq_getElem?_getD, List.getElem?_append_right (by omega), hl, Nat.sub_self, List.getElem?_drop, Nat.add_zero, List.getElem?_eq_getElem h]; rfl
theorem low_loop (x y : Int) (l : List Int) (hn : l.length ≤ 1000) (R : Bool) (d : Nat) : ∀ i : Nat, i + d = l.length →
  Ev (fun k => tmesislaw01_UtfPlain.l0 k x y true (l.map low) (l.length : Int)) R → Ev (fun k => tmesislaw01_UtfPlain.l0 k x y true ((l.take i).map low ++ l.drop i) (i : Int)) R := by
 induction d with
 | zero =>
  intro i hi h
  obtain rfl : i = l.length := by omega
  rw [List.take_length, List.drop_length, List.append_nil]
  exact h
 | succ d ih =>
  intro i hi h
  have hlt : i < l.length := by omega
  have hl : ((l.take i).map low ++ l.drop i).length = l.length := by rw [List.length_append, List.length_map, List.length_take, List.length_drop]; omega
  have w1 : wrap64 ((i : Int) + 1) = ((i + 1 : Nat) : Int) := by rw [w64 (by omega) (by omega)]; omega
  refine Ev.step (fun k => tmesislaw01_UtfPlain.l0.eq_2 ..) (ev_if (by rw [hl]; omega) (ev_if (by omega) ?_))
  rw [at_low l i hlt, w1]
  show Ev (fun k => tmesislaw01_UtfPlain.l0 k x y true (((l.take i).map low ++ l.drop i).set i (low l[i])) ((i + 1 : Nat) : Int)) R
  rw [set_low l i hlt]
  exact ih (i + 1) (by omega) h
theorem plain_end (x y : Int) (hx : 0 ≤ x ∧ x < 256) (hy : 0 ≤ y ∧ y < 256) (m : List Int) (hm : ∀ c ∈ m, c < 128) (hn : m.length ≤ 1000) : Ev (fun k => tmesislaw01_UtfPlain.l0 k x y true m (m.length : Int)) true := by
 have w1 : wrap64 ((m.length : Int) + 1) = (m.length : Int) + 1 := w64 (by omega) (by omega)
 obtain ⟨p, hp, e⟩ : ∃ p : Nat, p ≤ m.length ∧ Aside0 (Int.tmod (wrap64 y) ((m.length : Int) + 1) = (p : Int)) := by
  have w2 : wrap64 y = y := w64 (by omega) (by omega)
  have h1 := Int.emod_lt_of_pos y (show (0 : Int) < (m.length : Int) + 1 by omega)
  have h2 := Int.emod_nonneg y (show ((m.length : Int) + 1) ≠ 0 by omega)
  refine ⟨(y % ((m.length : Int) + 1)).toNat, by omega, ⟨?_⟩⟩
  rw [w2, Int.tmod_eq_emod_of_nonneg hy.1]
  omega
 have hs := six_bd hx
 refine Ev.step (fun k => tmesislaw01_UtfPlain.l0.eq_2 ..) (ev_else (by omega) ?_)
 rw [w1, e.out]
 refine ev_else (by omega) (ev_let (ev_if (by omega) (ev_if (by omega) (ev_let ?_))))
 rw [show ((p : Int)).toNat = p from rfl, List.nil_append]
 have ht : (m.take p).length = p := by rw [List.length_take]; omega
 have hd : (m.drop p).length = m.length - p := List.length_drop
 refine ev_if (by simp only [List.length_nil]; omega) (ev_let (ev_let (ev_if (by simp only [List.length_cons, List.length_nil]; omega) (ev_let (ev_let (ev_if (by rw [List.length_append]; simp only [List.length_cons, List.length_nil]; omega) (ev_let ?_)))))))
 show Ev (fun k => if true = true then ((utf_Valid.f k m).bind fun t175 => if t175 = true then ((utf_Count.f k m).bind fun t176 => if t176 = (m.length : Int) then ((utf_Valid.f k (m.take p ++ [(128 + six x) % 256] ++ m.drop p)).bind fun t177 => if t177 = true then tmesislaw01_UtfPlain.j1 k false else ((utf_Count.f k (m.take p ++ [(128 + six x) % 256] ++ m.drop p)).bind fun t178 => tmesislaw01_UtfPlain.j1 k (t178 == (m.length : Int) + 1))) else tmesislaw01_UtfPlain.j1 k false) else tmesislaw01_UtfPlain.j1 k false) else tmesislaw01_UtfPlain.j1 k false) true
 have c : (128 + six x) % 256 = 128 + six x := by omega
 rw [c, List.append_assoc]
 have lm : eachS m = (m.length, true) := by
  have := plain_each hm []
  rw [List.append_nil, eachS_nil] at this
  simpa using this
 have ld : eachS (m.drop p) = (m.length - p, true) := by
  have := plain_each (a := m.drop p) (fun x hx => hm x (List.mem_of_mem_drop hx)) []
  rw [List.append_nil, eachS_nil, hd] at this
  simpa using this
 have lo : eachS (m.take p ++ ([128 + six x] ++ m.drop p)) = (m.length + 1, false) := by
  rw [plain_each (fun x hx => hm x (List.mem_of_mem_take hx)), List.cons_append, List.nil_append, odd_each (by omega) (by omega), ld, ht]
  simp only [Prod.mk.injEq, and_true]
  omega
 have lol : (m.take p ++ ([128 + six x] ++ m.drop p)).length ≤ 1000000 := by
  rw [List.length_append, List.length_append]; simp only [List.length_cons, List.length_nil]; omega
 have v1 := valid_ev m (by omega)
 have n1 := count_ev m (by omega)
 have v2 := valid_ev _ lol
 have n2 := count_ev _ lol
 rw [lm] at v1 n1
 rw [lo] at v2 n2
 clear lm ld lo
 refine ev_if rfl (Ev.bind v1 (ev_if rfl (Ev.bind n1 (ev_if rfl (Ev.bind v2 (ev_else (by simp) (Ev.bind n2 (Ev.step (fun k => tmesislaw01_UtfPlain.j1.eq_2 ..) (ev_now ?_)))))))))
 simp only [beq_iff_eq]
 omega
theorem UtfPlain : tmesislaw01_UtfPlain.Pure := by
 intro l0 x y g1 g2 hb hx hy
 have hx := u8w hx
 have hy := u8w hy
 have hb : ∀ c ∈ l0.take 200, 0 ≤ c ∧ c < 256 := fun c hc => u8w (hb c (List.mem_of_mem_take hc))
 clear g1 g2
 have hl : (l0.take 200).length ≤ 200 := by rw [List.length_take]; omega
 apply Ev.rounds
 unfold tmesislaw01_UtfPlain.f
 refine Ev.bind shown_ev (ev_let (ev_same (few_eq l0) ?_))
 generalize l0.take 200 = l at hb hl
 refine ev_if (by simp only [List.length_nil]; omega) ?_
 rw [List.nil_append]
 have fin := plain_end x y hx hy (l.map low) (fun c hc => by
  obtain ⟨z, hz, rfl⟩ := List.mem_map.1 hc
  exact (low_bd (hb z hz)).2) (by rw [List.length_map]; omega)
 rw [List.length_map] at fin
 exact low_loop x y l (by omega) true l.length 0 (by omega) fin
end Go.Proofs.Ytcemcdjpihokoaa.Pure
