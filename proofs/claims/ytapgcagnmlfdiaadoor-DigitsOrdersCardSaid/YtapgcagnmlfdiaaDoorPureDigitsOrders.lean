/- A greater number has as many digits, or more; with as many the first one that differs is greater. No conditions. -/
import Derived.Test.YtapgcagnmlfdiaaDoorDigitsSh
import Derived.Lib.Bytes
import Derived.Test.YtapgcagnmlfdiaaDoorPx7
namespace Go.Proofs.YtapgcagnmlfdiaaDoor.Pure
set_option linter.unusedSimpArgs false
set_option linter.unusedVariables false
open Go.RowKit Go.Proofs.YtapgcagnmlfdiaaDoor.P Go.Proofs.YtapgcagnmlfdiaaDoorW.PrintWords Go.Proofs.YtapgcagnmlfdiaaDoorW.PrintLast Go.Proofs.YtapgcagnmlfdiaaDoorW.PrintMore
/-- numbers by their digits -/
def valD : Int → List Int → Int
  | n, [] => n
  | n, c :: r => valD (n * 10 + (c - 48)) r
theorem valD_append (l m : List Int) : ∀ n : Int, valD n (l ++ m) = valD (valD n l) m := by
  induction l with
  | nil => intro n; rfl
  | cons c l ih => intro n; exact ih _
theorem putD_val (n : Nat) : valD 0 (putD n) = (n : Int) := by
  induction n using Nat.strongRecOn with
  | _ n ih =>
    by_cases h : n < 10
    · rw [putD_small h]
      show (0 : Int) * 10 + (48 + (n : Int) - 48) = n
      omega
    · rw [putD_big h, valD_append, ih (n / 10) (by omega)]
      show ((n / 10 : Nat) : Int) * 10 + (48 + ((n % 10 : Nat) : Int) - 48) = n
      omega
theorem valD_range (l : List Int) (hd : Digs l) : ∀ n : Int, n * 10 ^ l.length ≤ valD n l ∧ valD n l < (n + 1) * 10 ^ l.length := by
  induction l with
  | nil => intro n; simp [valD]; omega
  | cons c l ih =>
    intro n
    have hc := hd c (by simp)
    have := ih (fun x hx => hd x (by simp [hx])) (n * 10 + (c - 48))
    show _ ≤ valD (n * 10 + (c - 48)) l ∧ valD (n * 10 + (c - 48)) l < _
    have hp : (0 : Int) < 10 ^ l.length := Int.pow_pos (by decide)
    have e : (10 : Int) ^ (c :: l).length = 10 * 10 ^ l.length := by rw [List.length_cons, Int.pow_succ]; exact Int.mul_comm _ _
    rw [e]
    constructor
    · refine Int.le_trans ?_ this.1
      have : n * (10 * 10 ^ l.length) = (n * 10) * 10 ^ l.length := by rw [Int.mul_assoc]
      rw [this]
      exact Int.mul_le_mul_of_nonneg_right (by omega) (Int.le_of_lt hp)
    · refine Int.lt_of_lt_of_le this.2 ?_
      have : (n + 1) * (10 * 10 ^ l.length) = ((n + 1) * 10) * 10 ^ l.length := by rw [Int.mul_assoc]
      rw [this]
      exact Int.mul_le_mul_of_nonneg_right (by omega) (Int.le_of_lt hp)
def lessD : List Int → List Int → Bool
  | _, [] => false
  | [], _ :: _ => true
  | a :: x, b :: y => decide (a < b) || (a == b && lessD x y)
theorem lessD_val (x : List Int) : ∀ (y : List Int) (n : Int), Digs x → Digs y → x.length = y.length → ((lessD x y = true ↔ valD n x < valD n y) ∧ (x = y ↔ valD n x = valD n y)) := by
  induction x with
  | nil =>
    intro y n _ _ hl
    cases y with
    | nil => simp [lessD, valD]
    | cons b y => simp at hl
  | cons a x ih =>
    intro y n hx hy hl
    cases y with
    | nil => simp at hl
    | cons b y =>
      have ha := hx a (by simp)
      have hb := hy b (by simp)
      have hx' : Digs x := fun z hz => hx z (by simp [hz])
      have hy' : Digs y := fun z hz => hy z (by simp [hz])
      have hl' : x.length = y.length := by simpa using hl
      show ((decide (a < b) || (a == b && lessD x y)) = true ↔ valD (n * 10 + (a - 48)) x < valD (n * 10 + (b - 48)) y) ∧ (a :: x = b :: y ↔ valD (n * 10 + (a - 48)) x = valD (n * 10 + (b - 48)) y)
      have r1 := valD_range x hx' (n * 10 + (a - 48))
      have r2 := valD_range y hy' (n * 10 + (b - 48))
      rw [← hl'] at r2
      have hp : (0 : Int) < 10 ^ x.length := Int.pow_pos (by decide)
      rcases Int.lt_trichotomy a b with h | h | h
      · have : (n * 10 + (a - 48) + 1) * 10 ^ x.length ≤ (n * 10 + (b - 48)) * 10 ^ x.length := Int.mul_le_mul_of_nonneg_right (by omega) (Int.le_of_lt hp)
        have lt : valD (n * 10 + (a - 48)) x < valD (n * 10 + (b - 48)) y := Int.lt_of_lt_of_le r1.2 (Int.le_trans this r2.1)
        refine ⟨⟨fun _ => lt, fun _ => by simp [h]⟩, ⟨fun e => ?_, fun e => ?_⟩⟩
        · injection e with e1 e2; omega
        · rw [e] at lt; exact absurd lt (Int.lt_irrefl _)
      · subst h
        have := ih y (n * 10 + (a - 48)) hx' hy' hl'
        refine ⟨?_, ?_⟩
        · rw [← this.1]; simp
        · rw [← this.2]; simp
      · have : (n * 10 + (b - 48) + 1) * 10 ^ x.length ≤ (n * 10 + (a - 48)) * 10 ^ x.length := Int.mul_le_mul_of_nonneg_right (by omega) (Int.le_of_lt hp)
        have lt : valD (n * 10 + (b - 48)) y < valD (n * 10 + (a - 48)) x := Int.lt_of_lt_of_le r2.2 (Int.le_trans this r1.1)
        refine ⟨⟨fun e => ?_, fun e => ?_⟩, ⟨fun e => ?_, fun e => ?_⟩⟩
        · have h1 : ¬ a < b := by omega
          have h2 : ¬ a = b := by omega
          simp [h1, h2] at e
        · exact absurd e (Int.lt_asymm lt)
        · injection e with e1 e2; omega
        · rw [e] at lt; exact absurd lt (Int.lt_irrefl _)
theorem bytes_lessD (x : List Int) : ∀ y : List Int, Digs x → Digs y → Op.bytesLess (Lib.bytesOf x) (Lib.bytesOf y) = lessD x y ∧ (Lib.bytesOf x = Lib.bytesOf y ↔ x = y) := by
  induction x with
  | nil =>
    intro y _ _
    cases y with
    | nil => exact ⟨rfl, by simp⟩
    | cons b y => exact ⟨rfl, by simp [Lib.bytesOf]⟩
  | cons a x ih =>
    intro y hx hy
    cases y with
    | nil => exact ⟨rfl, by simp [Lib.bytesOf]⟩
    | cons b y =>
      have ha := hx a (by simp)
      have hb := hy b (by simp)
      have := ih y (fun z hz => hx z (by simp [hz])) (fun z hz => hy z (by simp [hz]))
      have n1 : a.toNat.toUInt8.toNat = a.toNat := by simp; omega
      have n2 : b.toNat.toUInt8.toNat = b.toNat := by simp; omega
      have l1 : (a.toNat.toUInt8 < b.toNat.toUInt8) ↔ a < b := by rw [UInt8.lt_iff_toNat_lt, n1, n2]; omega
      have l2 : (a.toNat.toUInt8 = b.toNat.toUInt8) ↔ a = b := by
        constructor
        · intro e
          have := congrArg UInt8.toNat e
          rw [n1, n2] at this; omega
        · intro e; rw [e]
      constructor
      · show (decide (a.toNat.toUInt8 < b.toNat.toUInt8) || (a.toNat.toUInt8 == b.toNat.toUInt8 && Op.bytesLess (Lib.bytesOf x) (Lib.bytesOf y))) = (decide (a < b) || (a == b && lessD x y))
        rw [this.1]
        congr 1
        · exact decide_eq_decide.2 l1
        · congr 1
          rw [Bool.eq_iff_iff, beq_iff_eq, beq_iff_eq]; exact l2
      · show a.toNat.toUInt8 :: Lib.bytesOf x = b.toNat.toUInt8 :: Lib.bytesOf y ↔ _
        rw [List.cons.injEq, List.cons.injEq, l2, this.2]
theorem orders_ev (x y : Nat) (hx : x ≤ 2147483647) (hy : y ≤ 2147483647) : Ev (fun k => tmesislaw03_DigitsOrders.j0 k (x : Int) (y : Int) (putD x) (putD y) false) true := by
  refine Ev.step (fun k => tmesislaw03_DigitsOrders.j0.eq_2 ..) (ev_else (by simp) ?_)
  have dx := putD_digs x
  have dy := putD_digs y
  have vx := putD_val x
  have vy := putD_val y
  by_cases hl : (putD x).length = (putD y).length
  · have h1 := lessD_val (putD x) (putD y) 0 dx dy hl
    have h2 := bytes_lessD (putD x) (putD y) dx dy
    rw [vx, vy] at h1
    refine ev_if (by omega) ?_
    rw [Lib.strOfNums_toList, Lib.strOfNums_toList, h2.1]
    refine ev_if ?_ (ev_now ?_)
    · rw [beq_iff_eq, Bool.eq_iff_iff, h1.1, decide_eq_true_iff]
    · rw [beq_iff_eq, Bool.eq_iff_iff, beq_iff_eq, beq_iff_eq, h2.2]
      exact h1.2
  · refine ev_else (by omega) (ev_now ?_)
    rw [beq_iff_eq, Bool.eq_iff_iff, decide_eq_true_iff, decide_eq_true_iff]
    have rx := valD_range (putD x) dx 0
    have ry := valD_range (putD y) dy 0
    rw [vx, Int.zero_mul, Int.zero_add, Int.one_mul] at rx
    rw [vy, Int.zero_mul, Int.zero_add, Int.one_mul] at ry
    have low : ∀ (a : Nat) , 1 < (putD a).length → (10 : Int) ^ ((putD a).length - 1) ≤ a := by
      intro a ha
      rcases putD_head a with h | ⟨c, r, h, hc⟩
      · omega
      · have d := putD_digs a
        rw [h] at d
        have hc2 := d c (by simp)
        have v := putD_val a
        rw [h] at v ⊢
        have r1 := (valD_range r (fun z hz => d z (by simp [hz])) (0 * 10 + (c - 48))).1
        have v' : valD (0 * 10 + (c - 48)) r = (a : Int) := v
        rw [v'] at r1
        refine Int.le_trans ?_ r1
        rw [List.length_cons, Nat.add_sub_cancel]
        have hp : (0 : Int) < 10 ^ r.length := Int.pow_pos (by decide)
        have : 1 * (10 : Int) ^ r.length ≤ (0 * 10 + (c - 48)) * 10 ^ r.length := Int.mul_le_mul_of_nonneg_right (by omega) (Int.le_of_lt hp)
        rwa [Int.one_mul] at this
    have mono : ∀ a b : Nat, a ≤ b → (10 : Int) ^ a ≤ 10 ^ b := fun a b h => by
      have := Nat.pow_le_pow_right (n := 10) (by omega) h
      exact_mod_cast this
    have px := putD_len x hx
    have py := putD_len y hy
    constructor
    · intro h
      have := low y (by omega)
      have := mono (putD x).length ((putD y).length - 1) (by omega)
      omega
    · intro h
      by_cases h3 : (putD x).length < (putD y).length
      · omega
      · exfalso
        have := low x (by omega)
        have := mono (putD y).length ((putD x).length - 1) (by omega)
        omega
theorem DigitsOrders : tmesislaw03_DigitsOrders.Pure := by
  intro a b _ _
  apply Ev.rounds
  unfold tmesislaw03_DigitsOrders.f
  rw [and_max, and_max]
  obtain ⟨x, hx⟩ : ∃ x : Nat, wrap64 a % 2147483648 = (x : Int) := ⟨(wrap64 a % 2147483648).toNat, by omega⟩
  obtain ⟨y, hy⟩ : ∃ y : Nat, wrap64 b % 2147483648 = (y : Int) := ⟨(wrap64 b % 2147483648).toNat, by omega⟩
  rw [hx, hy]
  have bx : x ≤ 2147483647 := by omega
  have bY : y ≤ 2147483647 := by omega
  exact Ev.bind shown_ev (Ev.bind (put_ev x bx) (Ev.bind (put_ev y bY) (ev_if rfl (ev_if rfl (orders_ev x y bx bY)))))
end Go.Proofs.YtapgcagnmlfdiaaDoor.Pure
