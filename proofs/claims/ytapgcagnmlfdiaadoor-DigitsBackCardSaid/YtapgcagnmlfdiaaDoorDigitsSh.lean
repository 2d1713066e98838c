/- What the statements on digits share. -/
import Derived.Test.YtapgcagnmlfdiaaDoorDigits
import Derived.Test.YtapgcagnmlfdiaaDoorPx1
namespace Go.Proofs.YtapgcagnmlfdiaaDoor.P
set_option linter.unusedSimpArgs false
set_option linter.unusedVariables false
open Go.RowKit Go.Proofs.YtapgcagnmlfdiaaDoor.P Go.Proofs.YtapgcagnmlfdiaaDoorW.PrintWords Go.Proofs.YtapgcagnmlfdiaaDoorW.PrintLast Go.Proofs.YtapgcagnmlfdiaaDoorW.PrintMore
theorem shown_ev : Ev (fun k => tmesislaw03_shown.f k) true := Ev.of (fun k => tmesislaw03_shown.mono k) (k := 20) (by decide +kernel)
theorem and_max (n : Int) : Go.bits .and .i64 n 2147483647 = n % 2147483648 := by
  have hm : (BitVec.ofInt 64 2147483647).toNat = 2 ^ 31 - 1 := by decide
  have key : (BitVec.ofInt 64 n &&& BitVec.ofInt 64 2147483647).toNat = (n % ((2 ^ 64 : Nat) : Int)).toNat % 2 ^ 31 := by
    rw [BitVec.toNat_and, BitVec.toNat_ofInt, hm, Nat.and_two_pow_sub_one_eq_mod]
  show IntKind.i64.wrap ((BitVec.ofInt 64 n &&& BitVec.ofInt 64 2147483647).toNat : Nat) = n % 2147483648
  rw [key, IntKind.wrap_i64]
  omega
theorem numS_append (l m : List Int) : ∀ n : Int, numS n (l ++ m) = (numS n l).bind fun q => numS q m := by
  induction l with
  | nil => intro n; rfl
  | cons c l ih =>
    intro n
    rw [List.cons_append, numS_cons, numS_cons]
    by_cases h : n * 10 + (c - 48) > 2147483647
    · rw [if_pos h, if_pos h]; rfl
    · rw [if_neg h, if_neg h, ih]
theorem numS_bd (l : List Int) (hd : Digs l) : ∀ (n q : Int), 0 ≤ n → n ≤ 2147483647 → numS n l = some q → 0 ≤ q ∧ q ≤ 2147483647 := by
  induction l with
  | nil => intro n q h0 h1 h; obtain rfl := Option.some.inj h; exact ⟨h0, h1⟩
  | cons c l ih =>
    intro n q h0 h1 h
    rw [numS_cons] at h
    have hc := hd c (by simp)
    by_cases hb : n * 10 + (c - 48) > 2147483647
    · rw [if_pos hb] at h; cases h
    · rw [if_neg hb] at h
      exact ih (fun x hx => hd x (by simp [hx])) _ q (by omega) (by omega) h
theorem runS_digs {l : List Int} (hd : Digs l) (s : List Int) : runS (l ++ s) 4 = l.length + runS s 4 := by
  induction l with
  | nil => simp
  | cons c l ih =>
    have hc := hd c (by simp)
    have h4 : classOf c = 4 := (digit_iff (by omega)).2 hc
    rw [List.cons_append, runS_cons, if_pos h4, ih (fun x hx => hd x (by simp [hx]))]
    simp; omega
theorem takeD_digs {l : List Int} (hd : Digs l) (s : List Int) (hs : runS s 4 = 0) : takeD (l ++ s) = if l = [] then (0, 0, 2) else resD (l.length : Int) (numS 0 l) := by
  have hr := runS_digs hd s
  rw [hs, Nat.add_zero] at hr
  unfold takeD headD
  rw [hr, List.take_left]
  cases l with
  | nil => rfl
  | cons c r => rw [if_neg (by simp), if_neg (by simp)]
theorem Digs.bytes {l : List Int} (h : Digs l) : Bytes l := fun x hx => by have := h x hx; omega
theorem Digs.append {l m : List Int} (h : Digs l) (k : Digs m) : Digs (l ++ m) := fun x hx => (List.mem_append.1 hx).elim (h x) (k x)
theorem revD_digs (n : Nat) : Digs (revD n) := by
  induction n using Nat.strongRecOn with
  | _ n ih =>
    rw [revD]
    split
    · intro c hc
      rw [List.mem_singleton] at hc
      omega
    · intro c hc
      rcases List.mem_cons.1 hc with rfl | hc
      · omega
      · exact ih (n / 10) (by omega) c hc
theorem putD_digs (n : Nat) : Digs (putD n) := fun c hc => revD_digs n c (by unfold putD at hc; simpa using hc)
theorem putD_small {n : Nat} (h : n < 10) : putD n = [48 + (n : Int)] := by unfold putD; rw [revD, dif_pos h]; rfl
theorem putD_big {n : Nat} (h : ¬ n < 10) : putD n = putD (n / 10) ++ [48 + ((n % 10 : Nat) : Int)] := by unfold putD; rw [revD, dif_neg h, List.reverse_cons]
theorem putD_num (n : Nat) (hn : n ≤ 2147483647) : numS 0 (putD n) = some (n : Int) := by
  induction n using Nat.strongRecOn with
  | _ n ih =>
    by_cases h : n < 10
    · rw [putD_small h, numS_cons, if_neg (by omega)]
      show some _ = some _
      congr 1; omega
    · rw [putD_big h, numS_append, ih (n / 10) (by omega) (by omega)]
      show numS ((n / 10 : Nat) : Int) [48 + ((n % 10 : Nat) : Int)] = _
      rw [numS_cons, if_neg (by omega)]
      show some _ = some _
      congr 1; omega
theorem putD_len (n : Nat) (hn : n ≤ 2147483647) : 1 ≤ (putD n).length ∧ (putD n).length ≤ 10 := by
  unfold putD
  rw [List.length_reverse]
  exact ⟨revD_len n, revD_ten n 9 (by omega)⟩
theorem putD_head (n : Nat) : (putD n).length = 1 ∨ ∃ c r, putD n = c :: r ∧ c ≠ 48 := by
  induction n using Nat.strongRecOn with
  | _ n ih =>
    by_cases h : n < 10
    · left; rw [putD_small h]; rfl
    · right
      rw [putD_big h]
      rcases ih (n / 10) (by omega) with h1 | ⟨c, r, h1, h2⟩
      · by_cases h3 : n / 10 < 10
        · rw [putD_small h3]
          exact ⟨_, _, rfl, by omega⟩
        · exfalso
          rw [putD_big h3, List.length_append] at h1
          have h4 : 1 ≤ (putD (n / 10 / 10)).length := by unfold putD; rw [List.length_reverse]; exact revD_len _
          have h5 : ([48 + ((n / 10 % 10 : Nat) : Int)] : List Int).length = 1 := rfl
          omega
      · exact ⟨c, r ++ [48 + ((n % 10 : Nat) : Int)], by rw [h1]; rfl, h2⟩
end Go.Proofs.YtapgcagnmlfdiaaDoor.P
