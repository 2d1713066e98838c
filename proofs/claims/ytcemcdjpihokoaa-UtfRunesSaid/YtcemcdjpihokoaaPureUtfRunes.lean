/- Each number from 0 to 10FFFF (hexadecimal), but those from D800 to DFFF, has one sequence; it is taken, whatever stands behind it; none of its beginnings is one. No conditions. -/
import Derived.Test.YtcemcdjpihokoaaUtfEach
import Derived.Test.YtcemcdjpihokoaaPx4
namespace Go.Proofs.Ytcemcdjpihokoaa.Pure
open Go.RowKit Go.Proofs.Ytcemcdjpihokoaa.P Go.Proofs.YtcemcdjpihokoaaW.PrintWords Go.Proofs.YtcemcdjpihokoaaW.PrintLast

/-- a number's bytes -/
def runeS (n : Int) : List Int := if n < 128 then [n] else if n < 2048 then [192 + n / 64, 128 + n % 64] else if n < 65536 then [224 + n / 4096, 128 + n / 64 % 64, 128 + n % 64] else [240 + n / 262144, 128 + n / 4096 % 64, 128 + n / 64 % 64, 128 + n % 64]
theorem tdiv_pos (n m : Int) (h : 0 ≤ n) : Int.tdiv n m = n / m := Int.tdiv_eq_ediv_of_nonneg h
theorem tmod_pos (n m : Int) (h : 0 ≤ n) : Int.tmod n m = n % m := Int.tmod_eq_emod_of_nonneg h
theorem runeOf_eq (n : Int) (h0 : 0 ≤ n) (h1 : n < 1114112) : tmesislaw01_runeOf.f n = some (runeS n) := by
  unfold tmesislaw01_runeOf.f runeS
  simp only [tdiv_pos n _ h0, tmod_pos n _ h0]
  by_cases a : n < 128
  · rw [if_pos a, if_pos a]; congr 2; omega
  rw [if_neg a, if_neg a]
  by_cases b : n < 2048
  · rw [if_pos b, if_pos b]; congr 2
    · omega
    · congr 1; omega
  rw [if_neg b, if_neg b]
  by_cases c : n < 65536
  · rw [if_pos c, if_pos c]; congr 2
    · omega
    · congr 1
      · omega
      · congr 1; omega
  rw [if_neg c, if_neg c]
  congr 2
  · omega
  · congr 1
    · omega
    · congr 1
      · omega
      · congr 1; omega
theorem takeS_one (c : Int) (r : List Int) (h : c < 128) : takeS (c :: r) = (1, true) := by
  have e : uLong c = 1 := by unfold uLong; rw [if_pos h]
  rw [takeS_cons, e]; rfl
theorem uLong2 {c : Int} (h1 : 194 ≤ c) (h2 : c < 224) : uLong c = 2 ∧ uLo c = 128 ∧ uHi c = 191 := by
  unfold uLong uLo uHi
  rw [if_neg (by omega), if_neg (by omega), if_pos (by omega), if_neg (by omega), if_neg (by omega), if_neg (by omega), if_neg (by omega)]
  exact ⟨rfl, rfl, rfl⟩
theorem uLong3 {c : Int} (h1 : 224 ≤ c) (h2 : c < 240) : uLong c = 3 := by
  unfold uLong
  rw [if_neg (by omega), if_neg (by omega), if_neg (by omega), if_pos (by omega)]
theorem uLong4 {c : Int} (h1 : 240 ≤ c) (h2 : c ≤ 244) : uLong c = 4 := by
  unfold uLong
  rw [if_neg (by omega), if_neg (by omega), if_neg (by omega), if_neg (by omega)]
theorem uLo_le (c : Int) : 128 ≤ uLo c ∧ uLo c ≤ 160 ∧ (c ≠ 224 → c ≠ 240 → uLo c = 128) ∧ (c = 224 → uLo c = 160) ∧ (c = 240 → uLo c = 144) := by
  unfold uLo; repeat' split
  all_goals omega
theorem uHi_le (c : Int) : uHi c ≤ 191 ∧ 143 ≤ uHi c ∧ (c ≠ 237 → c ≠ 244 → uHi c = 191) ∧ (c = 237 → uHi c = 159) ∧ (c = 244 → uHi c = 143) := by
  unfold uHi; repeat' split
  all_goals omega
def odd (n : Int) : Prop := 55296 ≤ n ∧ n ≤ 57343
theorem rune_take (n : Int) (s : List Int) (h0 : 0 ≤ n) (h1 : n < 1114112) : (¬ odd n → takeS (runeS n ++ s) = (((runeS n).length : Int), true)) ∧ (odd n → takeS (runeS n ++ s) = (1, false)) := by
  unfold odd runeS
  by_cases a : n < 128
  · rw [if_pos a]
    exact ⟨fun _ => takeS_one _ _ a, fun h => by omega⟩
  rw [if_neg a]
  by_cases b : n < 2048
  · rw [if_pos b]
    obtain ⟨e1, e2, e3⟩ := uLong2 (c := 192 + n / 64) (by omega) (by omega)
    refine ⟨fun _ => ?_, fun h => by omega⟩
    show takeS ((192 + n / 64) :: (128 + n % 64) :: s) = _
    rw [takeS_cons, e1, e2, e3, if_neg (by omega), restOk_cons, decide_eq_true (by omega)]
    rfl
  rw [if_neg b]
  by_cases c : n < 65536
  · rw [if_pos c]
    have e1 := uLong3 (c := 224 + n / 4096) (by omega) (by omega)
    have l1 := uLo_le (224 + n / 4096)
    have l2 := uHi_le (224 + n / 4096)
    show (_ → takeS ((224 + n / 4096) :: (128 + n / 64 % 64) :: (128 + n % 64) :: s) = _) ∧ (_ → takeS ((224 + n / 4096) :: (128 + n / 64 % 64) :: (128 + n % 64) :: s) = _)
    rw [takeS_cons, e1, if_neg (by omega), restOk_cons]
    constructor
    · intro ho
      have : uLo (224 + n / 4096) ≤ 128 + n / 64 % 64 := by
        by_cases h : 224 + n / 4096 = 224
        · rw [l1.2.2.2.1 h]; omega
        · rw [l1.2.2.1 h (by omega)]; omega
      have : 128 + n / 64 % 64 ≤ uHi (224 + n / 4096) := by
        by_cases h : 224 + n / 4096 = 237
        · rw [l2.2.2.2.1 h]; omega
        · rw [l2.2.2.1 h (by omega)]; omega
      rw [decide_eq_true (by omega), restOk_cons, decide_eq_true (by omega)]
      rfl
    · intro ho
      have : uHi (224 + n / 4096) = 159 := l2.2.2.2.1 (by omega)
      rw [decide_eq_false (by omega)]
      rfl
  rw [if_neg c]
  have e1 := uLong4 (c := 240 + n / 262144) (by omega) (by omega)
  have l1 := uLo_le (240 + n / 262144)
  have l2 := uHi_le (240 + n / 262144)
  refine ⟨fun _ => ?_, fun h => by omega⟩
  show takeS ((240 + n / 262144) :: (128 + n / 4096 % 64) :: (128 + n / 64 % 64) :: (128 + n % 64) :: s) = _
  have : uLo (240 + n / 262144) ≤ 128 + n / 4096 % 64 := by
    by_cases h : 240 + n / 262144 = 240
    · rw [l1.2.2.2.2 h]; omega
    · rw [l1.2.2.1 (by omega) h]; omega
  have : 128 + n / 4096 % 64 ≤ uHi (240 + n / 262144) := by
    by_cases h : 240 + n / 262144 = 244
    · rw [l2.2.2.2.2 h]; omega
    · rw [l2.2.2.1 (by omega) h]; omega
  rw [takeS_cons, e1, if_neg (by omega), restOk_cons, decide_eq_true (by omega), restOk_cons, decide_eq_true (by omega), restOk_cons, decide_eq_true (by omega)]
  rfl
theorem takeS_short (c : Int) (r : List Int) (h : r.length + 1 < uLong c) : takeS (c :: r) = (1, false) := by
  rw [takeS_cons]
  by_cases h0 : uLong c = 0
  · rw [if_pos h0]
  · rw [if_neg h0, restOk_short _ _ _ _ (by omega)]; rfl
theorem rune_begin (n : Int) (i : Nat) (h0 : 0 ≤ n) (h1 : n < 1114112) (hi0 : 1 ≤ i) (hi : i < (runeS n).length) : takeS ((runeS n).take i) = (1, false) := by
  obtain ⟨j, rfl⟩ : ∃ j, i = j + 1 := ⟨i - 1, by omega⟩
  unfold runeS at hi ⊢
  by_cases a : n < 128
  · rw [if_pos a] at hi; simp at hi
  rw [if_neg a] at hi ⊢
  by_cases b : n < 2048
  · rw [if_pos b] at hi ⊢
    rw [List.take_succ_cons]
    apply takeS_short
    rw [(uLong2 (c := 192 + n / 64) (by omega) (by omega)).1, List.length_take]
    simp at hi ⊢; omega
  rw [if_neg b] at hi ⊢
  by_cases c : n < 65536
  · rw [if_pos c] at hi ⊢
    rw [List.take_succ_cons]
    apply takeS_short
    rw [uLong3 (c := 224 + n / 4096) (by omega) (by omega), List.length_take]
    simp at hi ⊢; omega
  rw [if_neg c] at hi ⊢
  rw [List.take_succ_cons]
  apply takeS_short
  rw [uLong4 (c := 240 + n / 262144) (by omega) (by omega), List.length_take]
  simp at hi ⊢; omega
theorem rune_len (n : Int) : 1 ≤ (runeS n).length ∧ (runeS n).length ≤ 4 := by
  unfold runeS; repeat' split
  all_goals simp
theorem rune_each (n : Int) (h0 : 0 ≤ n) (h1 : n < 1114112) (h : ¬ odd n) : eachS (runeS n) = (1, true) := by
  have ht := (rune_take n [] h0 h1).1 h
  rw [List.append_nil] at ht
  have hl := rune_len n
  have hne : runeS n ≠ [] := by intro e; rw [e] at hl; simp at hl
  have hc : cutS (runeS n) = [] := by unfold cutS; rw [ht]; simp
  rw [eachS_cons hne, hc, ht, eachS_nil]; rfl
theorem runes_loop (n : Int) (h0 : 0 ≤ n) (h1 : n < 1114112) (h : ¬ odd n) : ∀ (d i : Nat), d + i = (runeS n).length → 1 ≤ i → Ev (fun k => tmesislaw01_UtfRunes.l0 k true (runeS n) ((runeS n).length : Int) true (i : Int)) true := by
  have hl := rune_len n
  intro d
  induction d with
  | zero =>
    intro i hd hi
    refine Ev.step (fun k => tmesislaw01_UtfRunes.l0.eq_2 ..) ?_
    refine ev_else (by omega) (ev_if rfl (ev_if rfl (ev_if rfl ?_)))
    refine Ev.bind (valid_ev _ (by omega)) (ev_if (by rw [rune_each n h0 h1 h]) ?_)
    exact Ev.bind (count_ev _ (by omega)) (ev_now (by rw [rune_each n h0 h1 h]; rfl))
  | succ d ih =>
    intro i hd hi
    refine Ev.step (fun k => tmesislaw01_UtfRunes.l0.eq_2 ..) ?_
    refine ev_if (by omega) (ev_if (by omega) (ev_if (by omega) ?_))
    refine Ev.bind (take_ev _) ?_
    have e : ((i : Int)).toNat = i := rfl
    rw [e, rune_begin n i h0 h1 hi (by omega)]
    refine ev_if rfl (ev_else (by simp) ?_)
    rw [show wrap64 ((i : Int) + 1) = ((i + 1 : Nat) : Int) by rw [w64 (by omega) (by omega)]; omega]
    exact ih (i + 1) (by omega) (by omega)

theorem UtfRunes : tmesislaw01_UtfRunes.Pure := by
  intro a0 l1 ha _ _ _
  have ha0 : 0 ≤ a0 := by
    have := ha
    simp [Lit.wf, IntKind.min, IntKind.max, IntKind.signed, IntKind.bits] at this
    omega
  apply Ev.rounds
  unfold tmesislaw01_UtfRunes.f
  rw [tmod_pos a0 _ ha0]
  have h0 : 0 ≤ a0 % 1114112 := by omega
  have h1 : a0 % 1114112 < 1114112 := by omega
  generalize a0 % 1114112 = n at h0 h1 ⊢
  have hl := rune_len n
  have hy : (l1.take 200).length ≤ 200 := by rw [List.length_take]; omega
  refine Ev.bind shown_ev (ev_same (runeOf_eq n h0 h1) (ev_let (ev_if (by simp; omega) (ev_let (ev_same (few_eq l1) ?_)))))
  generalize l1.take 200 = s at hy ⊢
  refine ev_if (by simp; omega) ?_
  rw [List.nil_append]
  refine Ev.bind (take_ev _) ?_
  by_cases ho : odd n
  · rw [(rune_take n s h0 h1).2 ho]
    have ht := (rune_take n [] h0 h1).2 ho
    rw [List.append_nil] at ht
    have hne : runeS n ≠ [] := by intro e; rw [e] at hl; simp at hl
    refine ev_if ho.1 ?_
    rw [decide_eq_true ho.2]
    refine Ev.step (fun k => tmesislaw01_UtfRunes.j0.eq_2 ..) ?_
    refine ev_if rfl (ev_if rfl (ev_if rfl (ev_else (by simp) ?_)))
    exact Ev.bind (valid_ev _ (by omega)) (ev_now (by rw [eachS_cons hne, ht]; rfl))
  · rw [(rune_take n s h0 h1).1 ho]
    have lp := runes_loop n h0 h1 ho ((runeS n).length - 1) 1 (by omega) (by omega)
    by_cases hb : n ≥ 55296
    · refine ev_if hb ?_
      rw [decide_eq_false (fun h => ho ⟨hb, h⟩)]
      exact Ev.step (fun k => tmesislaw01_UtfRunes.j0.eq_2 ..) (ev_else (by simp) lp)
    · exact ev_else hb (Ev.step (fun k => tmesislaw01_UtfRunes.j0.eq_2 ..) (ev_else (by simp) lp))
end Go.Proofs.Ytcemcdjpihokoaa.Pure
