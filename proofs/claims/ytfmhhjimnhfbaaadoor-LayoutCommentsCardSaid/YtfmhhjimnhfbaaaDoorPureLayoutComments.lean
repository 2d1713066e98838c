/- Comments within comments are skipped as one. No conditions. -/
import Derived.Test.YtfmhhjimnhfbaaaDoorLayoutSh
import Derived.Test.YtfmhhjimnhfbaaaDoorPx8
namespace Go.Proofs.YtfmhhjimnhfbaaaDoor.Pure
set_option linter.unusedSimpArgs false
set_option linter.unusedVariables false
open Go.RowKit Go.Proofs.YtfmhhjimnhfbaaaDoor.P Go.Proofs.YtfmhhjimnhfbaaaDoorW.PrintWords Go.Proofs.YtfmhhjimnhfbaaaDoorW.PrintLast Go.Proofs.YtfmhhjimnhfbaaaDoorW.PrintMore
/-- so many times the same -/
def reps (n : Nat) (xs : List Int) : List Int := match n with
  | 0 => []
  | n + 1 => xs ++ reps n xs
theorem reps_snoc (xs : List Int) : ∀ n, reps n xs ++ xs = reps (n + 1) xs
  | 0 => by show [] ++ xs = xs ++ []; simp
  | n + 1 => by show (xs ++ reps n xs) ++ xs = xs ++ reps (n + 1) xs; rw [List.append_assoc, reps_snoc xs n]
theorem reps_length (xs : List Int) : ∀ n, (reps n xs).length = n * xs.length
  | 0 => by simp [reps]
  | n + 1 => by show (xs ++ reps n xs).length = _; rw [List.length_append, reps_length xs n, Nat.succ_mul]; omega
theorem comL_byte {x y : Int} {r : List Int} (d : Nat) (h1 : x ≠ 47) (h2 : x ≠ 42) : comL d (x :: y :: r) = (comL d (y :: r)).map (· + 1) := by
  rw [comL, if_neg (fun h => h1 h.1), if_neg (fun h => h2 h.1)]
theorem comL_open (d : Nat) (r : List Int) : comL d (47 :: 42 :: r) = (comL (d + 1) r).map (· + 2) := by
  rw [comL, if_pos ⟨rfl, rfl⟩]
theorem comL_shut (d : Nat) (r : List Int) : comL d (42 :: 47 :: r) = if d = 1 then some 2 else (comL (d - 1) r).map (· + 2) := by
  rw [comL, if_neg (by omega), if_pos ⟨rfl, rfl⟩]
theorem map2 (o : Option Nat) (a b : Nat) : (o.map (· + a)).map (· + b) = o.map (· + (a + b)) := by
  cases o with
  | none => rfl
  | some n => show some (n + a + b) = some (n + (a + b)); rw [Nat.add_assoc]
/-- the opening ones -/
theorem comL_opens {c : Int} (h1 : c ≠ 47) (h2 : c ≠ 42) : ∀ (n d : Nat) (y : Int) (r : List Int), comL d (reps n [47, 42, c] ++ y :: r) = (comL (d + n) (y :: r)).map (· + 3 * n)
  | 0, d, y, r => by
    show comL d (y :: r) = (comL d (y :: r)).map (· + 0)
    cases comL d (y :: r) <;> rfl
  | n + 1, d, y, r => by
    show comL d (47 :: 42 :: c :: (reps n [47, 42, c] ++ y :: r)) = _
    rw [comL_open]
    have e : ∃ z s, reps n [47, 42, c] ++ y :: r = z :: s := by
      cases n with
      | zero => exact ⟨_, _, rfl⟩
      | succ n => exact ⟨_, _, rfl⟩
    obtain ⟨z, s, e⟩ := e
    have ih := comL_opens h1 h2 n (d + 1) y r
    rw [e] at ih ⊢
    rw [comL_byte _ h1 h2, ih, map2, map2, show d + 1 + n = d + (n + 1) by omega, show 3 * n + (1 + 2) = 3 * (n + 1) by omega]
/-- the shutting ones -/
theorem comL_shuts {c : Int} (h1 : c ≠ 47) (h2 : c ≠ 42) (r : List Int) : ∀ n : Nat, comL (n + 1) (reps (n + 1) [c, 42, 47] ++ r) = some (3 * (n + 1))
  | 0 => by
    show comL 1 (c :: 42 :: 47 :: r) = _
    rw [comL_byte _ h1 h2, comL_shut, if_pos rfl]; rfl
  | n + 1 => by
    show comL (n + 2) (c :: 42 :: 47 :: (reps (n + 1) [c, 42, 47] ++ r)) = _
    rw [comL_byte _ h1 h2, comL_shut, if_neg (by omega), show n + 2 - 1 = n + 1 by omega, comL_shuts h1 h2 r n]
    show some (3 * (n + 1) + 2 + 1) = some (3 * (n + 2))
    congr 1
/-- one fewer: no end -/
theorem comL_few {c : Int} (h1 : c ≠ 47) (h2 : c ≠ 42) : ∀ n d : Nat, n < d → comL d (reps n [c, 42, 47]) = none
  | 0, d, _ => by rw [reps, comL]
  | n + 1, d, h => by
    show comL d (c :: 42 :: 47 :: reps n [c, 42, 47]) = _
    rw [comL_byte _ h1 h2, comL_shut, if_neg (by omega), comL_few h1 h2 n (d - 1) (by omega)]; rfl
def nest (c : Int) (k : Nat) : List Int := reps k [47, 42, c] ++ reps k [c, 42, 47]
theorem nest_length (c : Int) (k : Nat) : (nest c k).length = 6 * k := by
  unfold nest
  rw [List.length_append, reps_length, reps_length]
  show k * 3 + k * 3 = 6 * k; omega
theorem nest_comS {c : Int} (h1 : c ≠ 47) (h2 : c ≠ 42) (k : Nat) (r : List Int) : comS (nest c (k + 1) ++ r) = some (6 * (k + 1)) := by
  have e : (nest c (k + 1) ++ r).drop 2 = c :: (reps k [47, 42, c] ++ c :: ([42, 47] ++ reps k [c, 42, 47] ++ r)) := by
    show ((47 :: 42 :: c :: reps k [47, 42, c]) ++ (c :: 42 :: 47 :: reps k [c, 42, 47]) ++ r).drop 2 = _
    simp
  have e2 : c :: ([42, 47] ++ reps k [c, 42, 47] ++ r) = reps (k + 1) [c, 42, 47] ++ r := by
    show _ = (c :: 42 :: 47 :: reps k [c, 42, 47]) ++ r
    simp
  have e3 := comL_opens h1 h2 k 1 c ([42, 47] ++ reps k [c, 42, 47] ++ r)
  rw [e2, show 1 + k = k + 1 by omega, comL_shuts h1 h2 r k] at e3
  unfold comS
  rw [e]
  have e4 : ∃ z s, reps k [47, 42, c] ++ c :: ([42, 47] ++ reps k [c, 42, 47] ++ r) = z :: s := by
    cases k with
    | zero => exact ⟨_, _, rfl⟩
    | succ n => exact ⟨_, _, rfl⟩
  obtain ⟨z, s, e4⟩ := e4
  rw [e2] at e4
  rw [e2, e4, comL_byte _ h1 h2, ← e4, e3]
  show some (3 * (k + 1) + 3 * k + 1 + 2) = _
  congr 1; omega
theorem nest_cut (c : Int) (k : Nat) : (nest c (k + 1)).take (6 * k + 3) = reps (k + 1) [47, 42, c] ++ reps k [c, 42, 47] := by
  unfold nest
  have h : (reps (k + 1) [47, 42, c] ++ reps k [c, 42, 47]).length = 6 * k + 3 := by
    rw [List.length_append, reps_length, reps_length]
    show (k + 1) * 3 + k * 3 = _; omega
  rw [← reps_snoc [c, 42, 47] k, ← List.append_assoc, ← h, List.take_left]
theorem nest_none {c : Int} (h1 : c ≠ 47) (h2 : c ≠ 42) (k : Nat) : comS (reps (k + 1) [47, 42, c] ++ reps k [c, 42, 47]) = none := by
  unfold comS
  have e : (reps (k + 1) [47, 42, c] ++ reps k [c, 42, 47]).drop 2 = c :: (reps k [47, 42, c] ++ reps k [c, 42, 47]) := by
    show ((47 :: 42 :: c :: reps k [47, 42, c]) ++ reps k [c, 42, 47]).drop 2 = _
    simp
  rw [e]
  cases k with
  | zero => show (comL 1 [c]).map _ = none; rw [comL]; rfl
  | succ k =>
    have e3 := comL_opens h1 h2 (k + 1) 1 c ([42, 47] ++ reps k [c, 42, 47])
    have e2 : c :: ([42, 47] ++ reps k [c, 42, 47]) = reps (k + 1) [c, 42, 47] := rfl
    rw [e2, comL_few h1 h2 (k + 1) _ (by omega)] at e3
    have e4 : ∃ z s, reps (k + 1) [47, 42, c] ++ reps (k + 1) [c, 42, 47] = z :: s := ⟨_, _, rfl⟩
    obtain ⟨z, s, e4⟩ := e4
    rw [e4, comL_byte _ h1 h2, ← e4, e3]; rfl
theorem class47 : classOf 47 ≠ 1 := by decide +kernel
theorem skip_nest {c : Int} (h1 : c ≠ 47) (h2 : c ≠ 42) (k : Nat) (r : List Int) : skipS (nest c (k + 1) ++ r) = (6 * (k + 1) + (skipS r).1, (skipS r).2) := by
  have es : stepS (nest c (k + 1) ++ r) = (6 * (k + 1), 0) := by
    have hc := nest_comS h1 h2 k r
    have e : nest c (k + 1) ++ r = 47 :: 42 :: (c :: (reps k [47, 42, c] ++ reps (k + 1) [c, 42, 47] ++ r)) := by
      show ((47 :: 42 :: c :: reps k [47, 42, c]) ++ reps (k + 1) [c, 42, 47]) ++ r = _
      simp
    rw [e] at hc ⊢
    rw [stepS, if_neg class47, if_neg (by omega), if_pos (by rfl), hc]
  rw [skipS_go (by rw [es]; simp), es]
  have : (nest c (k + 1) ++ r).drop (6 * (k + 1)) = r := by rw [← nest_length c, List.drop_left]
  simp only [this]
theorem skip_none {c : Int} (h1 : c ≠ 47) (h2 : c ≠ 42) (k : Nat) : skipS (reps (k + 1) [47, 42, c] ++ reps k [c, 42, 47]) = (0, 14) := by
  have es : stepS (reps (k + 1) [47, 42, c] ++ reps k [c, 42, 47]) = (0, 14) := by
    have hc := nest_none h1 h2 k
    have e : reps (k + 1) [47, 42, c] ++ reps k [c, 42, 47] = 47 :: 42 :: (c :: (reps k [47, 42, c] ++ reps k [c, 42, 47])) := by
      show ((47 :: 42 :: c :: reps k [47, 42, c]) ++ reps k [c, 42, 47]) = _
      simp
    rw [e] at hc ⊢
    rw [stepS, if_neg class47, if_neg (by omega), if_pos (by rfl), hc]
  rw [skipS_stop (by rw [es]), es]
theorem reps_bytes {xs : List Int} (h : Bytes xs) : ∀ n, Bytes (reps n xs)
  | 0 => fun x hx => by cases hx
  | n + 1 => fun x hx => by
    rcases List.mem_append.1 hx with h1 | h1
    · exact h x h1
    · exact reps_bytes h n x h1
theorem bytes_app {a b : List Int} (h : Bytes a) (h2 : Bytes b) : Bytes (a ++ b) := fun x hx => by
  rcases List.mem_append.1 hx with h1 | h1
  · exact h x h1
  · exact h2 x h1
theorem inner (c : Int) (hc : 0 ≤ c ∧ c < 256) (h1 : c ≠ 47) (h2 : c ≠ 42) (m : Nat) (hm : m < 16) (l : List Int) (hl : Bytes l) : Ev (fun k => tmesislaw05_LayoutComments.j1 k c l true ((m + 1 : Nat) : Int)) true := by
  refine Ev.step (fun k => tmesislaw05_LayoutComments.j1.eq_2 ..) ?_
  have ho : Bytes [47, 42, c] := fun x hx => by simp at hx; omega
  have hs : Bytes [c, 42, 47] := fun x hx => by simp at hx; omega
  have last : Ev (fun k => tmesislaw05_LayoutComments.l1 k c l true ((m + 1 : Nat) : Int) (reps (m + 1) [47, 42, c] ++ reps (m + 1) [c, 42, 47]) ((m + 1 : Nat) : Int)) true := by
    refine Ev.step (fun k => tmesislaw05_LayoutComments.l1.eq_2 ..) (ev_else (by omega) ?_)
    have hnl := nest_length c (m + 1)
    have hnb : Bytes (nest c (m + 1)) := bytes_app (reps_bytes ho _) (reps_bytes hs _)
    show Ev (fun k => _) _
    rw [show reps (m + 1) [47, 42, c] ++ reps (m + 1) [c, 42, 47] = nest c (m + 1) from rfl]
    have hfew : (l.take 150).length ≤ 150 := by rw [List.length_take]; omega
    have hfb : Bytes (l.take 150) := fun x hx => hl x (List.mem_of_mem_take hx)
    refine ev_same rfl (ev_if (by simp only [List.length_nil]; omega) (ev_same rfl (ev_same (few_eq l) ?_)))
    rw [List.nil_append]
    refine ev_if (by omega) (Ev.bind (skip_ev _ (bytes_app hnb hfb) (by rw [List.length_append]; omega)) (ev_same (few_eq l) (Ev.bind (skip_ev _ hfb (by omega)) ?_)))
    have hw : wrap64 (((nest c (m + 1)).length : Int) - 3) = ((6 * m + 3 : Nat) : Int) := by rw [w64 (by omega) (by omega)]; omega
    rw [hw]
    refine ev_if (by omega) (ev_if (by omega) ?_)
    rw [show ((((6 * m + 3 : Nat)) : Int)).toNat = 6 * m + 3 from rfl, nest_cut]
    have hcb : Bytes (reps (m + 1) [47, 42, c] ++ reps m [c, 42, 47]) := bytes_app (reps_bytes ho _) (reps_bytes hs _)
    have hcl : (reps (m + 1) [47, 42, c] ++ reps m [c, 42, 47]).length ≤ 1000000 := by
      rw [List.length_append, reps_length, reps_length]
      show (m + 1) * 3 + m * 3 ≤ _; omega
    refine Ev.bind (skip_ev _ hcb hcl) (ev_if rfl ?_)
    rw [skip_none h1 h2, skip_nest h1 h2]
    have hsl := skipS_le ((l.take 150).length + 1) (l.take 150) (by omega)
    simp only
    refine ev_if ?_ (ev_if (by first | rfl | trivial) (ev_if (by first | rfl | trivial) (ev_now rfl)))
    rw [w64 (by omega) (by omega)]
    omega
  have shuts : ∀ (d i : Nat), i + d = m + 1 → Ev (fun k => tmesislaw05_LayoutComments.l1 k c l true ((m + 1 : Nat) : Int) (reps (m + 1) [47, 42, c] ++ reps i [c, 42, 47]) (i : Int)) true := by
    intro d
    induction d with
    | zero => intro i hi; rw [show i = m + 1 by omega]; exact last
    | succ d ih =>
      intro i hi
      refine Ev.step (fun k => tmesislaw05_LayoutComments.l1.eq_2 ..) (ev_if (by omega) (ev_same rfl (ev_if ?_ ?_)))
      · rw [List.length_append, reps_length, reps_length]
        show ((m + 1) * 3 + i * 3) + 3 < _; omega
      · rw [List.append_assoc, reps_snoc, show wrap64 ((i : Int) + 1) = ((i + 1 : Nat) : Int) by rw [w64 (by omega) (by omega)]; omega]
        exact ih (i + 1) (by omega)
  have opens : ∀ (d i : Nat), i + d = m + 1 → Ev (fun k => tmesislaw05_LayoutComments.l0 k c l true ((m + 1 : Nat) : Int) (reps i [47, 42, c]) (i : Int)) true := by
    intro d
    induction d with
    | zero =>
      intro i hi
      refine Ev.step (fun k => tmesislaw05_LayoutComments.l0.eq_2 ..) (ev_else (by omega) ?_)
      have := shuts (m + 1) 0 (by omega)
      rw [show reps 0 [c, 42, 47] = [] from rfl, List.append_nil] at this
      rw [show i = m + 1 by omega]
      exact this
    | succ d ih =>
      intro i hi
      refine Ev.step (fun k => tmesislaw05_LayoutComments.l0.eq_2 ..) (ev_if (by omega) (ev_same rfl (ev_if ?_ ?_)))
      · rw [reps_length]
        show i * 3 + 3 < _; omega
      · rw [reps_snoc, show wrap64 ((i : Int) + 1) = ((i + 1 : Nat) : Int) by rw [w64 (by omega) (by omega)]; omega]
        exact ih (i + 1) (by omega)
  exact opens (m + 1) 0 (by omega)
theorem LayoutComments : tmesislaw05_LayoutComments.Pure := by
  intro a0 a1 l2 h0 h1 hmax hmax2 hw
  have hl : Bytes l2 := fun x hx => u8_wf (hw x hx)
  have b0 := u8_wf h0
  have b1 := u8_wf h1
  clear h0 h1 hmax hmax2 hw
  apply Ev.rounds
  unfold tmesislaw05_LayoutComments.f
  refine Ev.bind shown_ev ?_
  have hk : wrap64 (1 + (Int.tmod (wrap64 a0) 16)) = ((a0.toNat % 16 + 1 : Nat) : Int) := by
    rw [w64 (i := a0) (by omega) (by omega), Int.tmod_eq_emod_of_nonneg (by omega), w64 (by omega) (by omega)]
    omega
  rw [hk]
  have hm : a0.toNat % 16 < 16 := Nat.mod_lt _ (by omega)
  have x := inner 120 (by omega) (by omega) (by omega) _ hm l2 hl
  by_cases h : a1 = 47
  · exact ev_if h (Ev.step (fun k => tmesislaw05_LayoutComments.j0.eq_2 ..) (ev_if rfl x))
  · refine ev_else h (Ev.step (fun k => tmesislaw05_LayoutComments.j0.eq_2 ..) ?_)
    by_cases h2 : a1 = 42
    · exact ev_if (by simp [h2]) x
    · exact ev_else (by simp [h2]) (inner a1 b1 h h2 _ hm l2 hl)
end Go.Proofs.YtfmhhjimnhfbaaaDoor.Pure
