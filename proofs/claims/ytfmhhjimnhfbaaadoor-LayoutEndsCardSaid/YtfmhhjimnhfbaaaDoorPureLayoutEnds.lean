/- Behind what is skipped nothing more is. No conditions. -/
import Derived.Test.YtfmhhjimnhfbaaaDoorLayoutSh
import Derived.Test.YtfmhhjimnhfbaaaDoorPx7
namespace Go.Proofs.YtfmhhjimnhfbaaaDoor.Pure
set_option linter.unusedSimpArgs false
set_option linter.unusedVariables false
open Go.RowKit Go.Proofs.YtfmhhjimnhfbaaaDoor.P Go.Proofs.YtfmhhjimnhfbaaaDoorW.PrintWords Go.Proofs.YtfmhhjimnhfbaaaDoorW.PrintLast Go.Proofs.YtfmhhjimnhfbaaaDoorW.PrintMore
theorem step0 {s : List Int} {e : Int} (h : stepS s = (0, e)) : (s = [] ∧ e = 0) ∨ (∃ c r, s = c :: r ∧ classOf c ≠ 1 ∧ c ≠ 37 ∧ ((two 47 42 s = true ∧ e = 14) ∨ (two 47 42 s = false ∧ e = 0))) := by
  match s with
  | [] => left; exact ⟨rfl, (Prod.mk.inj h).2.symm⟩
  | c :: r =>
    right
    refine ⟨c, r, rfl, ?_⟩
    rw [stepS] at h
    by_cases h1 : classOf c = 1
    · rw [if_pos h1] at h; cases (Prod.mk.inj h).1
    rw [if_neg h1] at h
    by_cases h2 : c = 37
    · rw [if_pos h2, lineS_cons, if_neg (by omega)] at h; cases (Prod.mk.inj h).1
    rw [if_neg h2] at h
    refine ⟨h1, h2, ?_⟩
    by_cases h3 : two 47 42 (c :: r) = true
    · rw [if_pos h3] at h
      cases h4 : comS (c :: r) with
      | none =>
        rw [h4] at h
        exact .inl ⟨h3, (Prod.mk.inj h).2.symm⟩
      | some n =>
        rw [h4] at h
        obtain ⟨m, hm, hn⟩ := Option.map_eq_some_iff.1 h4
        have := (Prod.mk.inj h).1
        omega
    · rw [if_neg h3] at h
      exact .inr ⟨by simpa using h3, (Prod.mk.inj h).2.symm⟩
theorem two_str {s : List Int} (hs : Bytes s) : ((strOfNums (s.take 2)).toList == ([47, 42] : List UInt8)) = two 47 42 s := by
  rw [strOf_list]
  match s, hs with
  | [], _ => rfl
  | [x], _ => show ([UInt8.ofNat x.toNat] == ([47, 42] : List UInt8)) = false; simp
  | x :: y :: r, hs =>
    have hx := hs x (by simp)
    have hy := hs y (by simp)
    show (([UInt8.ofNat x.toNat, UInt8.ofNat y.toNat] : List UInt8) == [UInt8.ofNat (47 : Int).toNat, UInt8.ofNat (42 : Int).toNat]) = (x == 47 && y == 42)
    rw [Bool.eq_iff_iff, beq_iff_eq, Bool.and_eq_true, beq_iff_eq, beq_iff_eq, List.cons.injEq, List.cons.injEq]
    constructor
    · rintro ⟨h1, h2, _⟩
      exact ⟨u8_inj hx (by omega) h1, u8_inj hy (by omega) h2⟩
    · rintro ⟨rfl, rfl⟩
      exact ⟨rfl, rfl, rfl⟩
theorem lay32 : classOf 32 = 1 := by decide +kernel
theorem lay9 : classOf 9 = 1 := by decide +kernel
theorem lay10 : classOf 10 = 1 := by decide +kernel
theorem lay13 : classOf 13 = 1 := by decide +kernel
theorem LayoutEnds : tmesislaw05_LayoutEnds.Pure := by
  intro l0 hmax hmax2 hw
  have hl0 : Bytes l0 := fun x hx => u8_wf (hw x hx)
  apply Ev.rounds
  unfold tmesislaw05_LayoutEnds.f
  refine Ev.bind shown_ev (ev_same (few_eq l0) ?_)
  generalize ht : l0.take 150 = t
  have hb : Bytes t := by rw [← ht]; exact fun x hx => hl0 x (List.mem_of_mem_take hx)
  have hn : t.length ≤ 150 := by rw [← ht, List.length_take]; omega
  clear ht hmax hmax2 hw hl0
  refine Ev.bind (skip_ev t hb (by omega)) (ev_if rfl ?_)
  have hle := skipS_le (t.length + 1) t (by omega)
  have hend := skipS_end (t.length + 1) t (by omega)
  generalize skipS t = ne at hle hend
  obtain ⟨n, e⟩ := ne
  simp only at hle hend ⊢
  have hml : (t.drop n).length = t.length - n := List.length_drop
  refine ev_else (by omega) (Ev.step (fun k => tmesislaw05_LayoutEnds.j0.eq_2 ..) ?_)
  refine ev_else (by rw [decide_eq_true_eq]; omega) (ev_if (by omega) (ev_if (by omega) ?_))
  rw [show t.drop ((n : Int)).toNat = t.drop n from rfl]
  refine Ev.bind (skip_ev _ (hb.drop n) (by omega)) ?_
  rw [skipS_stop (by rw [hend]), hend]
  refine ev_if rfl (Ev.step (fun k => tmesislaw05_LayoutEnds.j1.eq_2 ..) (ev_else (by simp) ?_))
  have hw2 : wrap64 ((n : Int) + 2) = ((n + 2 : Nat) : Int) := by rw [w64 (by omega) (by omega)]; omega
  rw [hw2]
  have hmn : mn ((n + 2 : Nat) : Int) (t.length : Int) = ((min (n + 2) t.length : Nat) : Int) := by unfold mn; split <;> omega
  rw [hmn]
  have hcut : (t.take (((min (n + 2) t.length : Nat) : Int)).toNat).drop ((n : Int)).toNat = (t.drop n).take 2 := by
    rw [Int.toNat_natCast, Int.toNat_natCast, List.drop_take]
    by_cases h : n + 2 ≤ t.length
    · rw [show min (n + 2) t.length - n = 2 by omega]
    · rw [List.take_of_length_le (by omega), List.take_of_length_le (by omega)]
  rw [hcut]
  refine ev_if (by omega) (ev_if (by omega) (ev_if (by omega) (ev_same rfl ?_)))
  rw [two_str (hb.drop n)]
  rcases step0 hend with ⟨h1, rfl⟩ | ⟨c, r, h1, hc, h37, h2⟩
  · have : n = t.length := by have := congrArg List.length h1; simp at this; omega
    exact ev_else (by omega) (ev_if rfl (ev_if (by omega) (ev_now rfl)))
  · have hnt : n < t.length := by have := congrArg List.length h1; simp at this; omega
    have erd : rd t (n : Int) = c := by
      rw [rd_at t n hnt]
      have : (t.drop n)[0]? = some c := by rw [h1]; rfl
      rw [List.getElem?_drop, List.getElem?_eq_getElem (by omega)] at this
      exact Option.some.inj this
    rcases h2 with ⟨h2, rfl⟩ | ⟨h2, rfl⟩
    · exact ev_if rfl (ev_now (by rw [h2]))
    · refine ev_else (by omega) (ev_if rfl (ev_else (by omega) (ev_if (by omega) ?_)))
      rw [erd]
      refine ev_else h37 (ev_else (fun h => hc (h ▸ lay32)) (ev_else (fun h => hc (h ▸ lay9)) (ev_else (fun h => hc (h ▸ lay10)) (ev_else (fun h => hc (h ▸ lay13)) (ev_now ?_)))))
      rw [bne, two_str (hb.drop n), h2]; rfl
end Go.Proofs.YtfmhhjimnhfbaaaDoor.Pure
