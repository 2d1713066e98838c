/- Bytes behind others begin where these end. No conditions. -/
import Derived.Test.YtkbkmapaeidedaaLines
import Derived.Test.YtkbkmapaeidedaaPx5
namespace Go.Proofs.Ytkbkmapaeidedaa.Pure
set_option linter.unusedSimpArgs false
set_option linter.unusedVariables false
open Go.RowKit Go.Proofs.Ytkbkmapaeidedaa.P Go.Proofs.YtkbkmapaeidedaaW.PrintWords Go.Proofs.YtkbkmapaeidedaaW.PrintLast Go.Proofs.YtkbkmapaeidedaaW.PrintMore
theorem colS_all (l : List Int) (h : nls l = 0) : colS l = l.length := by
  have := colS_append [] l
  rw [if_pos h] at this
  simpa [colS_nil] using this
theorem LinesJoin : tmesislaw09_LinesJoin.Pure := by
  intro l0 l1 a2 hmax hmax2 hw hmax' hmax2' hw' h2
  have hx : Bytes (l0.take 120) := (bytes_wf hw).take _
  have hy : Bytes (l1.take 120) := (bytes_wf hw').take _
  have hxn : (l0.take 120).length ≤ 120 := by rw [List.length_take]; omega
  have hyn : (l1.take 120).length ≤ 120 := by rw [List.length_take]; omega
  have b2 := u8_wf h2
  clear hmax hmax2 hw hmax' hmax2' hw' h2
  apply Ev.rounds
  unfold tmesislaw09_LinesJoin.f
  refine Ev.bind shown_ev (ev_same (few_eq l0) (ev_same (few_eq l1) ?_))
  generalize l0.take 120 = x at hx hxn
  generalize l1.take 120 = y at hy hyn
  have hw1 : wrap64 ((y.length : Int) + 1) = ((y.length + 1 : Nat) : Int) := by rw [w64 (by omega) (by omega)]; omega
  have hk : Int.tmod (wrap64 a2) ((y.length + 1 : Nat) : Int) = ((a2.toNat % (y.length + 1) : Nat) : Int) := by
    rw [w64 (i := a2) (by omega) (by omega), Int.tmod_eq_emod_of_nonneg (by omega), Int.natCast_emod, Int.toNat_of_nonneg b2.1]
  rw [hw1, hk]
  have hkl : a2.toNat % (y.length + 1) < y.length + 1 := Nat.mod_lt _ (by omega)
  generalize a2.toNat % (y.length + 1) = k at hkl
  have hw2 : wrap64 ((x.length : Int) + (k : Int)) = ((x.length + k : Nat) : Int) := by rw [w64 (by omega) (by omega)]; omega
  rw [hw2]
  have p1 := place_ev x hx (by omega) x.length (Nat.le_refl _)
  rw [List.take_length] at p1
  have p2 := place_ev y hy (by omega) k (by omega)
  have p3 := place_ev (x ++ y) (hx.app hy) (by rw [List.length_append]; omega) (x.length + k) (by rw [List.length_append]; omega)
  have ht : (x ++ y).take (x.length + k) = x ++ y.take k := by
    rw [List.take_append, List.take_of_length_le (by omega), Nat.add_sub_cancel_left]
  rw [ht, nls_append, colS_append] at p3
  have n1 := nls_le x
  have n2 := nls_le (y.take k)
  have n3 := colS_le x
  have n4 := colS_le (y.take k)
  have hyl : (y.take k).length = k := by rw [List.length_take]; omega
  refine ev_else (by omega) (Ev.bind p1 (Ev.bind p2 (ev_same rfl (ev_if (by simp only [List.length_nil]; omega) (ev_same rfl (ev_if (by rw [List.nil_append]; omega) ?_))))))
  rw [List.nil_append]
  refine Ev.bind p3 ?_
  simp only
  rw [w64 (i := (nls x : Int) + nls (y.take k)) (by omega) (by omega)]
  by_cases h : nls (y.take k) = 0
  · rw [if_pos h]
    have hc := colS_all _ h
    refine ev_if (by omega) (ev_if (by first | rfl | trivial) (ev_if (by first | rfl | trivial) (ev_if (by first | rfl | trivial) (ev_if (by first | rfl | trivial) (ev_if (by omega) (ev_if ?_ (Ev.bind (count_ev x hx (by omega)) (ev_now ?_))))))))
    · rw [w64 (by omega) (by omega)]; omega
    · rw [w64 (by omega) (by omega)]; simp
  · rw [if_neg h]
    refine ev_else (by omega) (ev_if (by first | rfl | trivial) (ev_if (by first | rfl | trivial) (ev_if (by first | rfl | trivial) (ev_if (by first | rfl | trivial) (ev_if (by omega) (ev_if (by first | rfl | trivial) (Ev.bind (count_ev x hx (by omega)) (ev_now ?_))))))))
    rw [w64 (by omega) (by omega)]; simp
end Go.Proofs.Ytkbkmapaeidedaa.Pure
