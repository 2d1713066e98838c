/- For any bytes (200 at most) utf.Take, Valid and Count answer as the reference does. No conditions. -/
import Derived.Test.YtcemcdjpihokoaaUtfEach
import Derived.Test.YtcemcdjpihokoaaPx3
namespace Go.Proofs.Ytcemcdjpihokoaa.Pure
open Go.RowKit Go.Proofs.Ytcemcdjpihokoaa.P Go.Proofs.YtcemcdjpihokoaaW.PrintWords Go.Proofs.YtcemcdjpihokoaaW.PrintLast

theorem UtfAll : tmesislaw01_UtfAll.Pure := by
  intro l _ _ _
  apply Ev.rounds
  unfold tmesislaw01_UtfAll.f
  have hl : (l.take 200).length ≤ 1000000 := by rw [List.length_take]; omega
  refine Ev.bind shown_ev (ev_same (few_eq l) ?_)
  generalize l.take 200 = m at hl ⊢
  refine Ev.bind (take_ev m) (Ev.bind (rtake_ev m) ?_)
  refine ev_if rfl (ev_if rfl (ev_if (by simp) ?_))
  refine Ev.bind (valid_ev m hl) (Ev.bind (rvalid_ev m hl) (ev_if (by simp) ?_))
  refine Ev.bind (count_ev m hl) (Ev.bind (rcount_ev m hl) (ev_now (by simp)))
end Go.Proofs.Ytcemcdjpihokoaa.Pure
