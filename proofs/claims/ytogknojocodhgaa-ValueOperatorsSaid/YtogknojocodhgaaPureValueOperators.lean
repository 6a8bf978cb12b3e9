/- Wrap, Least, Greatest, Binary and Unary agree with the reference, for any widths, operators and numbers; conditions: none. -/
import Derived.Test.YtogknojocodhgaaVaPm
import Derived.Test.YtogknojocodhgaaPx15
namespace Go.Proofs.Ytogknojocodhgaa.Pure
open Go.RowKit Go.Proofs.Ytogknojocodhgaa.P Go.Proofs.YtogknojocodhgaaW.PrintWords Go.Proofs.YtogknojocodhgaaW.PrintLast Go.Proofs.YtogknojocodhgaaW.PrintMore
theorem ValueOperators : assessorlaw11_ValueOperators.Pure := by
  intro w s a b _ hs _ _
  refine Ev.rounds ?_
  unfold assessorlaw11_ValueOperators.f
  rw [show value_BinaryM.f w s a b = some (binR w s a b) from by unfold value_BinaryM.f; rw [if_pos hs]]
  refine ev_bs (f := fun k t => _) (Ev.bind (binary_ev w s a b) (Ev.bind (unary_ev w s a) (Ev.bind (unary_ref w s a) ?_)))
  by_cases h : 2 ≤ w ∧ w ≤ 8
  · rw [wrap_eq w a h, least_eq w h, greatest_eq w h]
    refine ev_bs (f := fun k t => _) (Ev.bind (rWrap_ev w a h) (ev_ifp rfl (ev_bs (f := fun k t => _) (Ev.bind (rLeast_ev w h) (ev_ifp rfl (ev_bs (f := fun k t => _) (Ev.bind (rGreatest_ev w h) (ev_ifp rfl ?_))))))))
    exact ev_ifp rfl (ev_ifp rfl (ev_ifp rfl (ev_ifp rfl (ev_ifp rfl awake_some))))
  · rw [wrap_no w a h, least_no w h, greatest_no w h]
    refine ev_bs (f := fun k t => _) (Ev.bind (rWrap_no w a h) (ev_ifp rfl (ev_bs (f := fun k t => _) (Ev.bind (rLeast_no w h) (ev_ifp rfl (ev_bs (f := fun k t => _) (Ev.bind (rGreatest_no w h) (ev_ifp rfl ?_))))))))
    exact ev_ifp rfl (ev_ifp rfl (ev_ifp rfl (ev_ifp rfl (ev_ifp rfl awake_some))))
end Go.Proofs.Ytogknojocodhgaa.Pure
