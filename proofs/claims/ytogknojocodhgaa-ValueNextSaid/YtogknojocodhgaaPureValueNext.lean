/- Next agrees with the reference, for any lists; conditions: none (longer lists than 40 are let through by the statement itself). -/
import Derived.Test.YtogknojocodhgaaVaN
import Derived.Test.YtogknojocodhgaaVaAw
import Derived.Test.YtogknojocodhgaaPx17
namespace Go.Proofs.Ytogknojocodhgaa.Pure
open Go.RowKit Go.Proofs.Ytogknojocodhgaa.P Go.Proofs.YtogknojocodhgaaW.PrintWords Go.Proofs.YtogknojocodhgaaW.PrintLast
theorem ValueNext : assessorlaw11_ValueNext.Pure := by
  intro l0 l1 l2 _ _ _ _ _ _ _ _ _
  refine Ev.rounds ?_
  unfold assessorlaw11_ValueNext.f
  by_cases a : (l0.length : Int) > 40
  · exact ev_ifp a (Ev.step (fun k => assessorlaw11_ValueNext.j0.eq_2 l0 l1 l2 _ k) (ev_ifp rfl awake_some))
  · by_cases b : (l1.length : Int) > 40
    · exact ev_ifn a (ev_ifp b (Ev.step (fun k => assessorlaw11_ValueNext.j0.eq_2 l0 l1 l2 _ k) (ev_ifp rfl awake_some)))
    · refine ev_ifn a (ev_ifn b (Ev.step (fun k => assessorlaw11_ValueNext.j0.eq_2 l0 l1 l2 _ k) ?_))
      by_cases c : (l2.length : Int) > 40
      · exact ev_ifp (decide_eq_true c) awake_some
      · obtain ⟨r, hr, e1, e2⟩ := next_two l0 l1 l2 (by omega)
        refine ev_ifn (by simpa using c) (Ev.bind e1 (Ev.bind e2 (Ev.bind (ints_ev r.1 (by omega)) (ev_ifp rfl (ev_ifp (by simp) awake_some)))))
end Go.Proofs.Ytogknojocodhgaa.Pure
