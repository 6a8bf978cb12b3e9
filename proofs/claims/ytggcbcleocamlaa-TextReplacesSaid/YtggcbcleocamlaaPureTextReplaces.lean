/- Apply, Invert and Move agree with the reference, for any replacements; conditions: none (longer texts and more replacements are let through by the statement itself). -/
import Derived.Test.YtggcbcleocamlaaStatTextReplaces
import Derived.Test.YtggcbcleocamlaaTxB
import Derived.Test.YtggcbcleocamlaaTxAw
namespace Go.Proofs.Ytggcbcleocamlaa.Pure
open Go.RowKit Go.Proofs.Ytggcbcleocamlaa.P Go.Proofs.YtggcbcleocamlaaW.PrintWords Go.Proofs.YtggcbcleocamlaaW.PrintLast
theorem TextReplaces : assessorlaw01_TextReplaces.Pure := by
  intro s l at_ hs hl _
  refine Ev.rounds ?_
  unfold assessorlaw01_TextReplaces.f
  by_cases h1 : (s.size : Int) > 300
  · exact ev_ifp h1 (Ev.step (fun k => assessorlaw01_TextReplaces.j0.eq_2 s l at_ true k) (ev_ifp rfl awake_some))
  · refine ev_ifn h1 (Ev.bind (f := fun k t => assessorlaw01_TextReplaces.j0 k s l at_ (!t)) (few_ev l hl.1) ?_)
    by_cases h2 : fewB l = true
    · obtain ⟨f1, f2⟩ := few_of h2
      have f3 : ∀ x ∈ l, x.f2.size ≤ 300 := fun x hx => by have := f2 x hx; omega
      refine Ev.step (fun k => assessorlaw01_TextReplaces.j0.eq_2 s l at_ _ k) (ev_ifn (by simp [h2]) ?_)
      refine Ev.bind (apply_ev s (by omega) l f1 f3) (Ev.bind (ref_apply_ev s (by omega) l f1 f3) (Ev.bind (inv_ev s (by omega) l f1 f3) (Ev.bind (ref_inv_ev s (by omega) l f1 f3) ?_)))
      refine ev_ifp rfl (ev_ifp rfl (Ev.bind (same_ev _ ?_) (ev_ifp rfl (ev_ifp rfl ?_))))
      · unfold invR
        split
        · show (invP s l 0).length ≤ maxLen
          rw [invP_len]; unfold maxLen; omega
        · exact Nat.zero_le _
      · exact Ev.bind (move_ev l f1 f2 at_) (Ev.bind (ref_move_ev l f1 f2 at_) (ev_ifp rfl awake_some))
    · exact Ev.step (fun k => assessorlaw01_TextReplaces.j0.eq_2 s l at_ _ k) (ev_ifp (by simp [h2]) awake_some)
end Go.Proofs.Ytggcbcleocamlaa.Pure
