/- Keyword, Name, Number and Space of the lexer agree with the reference, for any two strings; conditions: none (longer strings than 60 bytes are let through by the statement itself). -/
import Derived.Test.YtefoijgjdmjhoaaLexC
import Derived.Test.YtefoijgjdmjhoaaPx19
namespace Go.Proofs.Ytefoijgjdmjhoaa.Pure
open Go.RowKit Go.Proofs.Ytefoijgjdmjhoaa.P Go.Proofs.YtefoijgjdmjhoaaW.PrintWords Go.Proofs.YtefoijgjdmjhoaaW.PrintLast
theorem awake_ev : Ev (fun k => assessorlaw02_awake.f k) true := by
  refine Ev.of (k := 60) (fun k => assessorlaw02_awake.mono k) ?_
  decide +kernel
theorem LexerForms : assessorlaw02_LexerForms.Pure := by
  intro a b ha hb
  refine Ev.rounds ?_
  unfold assessorlaw02_LexerForms.f
  by_cases h1 : (a.size : Int) > 60
  · exact ev_ifp h1 (Ev.step (fun k => assessorlaw02_LexerForms.j0.eq_2 a b true k) (ev_ifp rfl (Ev.bind (f := fun _ t => some t) awake_ev (ev_some rfl))))
  · refine ev_ifn h1 (Ev.step (fun k => assessorlaw02_LexerForms.j0.eq_2 a b _ k) ?_)
    by_cases h2 : (b.size : Int) > 60
    · exact ev_ifp (by simp; omega) (Ev.bind (f := fun _ t => some t) awake_ev (ev_some rfl))
    · refine ev_ifn (by simp; omega) ?_
      obtain ⟨n, hn, en⟩ := numbers a ha
      obtain ⟨m, hm, em⟩ := names a ha
      rw [hn, hm, keyword_f ha]
      simp only [Option.bind_some]
      refine Ev.bind en (Ev.bind (ref_keyword_ev a) (ev_ifp (by simp) (Ev.bind em (ev_ifp (by simp) (ev_ifp rfl (ev_ifp (by simp) ?_))))))
      exact Ev.bind (lexer_Space_ev a b (by omega)) (Ev.bind (ref_Space_ev a b (by omega)) (ev_ifp rfl (Ev.bind (f := fun _ t => some t) awake_ev (ev_some rfl))))
end Go.Proofs.Ytefoijgjdmjhoaa.Pure
