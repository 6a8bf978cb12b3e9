-- Texts of this claim, put together and cut down to what is used (trim.py, a program of this session).
import Derived.Test.YtogknojocodhgaaZ24
import Derived.Test.YtogknojocodhgaaZ33
import Derived.Test.YtogknojocodhgaaZ43
import Derived.Test.YtogknojocodhgaaZ46
section
namespace Go.Proofs.Ytogknojocodhgaa.P
open Go.RowKit Go.Proofs.YtogknojocodhgaaW.PrintWords
theorem awake_ev : Ev (fun k => assessorlaw11_awake.f k) true := Ev.of (k := 60) (fun k => assessorlaw11_awake.mono k) (by decide +kernel)
theorem awake_some : Ev (fun k => (assessorlaw11_awake.f k).bind fun t => some t) true := Ev.bind (f := fun _ t => some t) awake_ev (ev_some rfl)
end Go.Proofs.Ytogknojocodhgaa.P
end
section
namespace Go.Proofs.Ytogknojocodhgaa.Pure
open Go.RowKit Go.Proofs.Ytogknojocodhgaa.P Go.Proofs.YtogknojocodhgaaW.PrintWords Go.Proofs.YtogknojocodhgaaW.PrintLast Go.Proofs.YtogknojocodhgaaW.PrintMore
theorem reads_ints_from (l : List Int) (hl : l.length ≤ 1000000) : ∀ (m i : Nat), i + m = l.length → Ev (fun k => assessorref01_Ints.l0 k l l (i : Int)) true
  | 0, i, h => Ev.step (fun k => assessorref01_Ints.l0.eq_2 l l i k) (ev_ifn (by omega) (ev_some rfl))
  | m + 1, i, h => by
    refine Ev.step (fun k => assessorref01_Ints.l0.eq_2 l l i k) (ev_ifp (by omega) (ev_ifp (by omega) (ev_ifp (by omega) (ev_ifp rfl ?_))))
    rw [w1 (by omega) (by omega)]
    exact reads_ints_from l hl m (i + 1) (by omega)
theorem reads_ints (l : List Int) (hl : l.length ≤ 1000000) : Ev (fun k => assessorref01_Ints.f k l l) true := by
  unfold assessorref01_Ints.f
  exact ev_ifp rfl (reads_ints_from l hl l.length 0 (by omega))
theorem words_of (s : ByteArray) (ps : Pcs) (e : Bs) (hok : okP ps e) (h : s.data.toList = flat ps ++ e) : wordsP s (tokT s) = (ps.map fun p => p.2).map (fun w : Bs => (⟨w.toArray⟩ : ByteArray)) ++ [(⟨#[]⟩ : ByteArray)] := by
  have hsz := size_app h
  have hl := okP_len ps e hok
  obtain ⟨ts, last, e1, e2, e3, e4, e5, e6⟩ := toks_pieces s ps e [] (s.size + 1) (by omega) hok (by simpa using h)
  have et : tokT s = ts ++ [last] := e1
  rw [et]
  unfold wordsP at e5 e6 ⊢
  rw [List.map_append, e5, e6, List.map_map]
  rfl
theorem tail_seps : ∀ r : List Bs, Lib.joinTail SEP (r ++ [[]]) = flat (r.map fun x => (SEP, x)) ++ SEP
  | [] => by simp [Lib.joinTail, flat]
  | x :: r => by
    have ih := tail_seps r
    simp only [Lib.joinTail, List.cons_append, List.map_cons, List.flatten_cons, flat] at ih ⊢
    rw [ih]; simp
theorem text_two (W : List Bs) (hW : ∀ w ∈ W, ww w ∧ w.length ≤ 16) (hl : W.length ≤ 63) : ∃ (s : ByteArray) (ps : Pcs) (e : Bs), strings_Join.f (W.map (fun w : Bs => (⟨w.toArray⟩ : ByteArray)) ++ [(⟨#[]⟩ : ByteArray)]) (⟨#[32, 35, 32, 99, 10]⟩ : ByteArray) = some s ∧ s.size ≤ 4096 ∧ okP ps e ∧ s.data.toList = flat ps ++ e ∧ ps.map (fun p => p.2) = W := by
  have hmap : (W.map (fun w : Bs => (⟨w.toArray⟩ : ByteArray)) ++ [(⟨#[]⟩ : ByteArray)]).map (fun x : ByteArray => x.data.toList) = W ++ [[]] := by
    rw [List.map_append, List.map_map]
    simp [Function.comp_def]
  have key : ∃ (ps : Pcs) (e : Bs), okP ps e ∧ Lib.join (W ++ [[]]) SEP = flat ps ++ e ∧ ps.map (fun p => p.2) = W ∧ (flat ps ++ e).length ≤ 4096 := by
    cases W with
    | nil => exact ⟨[], [], .inl rfl, rfl, rfl, by simp [flat]⟩
    | cons w r =>
      have hok := pcs2_ok (w :: r) (fun x hx => (hW x hx).1)
      have hfl := flat_len (pcs2 (w :: r)) (okP_bound _ _ hok (fun x hx => by rw [pcs2_words] at hx; exact (hW x hx).2))
      have hpl : (pcs2 (w :: r)).length = (w :: r).length := by rw [← List.length_map (f := fun p : Bs × Bs => p.2), pcs2_words]
      refine ⟨pcs2 (w :: r), SEP, hok, ?_, pcs2_words _, ?_⟩
      · rw [List.cons_append, Lib.join_cons, tail_seps]
        simp [pcs2, flat]
      · rw [List.length_append]; simp only [SEP, List.length_cons, List.length_nil] at *; omega
  obtain ⟨ps, e, h1, h2, h3, h4⟩ := key
  refine ⟨joinB (W.map (fun w : Bs => (⟨w.toArray⟩ : ByteArray)) ++ [(⟨#[]⟩ : ByteArray)]) (⟨#[32, 35, 32, 99, 10]⟩ : ByteArray), ps, e, ?_, ?_, h1, ?_, h3⟩
  · unfold strings_Join.f
    refine if_pos ⟨by simp; omega, ?_⟩
    rw [hmap]
    show (Lib.join (W ++ [[]]) SEP).length ≤ _
    rw [h2]; omega
  · show (Lib.join _ _).toArray.size ≤ 4096
    rw [List.size_toArray, hmap]
    show (Lib.join (W ++ [[]]) SEP).length ≤ _
    rw [h2]; exact h4
  · show (Lib.join _ _).toArray.toList = _
    rw [hmap]
    show Lib.join (W ++ [[]]) SEP = _
    exact h2
theorem sc_len (k n : Int) (rec : ByteArray) (l2 : List S57) (hva : validT k n rec l2 = true) (hf : (rd_T57 l2 (recIx l2 rec : Int)).f1.length ≤ 20) : (scalarsT k n rec l2).length ≤ 20 := by
  unfold scalarsT
  by_cases h1 : k = 1 ∨ k = 2
  · rw [if_pos h1]; simp
  · rw [if_neg h1]
    by_cases h3 : k = 3
    · rw [if_pos h3, List.length_replicate]
      subst h3
      have : 1 ≤ n ∧ n ≤ 8 ∧ noRec rec = true := by simpa [validT] using hva
      omega
    · rw [if_neg h3, List.length_map]; exact hf
theorem main (wd k n : Int) (rec : ByteArray) (l2 : List S57) (l : List Int) (hk : (Lit.int .i64 k).wf = true) (hf : (rd_T57 l2 (recIx l2 rec : Int)).f1.length ≤ 20) (hB : validB wd k n rec l2 l = true) (hrec : k = 4 → isNm rec.toList ∧ rec.toList.length ≤ 16) :
    Ev (fun kk => assessorlaw11_ValueReads.j0 kk wd l2 l false k n rec) true := by
  simp only [validB, Bool.and_eq_true, decide_eq_true_eq] at hB
  obtain ⟨hw, hva, hc⟩ := hB
  obtain ⟨hv, hin⟩ := chk_all wd hw _ _ hc
  have hsc := sc_len k n rec l2 hva hf
  have hll := allV_len _ _ hv
  obtain ⟨s, es, hs⟩ := fmt_ev k n rec l2 l hk hva hf hv (by omega) hrec
  have hok := all_ok k rec.toList _ l hv (fun h => (hrec h).1)
  have hfl := all_flat_len k rec.toList _ l hv hrec hsc
  have hss : s.data.toList = flat (allP k rec.toList (scalarsT k n rec l2) l) ++ [] := by rw [List.append_nil]; exact hs
  have hsz : s.size ≤ 4096 := by
    have := size_app hss
    simp only [List.length_nil] at this
    omega
  have hp1 := parse_text wd k n rec l2 l s _ [] hw hk hva (by omega) hsz hok hss (allP_words _ _ _ _) hv hin
  have hwds := words_of s _ [] hok hss
  rw [allP_words] at hwds
  have hww := all_ww k rec.toList _ l hv hrec
  have hwl := all_len k rec.toList _ l hv
  obtain ⟨s2, ps2, e2, j1, j2, j3, j4, j5⟩ := text_two _ hww (by omega)
  have hp2 := parse_text wd k n rec l2 l s2 ps2 e2 hw hk hva (by omega) j2 j3 j4 j5 hv hin
  obtain ⟨sc1, sc2, sc3⟩ := scan_ok hsz
  have hscan := ref_Scan_ev s
  rw [sc1] at hscan
  have hwev := ref_Words_ev s (tokT s) sc2 sc3
  rw [hwds] at hwev
  refine Ev.step (fun kk => assessorlaw11_ValueReads.j0.eq_2 wd l2 l _ k n rec kk) (ev_ifn (by simp) (Ev.bind es ?_))
  rw [hp1]
  refine ev_bs (f := fun kk t => _) (Ev.bind hscan (Ev.bind hwev ?_))
  rw [j1]
  refine ev_bs (f := fun kk t => _) ?_
  rw [hp2]
  refine ev_bs (f := fun kk t => _) (ev_ifp rfl (Ev.bind (reads_ints l (by omega)) (ev_ifp rfl (ev_ifp rfl (Ev.bind (reads_ints l (by omega)) (ev_ifp rfl awake_some))))))
theorem ValueReads : assessorlaw11_ValueReads.Pure := by
  intro wd t l2 l _ hok h2 h3
  obtain ⟨k, n, rec⟩ := t
  obtain ⟨hk, _, _⟩ := hok
  have hk : (Lit.int .i64 k).wf = true := hk
  show ∃ kk, assessorlaw11_ValueReads.f kk wd k n rec l2 l = some true
  refine Ev.rounds ?_
  unfold assessorlaw11_ValueReads.f
  have skip : Ev (fun kk => assessorlaw11_ValueReads.j0 kk wd l2 l true k n rec) true := Ev.step (fun kk => assessorlaw11_ValueReads.j0.eq_2 wd l2 l _ k n rec kk) (ev_ifp rfl awake_some)
  refine Ev.bind (few_ev l2 h2.1) ?_
  cases hfew : fewB l2
  · exact ev_ifn (by simp) skip
  · refine ev_ifp rfl ?_
    have hf := few_at l2 hfew (recIx l2 rec)
    refine Ev.bind (valid_ev wd k n rec l2 l hk hf h3.1) ?_
    cases hB : validB wd k n rec l2 l
    · exact ev_ifn (by simp) skip
    · refine ev_ifp rfl ?_
      by_cases h4 : k = 4
      · refine ev_ifp h4 (Ev.bind (ref_Name_ev rec) ?_)
        cases hnm : nameB rec
        · exact skip
        · exact main wd k n rec l2 l hk hf hB (fun _ => name_nm rec hnm)
      · exact ev_ifn h4 (main wd k n rec l2 l hk hf hB (fun h => absurd h h4))
end Go.Proofs.Ytogknojocodhgaa.Pure
end
