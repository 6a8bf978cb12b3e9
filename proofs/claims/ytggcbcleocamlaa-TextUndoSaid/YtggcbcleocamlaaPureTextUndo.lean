/- The inverted replacements fit the text after the replacements and restore the text, and inverting them again gives the replacements; conditions: none (longer texts and more replacements are let through by the statement itself). -/
import Derived.Test.YtggcbcleocamlaaStatTextUndo
import Derived.Test.YtggcbcleocamlaaTxB
import Derived.Test.YtggcbcleocamlaaTxAw
namespace Go.Proofs.Ytggcbcleocamlaa.Pure
open Go.RowKit Go.Proofs.Ytggcbcleocamlaa.P Go.Proofs.YtggcbcleocamlaaW.PrintWords Go.Proofs.YtggcbcleocamlaaW.PrintLast
theorem sub_app (P X Y : List UInt8) (i j : Nat) (hi : i = P.length) (hj : j = P.length + X.length) : sub (P ++ (X ++ Y)) i j = X := by
  subst hi hj
  unfold sub
  rw [List.drop_left, Nat.add_sub_cancel_left, List.take_left]
theorem undo_from (s T : ByteArray) : ∀ (l : List S24) (a sh : Int) (P : List UInt8), Ch s.size l a → (P.length : Int) = a + sh → T.data.toList = P ++ applyB s l a →
    Ch T.size (invP s l sh) (a + sh) ∧ applyB T (invP s l sh) (a + sh) = sub s.data.toList a.toNat s.size ∧ invP T (invP s l sh) (-sh) = l
  | [], a, sh, P, hc, hP, hT => by
    obtain ⟨h0, h1⟩ := hc
    have hlen : (T.size : Int) = a + sh + (s.size - a) := by
      have e := congrArg List.length hT
      rw [len_data, List.length_append] at e
      simp only [applyB, ext_sub] at e
      rw [sub_len _ _ _ (by rw [len_data]; omega)] at e
      omega
    refine ⟨⟨by omega, by omega⟩, ?_, rfl⟩
    simp only [invP, applyB, ext_sub] at hT ⊢
    rw [hT]
    have := sub_app P (sub s.data.toList a.toNat s.size) [] (a + sh).toNat T.size (by omega) (by rw [sub_len _ _ _ (by rw [len_data]; omega)]; omega)
    rwa [List.append_nil] at this
  | x :: r, a, sh, P, hc, hP, hT => by
    obtain ⟨h0, h1, h2, h3, h4⟩ := hc
    simp only [applyB, ext_sub] at hT
    have hl0 : (sub s.data.toList a.toNat x.f0.toNat).length = x.f0.toNat - a.toNat := sub_len _ _ _ (by rw [len_data]; omega)
    have hl1 : x.f2.data.toList.length = x.f2.size := len_data _
    have hT2 : T.data.toList = (P ++ (sub s.data.toList a.toNat x.f0.toNat ++ x.f2.data.toList)) ++ applyB s r x.f1 := by rw [hT]; simp
    have hP2 : ((P ++ (sub s.data.toList a.toNat x.f0.toNat ++ x.f2.data.toList)).length : Int) = x.f1 + (sh + (x.f2.size - (x.f1 - x.f0))) := by
      rw [List.length_append, List.length_append, hl0, hl1]; omega
    obtain ⟨i1, i2, i3⟩ := undo_from s T r x.f1 (sh + (x.f2.size - (x.f1 - x.f0))) _ h4 hP2 hT2
    have hn : (x.f0 + sh + x.f2.size : Int) ≤ T.size := by
      have e := congrArg List.length hT2
      rw [len_data, List.length_append] at e
      omega
    have e1 : x.f1 + (sh + (x.f2.size - (x.f1 - x.f0))) = x.f0 + sh + x.f2.size := by omega
    rw [e1] at i1 i2
    have sX : (T.extract (a + sh).toNat (x.f0 + sh).toNat).data.toList = sub s.data.toList a.toNat x.f0.toNat := by
      rw [ext_sub, hT]; exact sub_app _ _ _ _ _ (by omega) (by rw [hl0]; omega)
    have sT : (T.extract (x.f0 + sh).toNat (x.f0 + sh + x.f2.size).toNat).data.toList = x.f2.data.toList := by
      rw [ext_sub, hT, ← List.append_assoc P]; exact sub_app _ _ _ _ _ (by rw [List.length_append, hl0]; omega) (by rw [List.length_append, hl0, hl1]; omega)
    refine ⟨⟨by omega, by show a + sh ≤ x.f0 + sh; omega, by show x.f0 + sh ≤ x.f0 + sh + x.f2.size; omega, hn, i1⟩, ?_, ?_⟩
    · simp only [invP, applyB]
      rw [sX, i2, ext_sub, ← List.append_assoc, sub_sub _ _ _ _ (by omega) (by omega), sub_sub _ _ _ _ (by omega) (by omega)]
    · have z : ((s.extract x.f0.toNat x.f1.toNat).size : Int) = x.f1 - x.f0 := by rw [ByteArray.size_extract]; omega
      simp only [invP]
      rw [z, show -sh + (x.f1 - x.f0 - (x.f0 + sh + (x.f2.size : Int) - (x.f0 + sh))) = -(sh + (x.f2.size - (x.f1 - x.f0))) from by omega, i3]
      rw [data_ext' (a := T.extract (x.f0 + sh).toNat (x.f0 + sh + x.f2.size).toNat) (b := x.f2) sT, show x.f0 + sh + -sh = x.f0 from by omega, show x.f0 + (x.f1 - x.f0) = x.f1 from by omega]
theorem inv_small (s : ByteArray) (hs : s.size ≤ 300) : ∀ (l : List S24) (sh : Int), ∀ x ∈ invP s l sh, x.f2.size ≤ 300
  | [], _, x, hx => by simp [invP] at hx
  | y :: r, sh, x, hx => by
    simp only [invP] at hx
    rcases List.mem_cons.mp hx with e | hm
    · subst e
      show (s.extract _ _).size ≤ 300
      rw [ByteArray.size_extract]; omega
    · exact inv_small s hs r _ x hm
theorem applyB_small (s : ByteArray) : ∀ (l : List S24) (a : Int), (∀ x ∈ l, x.f2.size ≤ 60) → Ch s.size l a → ((applyB s l a).length : Int) ≤ s.size - a + 60 * l.length
  | [], a, _, h => by
    obtain ⟨h0, h1⟩ := h
    simp only [applyB, ext_sub]
    rw [sub_len _ _ _ (by rw [len_data]; omega)]
    simp; omega
  | x :: r, a, hx, h => by
    obtain ⟨h0, h1, h2, h3, h4⟩ := h
    have ih := applyB_small s r x.f1 (fun y hy => hx y (by simp [hy])) h4
    have h60 := hx x (by simp)
    simp only [applyB, ext_sub, List.length_append, len_data]
    rw [sub_len _ _ _ (by rw [len_data]; omega)]
    simp only [List.length_cons]
    omega
theorem TextUndo : assessorlaw01_TextUndo.Pure := by
  intro s l hs hl
  refine Ev.rounds ?_
  unfold assessorlaw01_TextUndo.f
  by_cases h1 : (s.size : Int) > 300
  · exact ev_ifp h1 (Ev.step (fun k => assessorlaw01_TextUndo.j0.eq_2 s l true k) (ev_ifp rfl awake_some))
  · refine ev_ifn h1 (Ev.bind (f := fun k t => assessorlaw01_TextUndo.j0 k s l (!t)) (few_ev l hl.1) ?_)
    by_cases h2 : fewB l = true
    · obtain ⟨f1, f2⟩ := few_of h2
      have f3 : ∀ x ∈ l, x.f2.size ≤ 300 := fun x hx => by have := f2 x hx; omega
      refine Ev.step (fun k => assessorlaw01_TextUndo.j0.eq_2 s l _ k) (ev_ifn (by simp [h2]) ?_)
      refine Ev.bind (apply_ev s (by omega) l f1 f3) (Ev.bind (inv_ev s (by omega) l f1 f3) ?_)
      by_cases c : fitsP s.size l 0 = 0
      · rw [show invR s l = (invP s l 0, 0) from if_pos c, show applyR s l = (⟨(applyB s l 0).toArray⟩, 0) from if_pos c]
        have hc := fits_ch l 0 (by omega) (by omega) c
        have hT : (⟨(applyB s l 0).toArray⟩ : ByteArray).size ≤ 1000 := by
          have := applyB_small s l 0 f2 hc
          rw [← len_data]; simp; omega
        obtain ⟨u1, u2, u3⟩ := undo_from s ⟨(applyB s l 0).toArray⟩ l 0 0 [] hc rfl (by simp)
        generalize (⟨(applyB s l 0).toArray⟩ : ByteArray) = U at hT u1 u2 u3
        have b1 : (invP s l 0).length ≤ 10 := by rw [invP_len]; exact f1
        have b2 := inv_small s (by omega) l 0
        have u0 := ch_fits _ _ u1
        refine ev_ifp rfl (ev_ifp rfl (Ev.step (fun k => assessorlaw01_TextUndo.j1.eq_2 s l U 0 (invP s l 0) false k) (ev_ifn (by decide) (ev_ifp rfl ?_))))
        refine Ev.bind (apply_ev U hT _ b1 b2) (Ev.bind (inv_ev U hT _ b1 b2) ?_)
        rw [show invR U (invP s l 0) = (invP U (invP s l 0) 0, 0) from if_pos u0, show applyR U (invP s l 0) = (⟨(applyB U (invP s l 0) 0).toArray⟩, 0) from if_pos u0]
        have u3' : invP U (invP s l 0) 0 = l := u3
        have u2' : applyB U (invP s l 0) 0 = s.data.toList := by
          have e : applyB U (invP s l 0) 0 = sub s.data.toList 0 s.size := u2
          rw [e, sub_all _ _ (by rw [len_data])]
        rw [u3', u2']
        exact ev_ifp rfl (ev_ifp (by rw [Lib.toList_data]) (ev_ifp rfl (Ev.bind (same_ev l hl.1) (ev_ifp rfl awake_some))))
      · rw [show invR s l = ([], fitsP s.size l 0) from if_neg c, show applyR s l = (⟨#[]⟩, fitsP s.size l 0) from if_neg c]
        refine ev_ifp rfl (ev_ifn c (ev_ifp (show (⟨#[]⟩ : ByteArray).toList = [] by decide +kernel) (Ev.step (fun k => assessorlaw01_TextUndo.j1.eq_2 s l _ _ _ _ k) (ev_ifn (by simp) (ev_ifn c awake_some)))))
    · exact Ev.step (fun k => assessorlaw01_TextUndo.j0.eq_2 s l _ k) (ev_ifp (by simp [h2]) awake_some)
end Go.Proofs.Ytggcbcleocamlaa.Pure
