import Derived.Test.YtggcbcleocamlaaTxA
import Derived.Test.YtggcbcleocamlaaPx3
import Derived.Test.YtggcbcleocamlaaPx14
import Derived.Test.YtggcbcleocamlaaPx15
import Derived.Test.YtggcbcleocamlaaPx16
import Derived.Test.YtggcbcleocamlaaPx17
namespace Go.Proofs.Ytggcbcleocamlaa.P
open Go.RowKit Go.Proofs.YtggcbcleocamlaaW.PrintWords Go.Proofs.YtggcbcleocamlaaW.PrintLast Go.Proofs.YtggcbcleocamlaaW.PrintMore
set_option linter.unusedVariables false
set_option linter.unusedSimpArgs false

/-! ### Invert -/
def invP (s : ByteArray) : List S24 → Int → List S24
  | [], _ => []
  | x :: r, sh => ⟨x.f0 + sh, x.f0 + sh + x.f2.size, s.extract x.f0.toNat x.f1.toNat⟩ :: invP s r (sh + (x.f2.size - (x.f1 - x.f0)))
theorem inv_from (s : ByteArray) (hs : s.size ≤ 1000) (l : List S24) (hl : l.length ≤ 10) (hx : ∀ x ∈ l, x.f2.size ≤ 300) (hc : Ch s.size l 0) : ∀ (m i : Nat) (out : List S24) (sh : Int), i + m = l.length → out.length = i → -1000 * i ≤ sh → sh ≤ 300 * i →
    Ev (fun k => text_Invert.l0 k s out sh l (l.length : Int) (i : Int)) (out ++ invP s (l.drop i) sh, 0)
  | 0, i, out, sh, h, ho, h1, h2 => by
    refine Ev.step (fun k => text_Invert.l0.eq_2 s out sh l (l.length : Int) i k) (ev_ifn (by omega) (ev_some ?_))
    rw [List.drop_of_length_le (by omega)]; simp [invP]
  | m + 1, i, out, sh, h, ho, h1, h2 => by
    have hi : i < l.length := by omega
    have h60 := hx l[i] (List.getElem_mem hi)
    obtain ⟨g0, g1, g2, g3⟩ := ch_get l 0 i hi hc
    refine Ev.step (fun k => text_Invert.l0.eq_2 s out sh l (l.length : Int) i k) (ev_ifp (by omega) (ev_ifp (by omega) (ev_ifp (by omega) ?_)))
    rw [rd_at l i hi]
    refine ev_ifp (by omega) (ev_ifp (by omega) (ev_ifp (by omega) (ev_ifp (by omega) ?_)))
    rw [wi hi (by unfold maxLen; omega), wr (i := l[i].f0 + sh) (by omega) (by omega), wr (i := l[i].f0 + sh + (l[i].f2.size : Int)) (by omega) (by omega), wr (i := l[i].f1 - l[i].f0) (by omega) (by omega), wr (i := (l[i].f2.size : Int) - (l[i].f1 - l[i].f0)) (by omega) (by omega), wr (i := sh + _) (by omega) (by omega)]
    have := inv_from s hs l hl hx hc m (i + 1) (out ++ [⟨l[i].f0 + sh, l[i].f0 + sh + l[i].f2.size, s.extract l[i].f0.toNat l[i].f1.toNat⟩]) (sh + (l[i].f2.size - (l[i].f1 - l[i].f0))) (by omega) (by simp [ho]) (by omega) (by omega)
    rw [List.drop_eq_getElem_cons hi]
    rw [List.append_assoc] at this
    exact this
def invR (s : ByteArray) (l : List S24) : List S24 × Int := if fitsP s.size l 0 = 0 then (invP s l 0, 0) else ([], fitsP s.size l 0)
theorem inv_ev (s : ByteArray) (hs : s.size ≤ 1000) (l : List S24) (hl : l.length ≤ 10) (hx : ∀ x ∈ l, x.f2.size ≤ 300) : Ev (fun k => text_Invert.f k s l) (invR s l) := by
  unfold text_Invert.f
  refine Ev.bind (f := fun k t => if t = 0 then (text_Invert.l0 k s ([] : List (S24)) 0 l (l.length : Int) 0) else (some (([] : List (S24)), t))) (fits_ev s hs l hl hx) ?_
  by_cases c : fitsP s.size l 0 = 0
  · rw [show invR s l = (invP s l 0, 0) from if_pos c]
    exact ev_ifp c (inv_from s hs l hl hx (fits_ch l 0 (by omega) (by omega) c) l.length 0 [] 0 (by omega) rfl (by omega) (by omega))
  · rw [show invR s l = ([], fitsP s.size l 0) from if_neg c]
    exact ev_ifn c (ev_some rfl)
theorem ref_inv_from (s : ByteArray) (hs : s.size ≤ 1000) (l : List S24) (hl : l.length ≤ 10) (hx : ∀ x ∈ l, x.f2.size ≤ 300) (hc : Ch s.size l 0) : ∀ (m i : Nat) (out : List S24) (sh : Int), i + m = l.length → out.length = i → -1000 * i ≤ sh → sh ≤ 300 * i →
    Ev (fun k => assessorref01_Invert.l0 k s l out sh (i : Int)) (out ++ invP s (l.drop i) sh, 0)
  | 0, i, out, sh, h, ho, h1, h2 => by
    refine Ev.step (fun k => assessorref01_Invert.l0.eq_2 s l out sh i k) (ev_ifn (by omega) (ev_some ?_))
    rw [List.drop_of_length_le (by omega)]; simp [invP]
  | m + 1, i, out, sh, h, ho, h1, h2 => by
    have hi : i < l.length := by omega
    have h60 := hx l[i] (List.getElem_mem hi)
    obtain ⟨g0, g1, g2, g3⟩ := ch_get l 0 i hi hc
    refine Ev.step (fun k => assessorref01_Invert.l0.eq_2 s l out sh i k) (ev_ifp (by omega) (ev_ifp (by omega) ?_))
    rw [rd_at l i hi]
    refine ev_ifp (by omega) (ev_ifp (by omega) (ev_ifp (by omega) (ev_ifp (by omega) ?_)))
    rw [wi hi (by unfold maxLen; omega), wr (i := l[i].f0 + sh) (by omega) (by omega), wr (i := l[i].f0 + sh + (l[i].f2.size : Int)) (by omega) (by omega), wr (i := l[i].f1 - l[i].f0) (by omega) (by omega), wr (i := sh + (l[i].f2.size : Int)) (by omega) (by omega), wr (i := sh + (l[i].f2.size : Int) - (l[i].f1 - l[i].f0)) (by omega) (by omega),
      show sh + (l[i].f2.size : Int) - (l[i].f1 - l[i].f0) = sh + (l[i].f2.size - (l[i].f1 - l[i].f0)) from by omega]
    have := ref_inv_from s hs l hl hx hc m (i + 1) (out ++ [⟨l[i].f0 + sh, l[i].f0 + sh + l[i].f2.size, s.extract l[i].f0.toNat l[i].f1.toNat⟩]) (sh + (l[i].f2.size - (l[i].f1 - l[i].f0))) (by omega) (by simp [ho]) (by omega) (by omega)
    rw [List.drop_eq_getElem_cons hi]
    rw [List.append_assoc] at this
    exact this
theorem ref_inv_ev (s : ByteArray) (hs : s.size ≤ 1000) (l : List S24) (hl : l.length ≤ 10) (hx : ∀ x ∈ l, x.f2.size ≤ 300) : Ev (fun k => assessorref01_Invert.f k s l) (invR s l) := by
  unfold assessorref01_Invert.f
  refine Ev.bind (f := fun k t => if t.2 = 0 then (assessorref01_Invert.l0 k s l (([] : List (S24))) 0 0) else (some (([] : List (S24)), t.2))) (ref_apply_ev s hs l hl hx) ?_
  by_cases c : fitsP s.size l 0 = 0
  · rw [show invR s l = (invP s l 0, 0) from if_pos c, show applyR s l = (⟨(applyB s l 0).toArray⟩, 0) from if_pos c]
    exact ev_ifp rfl (ref_inv_from s hs l hl hx (fits_ch l 0 (by omega) (by omega) c) l.length 0 [] 0 (by omega) rfl (by omega) (by omega))
  · rw [show invR s l = ([], fitsP s.size l 0) from if_neg c, show applyR s l = (⟨#[]⟩, fitsP s.size l 0) from if_neg c]
    exact ev_ifn c (ev_some rfl)
theorem same_from (l : List S24) (hl : l.length ≤ maxLen) : ∀ (m i : Nat), i + m = l.length → Ev (fun k => assessorref01_Same.l0 k l l (i : Int)) true
  | 0, i, h => Ev.step (fun k => assessorref01_Same.l0.eq_2 l l i k) (ev_ifn (by omega) (ev_some rfl))
  | m + 1, i, h => by
    have hi : i < l.length := by omega
    refine Ev.step (fun k => assessorref01_Same.l0.eq_2 l l i k) (ev_ifp (by omega) (ev_ifp (by omega) (ev_ifp (by omega) (ev_ifn (by simp) ?_))))
    rw [wi hi hl]
    exact same_from l hl m (i + 1) (by omega)
theorem same_ev (l : List S24) (hl : l.length ≤ maxLen) : Ev (fun k => assessorref01_Same.f k l l) true := by
  unfold assessorref01_Same.f
  exact ev_ifp rfl (same_from l hl l.length 0 (by omega))
theorem invP_len (s : ByteArray) : ∀ (l : List S24) (sh : Int), (invP s l sh).length = l.length
  | [], _ => rfl
  | x :: r, sh => by simp [invP, invP_len s r]

/-! ### Move -/
def mvOk : List S24 → Int → Bool
  | [], _ => true
  | x :: r, last => if x.f0 < last then false else if x.f1 < x.f0 then false else if x.f1 > 16384 then false else mvOk r x.f1
def mvL (at_ : Int) : List S24 → Int → Int
  | [], by_ => at_ + by_
  | x :: r, by_ => if x.f0 ≤ at_ ∧ at_ < x.f1 then x.f0 + by_ + mn (at_ - x.f0) x.f2.size else if x.f1 ≤ at_ then mvL at_ r (by_ + (x.f2.size - (x.f1 - x.f0))) else mvL at_ r by_
def moveP (l : List S24) (at_ : Int) : Int := if at_ < 0 ∨ at_ > 16384 then -1 else if mvOk l 0 = true then mvL at_ l 0 else -1
theorem mvOk_mem : ∀ (l : List S24) (a : Int), 0 ≤ a → mvOk l a = true → ∀ x ∈ l, 0 ≤ x.f0 ∧ x.f0 ≤ x.f1 ∧ x.f1 ≤ 16384
  | [], _, _, _, x, hx => by simp at hx
  | y :: r, a, h0, h, x, hx => by
    simp only [mvOk] at h
    by_cases c1 : y.f0 < a
    · rw [if_pos c1] at h; cases h
    · rw [if_neg c1] at h
      by_cases c2 : y.f1 < y.f0
      · rw [if_pos c2] at h; cases h
      · rw [if_neg c2] at h
        by_cases c3 : y.f1 > 16384
        · rw [if_pos c3] at h; cases h
        · rw [if_neg c3] at h
          rcases List.mem_cons.mp hx with e | hm
          · subst e; omega
          · exact mvOk_mem r y.f1 (by omega) h x hm
theorem mn_range (a b : Int) : (mn a b = a ∨ mn a b = b) := by unfold mn; split <;> simp
theorem mv_from (l : List S24) (hl : l.length ≤ 10) (at_ : Int) (ha : 0 ≤ at_ ∧ at_ ≤ 16384) (hx : ∀ x ∈ l, x.f2.size ≤ 60 ∧ 0 ≤ x.f0 ∧ x.f0 ≤ x.f1 ∧ x.f1 ≤ 16384) : ∀ (m i : Nat) (sh : Int), i + m = l.length → -20000 * i ≤ sh → sh ≤ 60 * i →
    Ev (fun k => text_Move.l1 k at_ sh l (l.length : Int) (i : Int)) (mvL at_ (l.drop i) sh)
  | 0, i, sh, h, h1, h2 => by
    refine Ev.step (fun k => text_Move.l1.eq_2 at_ sh l (l.length : Int) i k) (ev_ifn (by omega) (ev_some ?_))
    rw [List.drop_of_length_le (by omega)]
    simp only [mvL]
    exact wr (by omega) (by omega)
  | m + 1, i, sh, h, h1, h2 => by
    have hi : i < l.length := by omega
    obtain ⟨h60, g0, g1, g2⟩ := hx l[i] (List.getElem_mem hi)
    have go : ∀ b : Bool, b = decide (l[i].f0 ≤ at_ ∧ at_ < l[i].f1) → Ev (fun k => text_Move.j3 k at_ sh l (l.length : Int) (i : Int) b l[i].f0 l[i].f1 l[i].f2) (mvL at_ (l.drop i) sh) := by
      rintro b rfl
      refine Ev.step (fun k => text_Move.j3.eq_2 at_ sh l (l.length : Int) i _ _ _ _ k) ?_
      rw [List.drop_eq_getElem_cons hi]
      simp only [mvL]
      by_cases c : l[i].f0 ≤ at_ ∧ at_ < l[i].f1
      · rw [if_pos c]
        refine ev_ifp (decide_eq_true c) (ev_some ?_)
        rw [wr (i := at_ - l[i].f0) (by omega) (by omega), wr (i := l[i].f0 + sh) (by omega) (by omega)]
        rcases mn_range (at_ - l[i].f0) l[i].f2.size with e | e <;> rw [e] <;> exact wr (by omega) (by omega)
      · rw [if_neg c]
        refine ev_ifn (by simp only [decide_eq_true_eq]; exact c) ?_
        rw [wi hi (by unfold maxLen; omega)]
        by_cases d : l[i].f1 ≤ at_
        · rw [if_pos d]
          refine ev_ifp d ?_
          rw [wr (i := l[i].f1 - l[i].f0) (by omega) (by omega), wr (i := (l[i].f2.size : Int) - (l[i].f1 - l[i].f0)) (by omega) (by omega), wr (i := sh + _) (by omega) (by omega)]
          exact mv_from l hl at_ ha hx m (i + 1) _ (by omega) (by omega) (by omega)
        · rw [if_neg d]
          exact ev_ifn d (mv_from l hl at_ ha hx m (i + 1) _ (by omega) (by omega) (by omega))
    refine Ev.step (fun k => text_Move.l1.eq_2 at_ sh l (l.length : Int) i k) (ev_ifp (by omega) (ev_ifp (by omega) (ev_ifp (by omega) ?_)))
    rw [rd_at l i hi]
    by_cases c : l[i].f0 ≤ at_
    · exact ev_ifp c (go _ (by simp [c]))
    · exact ev_ifn c (go false (by simp [c]))
theorem mv_check (l : List S24) (hl : l.length ≤ 10) (at_ r : Int) (hr : mvOk l 0 = true → Ev (fun k => text_Move.l1 k at_ 0 l (l.length : Int) 0) r) : ∀ (m i : Nat) (last : Int), i + m = l.length → mvOk l 0 = mvOk (l.drop i) last →
    Ev (fun k => text_Move.l0 k l at_ last l (l.length : Int) (i : Int)) (if mvOk l 0 = true then r else -1)
  | 0, i, last, h, e => by
    refine Ev.step (fun k => text_Move.l0.eq_2 l at_ last l (l.length : Int) i k) (ev_ifn (by omega) ?_)
    rw [List.drop_of_length_le (by omega)] at e
    have e2 : mvOk l 0 = true := e
    rw [if_pos e2]
    exact hr e2
  | m + 1, i, last, h, e => by
    have hi : i < l.length := by omega
    refine Ev.step (fun k => text_Move.l0.eq_2 l at_ last l (l.length : Int) i k) (ev_ifp (by omega) (ev_ifp (by omega) (ev_ifp (by omega) ?_)))
    rw [rd_at l i hi]
    rw [List.drop_eq_getElem_cons hi] at e
    simp only [mvOk] at e
    by_cases c1 : l[i].f0 < last
    · rw [if_pos c1] at e; rw [e]; exact ev_ifp c1 (ev_some rfl)
    · rw [if_neg c1] at e
      refine ev_ifn c1 ?_
      by_cases c2 : l[i].f1 < l[i].f0
      · rw [if_pos c2] at e; rw [e]; exact ev_ifp c2 (ev_some rfl)
      · rw [if_neg c2] at e
        refine ev_ifn c2 ?_
        by_cases c3 : l[i].f1 > 16384
        · rw [if_pos c3] at e; rw [e]; exact ev_ifp c3 (ev_some rfl)
        · rw [if_neg c3] at e
          refine ev_ifn c3 ?_
          rw [wi hi (by unfold maxLen; omega)]
          exact mv_check l hl at_ r hr m (i + 1) _ (by omega) e
theorem move_ev (l : List S24) (hl : l.length ≤ 10) (hx : ∀ x ∈ l, x.f2.size ≤ 60) (at_ : Int) : Ev (fun k => text_Move.f k l at_) (moveP l at_) := by
  unfold text_Move.f moveP
  by_cases c1 : at_ < 0
  · rw [if_pos (.inl c1)]
    exact ev_ifp c1 (Ev.step (fun k => text_Move.j0.eq_2 l at_ true k) (ev_ifp rfl (ev_some rfl)))
  · refine ev_ifn c1 (Ev.step (fun k => text_Move.j0.eq_2 l at_ _ k) ?_)
    by_cases c2 : at_ > 16384
    · rw [if_pos (.inr c2)]
      exact ev_ifp (decide_eq_true c2) (ev_some rfl)
    · rw [if_neg (by omega)]
      refine ev_ifn (by simpa using c2) ?_
      refine mv_check l hl at_ _ (fun ho => ?_) l.length 0 0 (by omega) rfl
      have hm := mvOk_mem l 0 (by omega) ho
      exact mv_from l hl at_ (by omega) (fun x h => ⟨hx x h, hm x h⟩) l.length 0 0 (by omega) (by omega) (by omega)
theorem ref_mv_from (l : List S24) (hl : l.length ≤ 10) (at_ : Int) (ha : 0 ≤ at_ ∧ at_ ≤ 16384) (hx : ∀ x ∈ l, x.f2.size ≤ 60 ∧ 0 ≤ x.f0 ∧ x.f0 ≤ x.f1 ∧ x.f1 ≤ 16384) : ∀ (m i : Nat) (sh : Int), i + m = l.length → -20000 * i ≤ sh → sh ≤ 60 * i →
    Ev (fun k => assessorref01_Move.l1 k l at_ sh (i : Int)) (mvL at_ (l.drop i) sh)
  | 0, i, sh, h, h1, h2 => by
    refine Ev.step (fun k => assessorref01_Move.l1.eq_2 l at_ sh i k) (ev_ifn (by omega) (ev_some ?_))
    rw [List.drop_of_length_le (by omega)]
    simp only [mvL]
    exact wr (by omega) (by omega)
  | m + 1, i, sh, h, h1, h2 => by
    have hi : i < l.length := by omega
    obtain ⟨h60, g0, g1, g2⟩ := hx l[i] (List.getElem_mem hi)
    have go : ∀ b : Bool, b = decide (l[i].f0 ≤ at_ ∧ at_ < l[i].f1) → Ev (fun k => assessorref01_Move.j3 k l at_ sh (i : Int) b) (mvL at_ (l.drop i) sh) := by
      rintro b rfl
      refine Ev.step (fun k => assessorref01_Move.j3.eq_2 l at_ sh i _ k) ?_
      rw [List.drop_eq_getElem_cons hi, rd_at l i hi]
      simp only [mvL]
      by_cases c : l[i].f0 ≤ at_ ∧ at_ < l[i].f1
      · rw [if_pos c]
        refine ev_ifp (decide_eq_true c) (ev_ifp (by omega) (ev_ifp (by omega) (ev_some ?_)))
        rw [wr (i := at_ - l[i].f0) (by omega) (by omega), wr (i := l[i].f0 + sh) (by omega) (by omega)]
        rcases mn_range (at_ - l[i].f0) l[i].f2.size with e | e <;> rw [e] <;> exact wr (by omega) (by omega)
      · rw [if_neg c]
        refine ev_ifn (by simp only [decide_eq_true_eq]; exact c) (ev_ifp (by omega) (ev_ifp (by omega) ?_))
        rw [wi hi (by unfold maxLen; omega)]
        by_cases d : l[i].f1 ≤ at_
        · rw [if_pos d]
          refine ev_ifp d ?_
          rw [wr (i := l[i].f1 - l[i].f0) (by omega) (by omega), wr (i := sh + (l[i].f2.size : Int)) (by omega) (by omega), wr (i := sh + (l[i].f2.size : Int) - (l[i].f1 - l[i].f0)) (by omega) (by omega), show sh + (l[i].f2.size : Int) - (l[i].f1 - l[i].f0) = sh + (l[i].f2.size - (l[i].f1 - l[i].f0)) from by omega]
          exact ref_mv_from l hl at_ ha hx m (i + 1) _ (by omega) (by omega) (by omega)
        · rw [if_neg d]
          exact ev_ifn d (ref_mv_from l hl at_ ha hx m (i + 1) _ (by omega) (by omega) (by omega))
    refine Ev.step (fun k => assessorref01_Move.l1.eq_2 l at_ sh i k) (ev_ifp (by omega) (ev_ifp (by omega) ?_))
    rw [rd_at l i hi]
    by_cases c : l[i].f0 ≤ at_
    · exact ev_ifp c (go _ (by simp [c]))
    · exact ev_ifn c (go false (by simp [c]))
theorem ref_mv_check (l : List S24) (hl : l.length ≤ 10) (at_ r : Int) (hr : mvOk l 0 = true → Ev (fun k => assessorref01_Move.l1 k l at_ 0 0) r) : ∀ (m i : Nat) (last : Int), i + m = l.length → mvOk l 0 = mvOk (l.drop i) last →
    Ev (fun k => assessorref01_Move.l0 k l at_ last (i : Int)) (if mvOk l 0 = true then r else -1)
  | 0, i, last, h, e => by
    refine Ev.step (fun k => assessorref01_Move.l0.eq_2 l at_ last i k) (ev_ifn (by omega) ?_)
    rw [List.drop_of_length_le (by omega)] at e
    have e2 : mvOk l 0 = true := e
    rw [if_pos e2]
    exact hr e2
  | m + 1, i, last, h, e => by
    have hi : i < l.length := by omega
    refine Ev.step (fun k => assessorref01_Move.l0.eq_2 l at_ last i k) (ev_ifp (by omega) (ev_ifp (by omega) ?_))
    rw [rd_at l i hi]
    rw [List.drop_eq_getElem_cons hi] at e
    simp only [mvOk] at e
    by_cases c1 : l[i].f0 < last
    · rw [if_pos c1] at e; rw [e]; exact ev_ifp c1 (ev_some rfl)
    · rw [if_neg c1] at e
      refine ev_ifn c1 ?_
      by_cases c2 : l[i].f1 < l[i].f0
      · rw [if_pos c2] at e; rw [e]; exact ev_ifp c2 (ev_some rfl)
      · rw [if_neg c2] at e
        refine ev_ifn c2 ?_
        by_cases c3 : l[i].f1 > 16384
        · rw [if_pos c3] at e; rw [e]; exact ev_ifp c3 (ev_some rfl)
        · rw [if_neg c3] at e
          refine ev_ifn c3 ?_
          rw [wi hi (by unfold maxLen; omega)]
          exact ref_mv_check l hl at_ r hr m (i + 1) _ (by omega) e
theorem ref_move_ev (l : List S24) (hl : l.length ≤ 10) (hx : ∀ x ∈ l, x.f2.size ≤ 60) (at_ : Int) : Ev (fun k => assessorref01_Move.f k l at_) (moveP l at_) := by
  unfold assessorref01_Move.f moveP
  by_cases c1 : at_ < 0
  · rw [if_pos (.inl c1)]
    exact ev_ifp c1 (Ev.step (fun k => assessorref01_Move.j0.eq_2 l at_ true k) (ev_ifp rfl (ev_some rfl)))
  · refine ev_ifn c1 (Ev.step (fun k => assessorref01_Move.j0.eq_2 l at_ _ k) ?_)
    by_cases c2 : at_ > 16384
    · rw [if_pos (.inr c2)]
      exact ev_ifp (decide_eq_true c2) (ev_some rfl)
    · rw [if_neg (by omega)]
      refine ev_ifn (by simpa using c2) ?_
      refine ref_mv_check l hl at_ _ (fun ho => ?_) l.length 0 0 (by omega) rfl
      have hm := mvOk_mem l 0 (by omega) ho
      exact ref_mv_from l hl at_ (by omega) (fun x h => ⟨hx x h, hm x h⟩) l.length 0 0 (by omega) (by omega) (by omega)
end Go.Proofs.Ytggcbcleocamlaa.P
