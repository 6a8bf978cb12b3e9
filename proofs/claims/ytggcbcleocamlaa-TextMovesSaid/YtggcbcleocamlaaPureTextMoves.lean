/- Bytes that are in no span are, after the replacements, where they move, in the same order; conditions: none (longer texts and more replacements are let through by the statement itself). -/
import Derived.Test.YtggcbcleocamlaaStatTextMoves
import Derived.Test.YtggcbcleocamlaaTxB
import Derived.Test.YtggcbcleocamlaaTxAw
namespace Go.Proofs.Ytggcbcleocamlaa.Pure
open Go.RowKit Go.Proofs.Ytggcbcleocamlaa.P Go.Proofs.YtggcbcleocamlaaW.PrintWords Go.Proofs.YtggcbcleocamlaaW.PrintLast
def insideB (l : List S24) (i : Int) : Bool := l.any (fun x => decide (x.f0 ≤ i ∧ i < x.f1))
theorem mv_before {n i : Int} : ∀ (l : List S24) (a sh : Int), Ch n l a → i < a → mvL i l sh = i + sh
  | [], a, sh, _, _ => rfl
  | x :: r, a, sh, h, hi => by
    obtain ⟨h0, h1, h2, h3, h4⟩ := h
    simp only [mvL]
    rw [if_neg (by omega), if_neg (by omega)]
    exact mv_before r x.f1 sh h4 (by omega)
theorem mv_low {n i : Int} : ∀ (l : List S24) (a sh : Int), Ch n l a → a ≤ i → insideB l i = false → a + sh ≤ mvL i l sh
  | [], a, sh, _, hi, _ => by simp only [mvL]; omega
  | x :: r, a, sh, h, hi, ho => by
    obtain ⟨h0, h1, h2, h3, h4⟩ := h
    unfold insideB at ho
    simp only [List.any_cons, Bool.or_eq_false_iff, decide_eq_false_iff_not] at ho
    simp only [mvL]
    rw [if_neg ho.1]
    by_cases c : x.f1 ≤ i
    · rw [if_pos c]
      have := mv_low r x.f1 (sh + (x.f2.size - (x.f1 - x.f0))) h4 c ho.2
      omega
    · rw [if_neg c, mv_before r x.f1 sh h4 (by omega)]
      omega
theorem mv_mono {n i j : Int} (hij : i < j) : ∀ (l : List S24) (a sh : Int), Ch n l a → a ≤ i → insideB l i = false → insideB l j = false → mvL i l sh < mvL j l sh
  | [], a, sh, _, _, _, _ => by simp only [mvL]; omega
  | x :: r, a, sh, h, hi, ho, hp => by
    obtain ⟨h0, h1, h2, h3, h4⟩ := h
    unfold insideB at ho hp
    simp only [List.any_cons, Bool.or_eq_false_iff, decide_eq_false_iff_not] at ho hp
    simp only [mvL]
    rw [if_neg ho.1, if_neg hp.1]
    by_cases c : x.f1 ≤ i
    · rw [if_pos c, if_pos (by omega)]
      exact mv_mono hij r x.f1 _ h4 c ho.2 hp.2
    · rw [if_neg c, mv_before r x.f1 sh h4 (by omega)]
      by_cases d : x.f1 ≤ j
      · rw [if_pos d]
        have := mv_low r x.f1 (sh + (x.f2.size - (x.f1 - x.f0))) h4 d hp.2
        omega
      · rw [if_neg d, mv_before r x.f1 sh h4 (by omega)]
        omega
theorem mv_byte (s : ByteArray) (T : List UInt8) (i : Nat) (hin : i < s.size) : ∀ (l : List S24) (a sh : Int) (P : List UInt8), Ch s.size l a → (P.length : Int) = a + sh → T = P ++ applyB s l a → a ≤ i → insideB l i = false →
    T[(mvL i l sh).toNat]? = s.data.toList[i]? ∧ mvL i l sh < T.length
  | [], a, sh, P, hc, hP, hT, hi, _ => by
    obtain ⟨h0, h1⟩ := hc
    simp only [applyB, ext_sub] at hT
    have hlen : (T.length : Int) = a + sh + (s.size - a) := by
      rw [hT, List.length_append, sub_len _ _ _ (by rw [len_data]; omega)]; omega
    simp only [mvL]
    refine ⟨?_, by omega⟩
    rw [hT, List.getElem?_append_right (by omega), sub_get _ _ _ _ (by omega) (by rw [len_data]; omega)]
    congr 1; omega
  | x :: r, a, sh, P, hc, hP, hT, hi, ho => by
    obtain ⟨h0, h1, h2, h3, h4⟩ := hc
    unfold insideB at ho
    simp only [List.any_cons, Bool.or_eq_false_iff, decide_eq_false_iff_not] at ho
    simp only [applyB, ext_sub] at hT
    have hl0 : (sub s.data.toList a.toNat x.f0.toNat).length = x.f0.toNat - a.toNat := sub_len _ _ _ (by rw [len_data]; omega)
    have hl1 : x.f2.data.toList.length = x.f2.size := len_data _
    simp only [mvL]
    rw [if_neg ho.1]
    by_cases c : x.f1 ≤ i
    · rw [if_pos c]
      refine mv_byte s T i hin r x.f1 (sh + (x.f2.size - (x.f1 - x.f0))) (P ++ (sub s.data.toList a.toNat x.f0.toNat ++ x.f2.data.toList)) h4 ?_ (by rw [hT]; simp) c ho.2
      rw [List.length_append, List.length_append, hl0, hl1]; omega
    · rw [if_neg c, mv_before r x.f1 sh h4 (by omega)]
      have hlt : (i : Int) < x.f0 := by omega
      constructor
      · rw [hT, List.getElem?_append_right (by omega), List.getElem?_append_left (by rw [hl0]; omega), sub_get _ _ _ _ (by omega) (by rw [len_data]; omega)]
        congr 1; omega
      · have := congrArg List.length hT
        rw [List.length_append, List.length_append, hl0] at this
        omega
theorem mv_end (s : ByteArray) : ∀ (l : List S24) (a sh : Int) (m : Int), Ch s.size l a → m = a + sh → m + (applyB s l a).length = mvL s.size l sh
  | [], a, sh, m, hc, hm => by
    obtain ⟨h0, h1⟩ := hc
    simp only [applyB, ext_sub, mvL]
    rw [sub_len _ _ _ (by rw [len_data]; omega)]; omega
  | x :: r, a, sh, m, hc, hm => by
    obtain ⟨h0, h1, h2, h3, h4⟩ := hc
    have ih := mv_end s r x.f1 (sh + (x.f2.size - (x.f1 - x.f0))) (x.f1 + (sh + (x.f2.size - (x.f1 - x.f0)))) h4 rfl
    simp only [mvL]
    rw [if_neg (by omega), if_pos (by omega), ← ih]
    simp only [applyB, ext_sub, List.length_append, len_data]
    rw [sub_len _ _ _ (by rw [len_data]; omega)]; omega
theorem ch_mv {n : Int} (hn : n ≤ 16384) : ∀ (l : List S24) (a : Int), Ch n l a → mvOk l a = true
  | [], _, _ => rfl
  | x :: r, a, h => by
    obtain ⟨h0, h1, h2, h3, h4⟩ := h
    simp only [mvOk]
    rw [if_neg (by omega), if_neg (by omega), if_neg (by omega)]
    exact ch_mv hn r x.f1 h4
theorem bt_of_get {a b : ByteArray} {i j : Nat} (hi : i < a.size) (hj : j < b.size) (h : a.data.toList[i]? = b.data.toList[j]?) : bt a (i : Int) = bt b (j : Int) := by
  rw [bt_nat a i hi, bt_nat b j hj]
  rw [Array.getElem?_toList, Array.getElem?_toList] at h
  have ea : a.data[i]? = some a[i] := Array.getElem?_eq_getElem hi
  have eb : b.data[j]? = some b[j] := Array.getElem?_eq_getElem hj
  rw [ea, eb] at h
  rw [Option.some.inj h]
theorem inside_from (s : ByteArray) (l : List S24) (T : ByteArray) (last i : Int) (n : Int) (hl : l.length ≤ 10)
    (r1 : insideB l i = true → Ev (fun k => assessorlaw01_TextMoves.l0 k s l T last n (wrap64 (i + 1))) true)
    (r2 : insideB l i = false → Ev (fun k => (text_Move.f k l i).bind fun t160 => (if t160 ≤ last then (some false) else (if t160 ≥ (T.size : Int) then (some false) else (if 0 ≤ t160 then (if t160 < (T.size : Int) then (if 0 ≤ i then (if i < (s.size : Int) then (if (bt T t160) = (bt s i) then (assessorlaw01_TextMoves.l0 k s l T t160 n (wrap64 (i + 1))) else (some false)) else (none)) else (none)) else (none)) else (none))))) true) :
    ∀ (m j : Nat) (b : Bool), j + m = l.length → (b || insideB (l.drop j) i) = insideB l i → Ev (fun k => assessorlaw01_TextMoves.l1 k s l T last i b n i l (l.length : Int) (j : Int)) true
  | 0, j, b, h, e => by
    refine Ev.step (fun k => assessorlaw01_TextMoves.l1.eq_2 s l T last i b n i l (l.length : Int) j k) (ev_ifn (by omega) ?_)
    rw [List.drop_of_length_le (by omega)] at e
    have e2 : b = insideB l i := by rw [← e]; simp [insideB]
    cases hb : b
    · exact ev_ifn (by decide) (r2 (by rw [← e2, hb]))
    · exact ev_ifp rfl (r1 (by rw [← e2, hb]))
  | m + 1, j, b, h, e => by
    have hj : j < l.length := by omega
    refine Ev.step (fun k => assessorlaw01_TextMoves.l1.eq_2 s l T last i b n i l (l.length : Int) j k) (ev_ifp (by omega) (ev_ifp (by omega) (ev_ifp (by omega) ?_)))
    rw [rd_at l j hj, wi hj (by unfold maxLen; omega)]
    rw [List.drop_eq_getElem_cons hj] at e
    unfold insideB at e
    simp only [List.any_cons] at e
    cases hb : b
    · refine ev_ifn (by decide) ?_
      rw [hb, Bool.false_or] at e
      by_cases c : l[j].f0 ≤ i
      · refine ev_ifp c (inside_from s l T last i n hl r1 r2 m (j + 1) _ (by omega) ?_)
        rw [show decide (i < l[j].f1) = decide (l[j].f0 ≤ i ∧ i < l[j].f1) from by simp [c]]
        exact e
      · refine ev_ifn c (inside_from s l T last i n hl r1 r2 m (j + 1) _ (by omega) ?_)
        rw [show decide (l[j].f0 ≤ i ∧ i < l[j].f1) = false from by simp [c]] at e
        exact e
    · refine ev_ifp rfl (inside_from s l T last i n hl r1 r2 m (j + 1) true (by omega) ?_)
      rw [hb] at e
      simpa [insideB] using e
theorem moves_from (s : ByteArray) (hs : s.size ≤ 300) (l : List S24) (hl : l.length ≤ 10) (hx : ∀ x ∈ l, x.f2.size ≤ 60) (T : ByteArray) (hc : Ch s.size l 0) (hT : T.data.toList = applyB s l 0) :
    ∀ (m i : Nat) (last : Int), i + m = s.size → (∀ j : Nat, i ≤ j → insideB l j = false → last < mvL j l 0) → Ev (fun k => assessorlaw01_TextMoves.l0 k s l T last (s.size : Int) (i : Int)) true
  | 0, i, last, h, _ => by
    refine Ev.step (fun k => assessorlaw01_TextMoves.l0.eq_2 s l T last (s.size : Int) i k) (ev_ifn (by omega) ?_)
    refine Ev.bind (f := fun k t => if t = (T.size : Int) then ((assessorlaw01_awake.f k).bind fun t157 => (some t157)) else (some false)) (move_ev l hl hx s.size) (ev_ifp ?_ awake_some)
    unfold moveP
    rw [if_neg (by omega), if_pos (ch_mv (by omega) l 0 hc), ← len_data T, hT]
    have := mv_end s l 0 0 0 hc rfl
    omega
  | m + 1, i, last, h, hlast => by
    have hi : i < s.size := by omega
    refine Ev.step (fun k => assessorlaw01_TextMoves.l0.eq_2 s l T last (s.size : Int) i k) (ev_ifp (by omega) ?_)
    have hw : wrap64 ((i : Int) + 1) = ((i + 1 : Nat) : Int) := wi hi (by unfold maxLen; omega)
    refine inside_from s l T last i s.size hl (fun _ => ?_) (fun ho => ?_) l.length 0 false (by omega) (by simp)
    · rw [hw]
      exact moves_from s hs l hl hx T hc hT m (i + 1) last (by omega) (fun j hj hp => hlast j (by omega) hp)
    · have hm : moveP l i = mvL i l 0 := by
        unfold moveP
        rw [if_neg (by omega), if_pos (ch_mv (by omega) l 0 hc)]
      obtain ⟨g1, g2⟩ := mv_byte s T.data.toList i hi l 0 0 [] hc rfl (by simpa using hT) (by omega) ho
      rw [len_data] at g2
      have g3 := mv_low l 0 0 hc (by omega) ho
      have g4 := hlast i (Nat.le_refl _) ho
      refine Ev.bind (f := fun k t160 => (if t160 ≤ last then (some false) else (if t160 ≥ (T.size : Int) then (some false) else (if 0 ≤ t160 then (if t160 < (T.size : Int) then (if 0 ≤ (i : Int) then (if (i : Int) < (s.size : Int) then (if (bt T t160) = (bt s i) then (assessorlaw01_TextMoves.l0 k s l T t160 s.size (wrap64 ((i : Int) + 1))) else (some false)) else (none)) else (none)) else (none)) else (none))))) (move_ev l hl hx i) ?_
      rw [hm, hw]
      refine ev_ifn (by omega) (ev_ifn (by omega) (ev_ifp (by omega) (ev_ifp g2 (ev_ifp (by omega) (ev_ifp (by omega) (ev_ifp ?_ ?_))))))
      · obtain ⟨q, hq⟩ := Int.eq_ofNat_of_zero_le (by omega : 0 ≤ mvL i l 0)
        rw [hq] at g1 g2 ⊢
        rw [Int.toNat_natCast] at g1
        exact bt_of_get (by omega) hi g1
      · exact moves_from s hs l hl hx T hc hT m (i + 1) _ (by omega) (fun j hj hp => mv_mono (by omega) l 0 0 hc (by omega) ho hp)
theorem TextMoves : assessorlaw01_TextMoves.Pure := by
  intro s l _ hl
  refine Ev.rounds ?_
  unfold assessorlaw01_TextMoves.f
  by_cases h1 : (s.size : Int) > 300
  · exact ev_ifp h1 (Ev.step (fun k => assessorlaw01_TextMoves.j0.eq_2 s l true k) (ev_ifp rfl awake_some))
  · refine ev_ifn h1 (Ev.bind (f := fun k t => assessorlaw01_TextMoves.j0 k s l (!t)) (few_ev l hl.1) ?_)
    by_cases h2 : fewB l = true
    · obtain ⟨f1, f2⟩ := few_of h2
      have f3 : ∀ x ∈ l, x.f2.size ≤ 300 := fun x hx => by have := f2 x hx; omega
      refine Ev.step (fun k => assessorlaw01_TextMoves.j0.eq_2 s l _ k) (ev_ifn (by simp [h2]) ?_)
      refine Ev.bind (apply_ev s (by omega) l f1 f3) ?_
      by_cases c : fitsP s.size l 0 = 0
      · rw [show applyR s l = (⟨(applyB s l 0).toArray⟩, 0) from if_pos c]
        have hc := fits_ch l 0 (by omega) (by omega) c
        refine ev_ifp rfl ?_
        refine moves_from s (by omega) l f1 f2 _ hc (by simp) s.size 0 (-1) (by omega) (fun j _ hp => ?_)
        have := mv_low l 0 0 hc (by omega : (0 : Int) ≤ j) hp
        omega
      · rw [show applyR s l = (⟨#[]⟩, fitsP s.size l 0) from if_neg c]
        exact ev_ifn c awake_some
    · exact Ev.step (fun k => assessorlaw01_TextMoves.j0.eq_2 s l _ k) (ev_ifp (by simp [h2]) awake_some)
end Go.Proofs.Ytggcbcleocamlaa.Pure
