import Derived.Test.YtggcbcleocamlaaEvA
import Derived.Test.YtggcbcleocamlaaPx9
import Derived.Test.YtggcbcleocamlaaPx11
import Derived.Test.YtggcbcleocamlaaPx12
import Derived.Test.YtggcbcleocamlaaPx13
import Derived.Test.YtggcbcleocamlaaApp
namespace Go.Proofs.Ytggcbcleocamlaa.P
open Go.RowKit Go.Proofs.YtggcbcleocamlaaW.PrintWords Go.Proofs.YtggcbcleocamlaaW.PrintLast Go.Proofs.YtggcbcleocamlaaW.PrintMore
set_option linter.unusedVariables false
set_option linter.unusedSimpArgs false

theorem wi {i n : Nat} (h : i < n) (hn : n ≤ maxLen) : wrap64 ((i : Int) + 1) = ((i + 1 : Nat) : Int) := by unfold maxLen at hn; unfold wrap64; omega
/-! ### few replacements -/
theorem rd_at (l : List S24) (i : Nat) (h : i < l.length) : rd_T24 l (i : Int) = l[i] := by simp [rd_T24, h]
def fewB (l : List S24) : Bool := l.all (fun x => decide (x.f2.size ≤ 60)) && decide (l.length ≤ 10)
theorem few_from (l : List S24) (hl : l.length ≤ maxLen) : ∀ (n i : Nat), i + n = l.length → Ev (fun k => assessorref01_Few.l0 k l (i : Int)) ((l.drop i).all (fun x => decide (x.f2.size ≤ 60)) && decide (l.length ≤ 10))
  | 0, i, h => by
    refine Ev.step (fun k => assessorref01_Few.l0.eq_2 l i k) (ev_ifn (by omega) (ev_some ?_))
    rw [List.drop_of_length_le (by omega)]
    simp; omega
  | n + 1, i, h => by
    have hi : i < l.length := by omega
    refine Ev.step (fun k => assessorref01_Few.l0.eq_2 l i k) (ev_ifp (by omega) (ev_ifp (by omega) ?_))
    rw [rd_at l i hi, List.drop_eq_getElem_cons hi]
    by_cases c : (l[i].f2.size : Int) > 60
    · refine ev_ifp c (ev_some ?_)
      simp only [List.all_cons]
      rw [decide_eq_false (by omega : ¬ l[i].f2.size ≤ 60)]
      rfl
    · refine ev_ifn c ?_
      simp only [List.all_cons]
      rw [decide_eq_true (by omega : l[i].f2.size ≤ 60), Bool.true_and, wi hi hl]
      exact few_from l hl n (i + 1) (by omega)
theorem few_ev (l : List S24) (hl : l.length ≤ maxLen) : Ev (fun k => assessorref01_Few.f k l) (fewB l) := by
  unfold assessorref01_Few.f
  exact few_from l hl l.length 0 (by omega)
theorem few_of {l : List S24} (h : fewB l = true) : l.length ≤ 10 ∧ ∀ x ∈ l, x.f2.size ≤ 60 := by
  unfold fewB at h
  simp only [Bool.and_eq_true, decide_eq_true_eq, List.all_eq_true] at h
  exact ⟨h.2, h.1⟩

/-! ### bytes of a text -/
def sub (S : List UInt8) (i j : Nat) : List UInt8 := (S.drop i).take (j - i)
theorem ext_sub (s : ByteArray) (i j : Nat) : (s.extract i j).data.toList = sub s.data.toList i j := by
  simp [sub, ByteArray.data_extract, Array.toList_extract, List.extract_eq_take_drop]
theorem dapp (a b : ByteArray) : (a ++ b).data.toList = a.data.toList ++ b.data.toList := by simp [ByteArray.data_append]
theorem len_data (s : ByteArray) : s.data.toList.length = s.size := by rw [Array.length_toList]; rfl
theorem sub_len (S : List UInt8) (i j : Nat) (h : j ≤ S.length) : (sub S i j).length = j - i := by simp [sub]; omega
theorem sub_sub (S : List UInt8) (i j k : Nat) (h1 : i ≤ j) (h2 : j ≤ k) : sub S i j ++ sub S j k = sub S i k := by
  unfold sub
  rw [show k - i = (j - i) + (k - j) from by omega, List.take_add, List.drop_drop, show i + (j - i) = j from by omega]
theorem sub_all (S : List UInt8) (n : Nat) (h : n = S.length) : sub S 0 n = S := by subst h; simp [sub]
theorem sub_nil (S : List UInt8) (i : Nat) : sub S i i = [] := by simp [sub]
theorem sub_get (S : List UInt8) (i j k : Nat) (h : k < j - i) (hj : j ≤ S.length) : (sub S i j)[k]? = S[i + k]? := by
  unfold sub
  rw [List.getElem?_take, if_pos h, List.getElem?_drop]

/-! ### replacements that fit -/
def fitsP (n : Int) : List S24 → Int → Int
  | [], _ => 0
  | x :: r, last => if x.f0 < 0 ∨ x.f1 < x.f0 ∨ x.f1 > n then 2 else if x.f0 < last then 1 else fitsP n r x.f1
theorem ref_fits_from (s : ByteArray) (l : List S24) (hl : l.length ≤ maxLen) : ∀ (m i : Nat) (last : Int), i + m = l.length → Ev (fun k => assessorref01_Fits.l0 k s l last (i : Int)) (fitsP s.size (l.drop i) last)
  | 0, i, last, h => by
    refine Ev.step (fun k => assessorref01_Fits.l0.eq_2 s l last i k) (ev_ifn (by omega) (ev_some ?_))
    rw [List.drop_of_length_le (by omega)]; rfl
  | m + 1, i, last, h => by
    have hi : i < l.length := by omega
    have go : ∀ b : Bool, b = decide (l[i].f0 < 0 ∨ l[i].f1 < l[i].f0 ∨ l[i].f1 > s.size) → Ev (fun k => assessorref01_Fits.j1 k s l last (i : Int) b) (fitsP s.size (l.drop i) last) := by
      rintro b rfl
      refine Ev.step (fun k => assessorref01_Fits.j1.eq_2 s l last i _ k) ?_
      rw [List.drop_eq_getElem_cons hi]
      simp only [fitsP]
      by_cases c : l[i].f0 < 0 ∨ l[i].f1 < l[i].f0 ∨ l[i].f1 > s.size
      · rw [if_pos c]; exact ev_ifp (decide_eq_true c) (ev_some rfl)
      · rw [if_neg c]
        refine ev_ifn (by simp only [decide_eq_true_eq]; exact c) (ev_ifp (by omega) (ev_ifp (by omega) ?_))
        rw [rd_at l i hi]
        by_cases d : l[i].f0 < last
        · rw [if_pos d]; exact ev_ifp d (ev_some rfl)
        · rw [if_neg d, wi hi hl]; exact ev_ifn d (ref_fits_from s l hl m (i + 1) _ (by omega))
    refine Ev.step (fun k => assessorref01_Fits.l0.eq_2 s l last i k) (ev_ifp (by omega) (ev_ifp (by omega) ?_))
    rw [rd_at l i hi]
    by_cases c0 : l[i].f0 < 0
    · exact ev_ifp c0 (go true (by simp [c0]))
    · refine ev_ifn c0 ?_
      by_cases c1 : l[i].f1 < l[i].f0
      · exact ev_ifp c1 (go true (by simp [c1]))
      · exact ev_ifn c1 (go _ (by simp [c0, c1]))
theorem ref_fits_ev (s : ByteArray) (l : List S24) (hl : l.length ≤ maxLen) : Ev (fun k => assessorref01_Fits.f k s l) (fitsP s.size l 0) := by
  unfold assessorref01_Fits.f
  exact ref_fits_from s l hl l.length 0 0 (by omega)
theorem fits_from (s : ByteArray) (hs : s.size ≤ 1000) (l : List S24) (hl : l.length ≤ 10) (hx : ∀ x ∈ l, x.f2.size ≤ 300) : ∀ (m i : Nat) (size last : Int), i + m = l.length → s.size - 1000 * i ≤ size → size ≤ s.size + 300 * i →
    Ev (fun k => text_fits.l0 k s size last l (l.length : Int) (i : Int)) (fitsP s.size (l.drop i) last)
  | 0, i, size, last, h, h1, h2 => by
    refine Ev.step (fun k => text_fits.l0.eq_2 s size last l (l.length : Int) i k) (ev_ifn (by omega) (ev_ifn (by omega) (ev_some ?_)))
    rw [List.drop_of_length_le (by omega)]; rfl
  | m + 1, i, size, last, h, h1, h2 => by
    have hi : i < l.length := by omega
    have h60 := hx l[i] (List.getElem_mem hi)
    have go : ∀ b : Bool, b = decide (l[i].f0 < 0 ∨ l[i].f1 < l[i].f0 ∨ l[i].f1 > s.size) → Ev (fun k => text_fits.j1 k s size last l (l.length : Int) (i : Int) b l[i].f0 l[i].f1 l[i].f2) (fitsP s.size (l.drop i) last) := by
      rintro b rfl
      refine Ev.step (fun k => text_fits.j1.eq_2 s size last l (l.length : Int) i _ _ _ _ k) ?_
      rw [List.drop_eq_getElem_cons hi]
      simp only [fitsP]
      by_cases c : l[i].f0 < 0 ∨ l[i].f1 < l[i].f0 ∨ l[i].f1 > s.size
      · rw [if_pos c]; exact ev_ifp (decide_eq_true c) (ev_some rfl)
      · rw [if_neg c]
        refine ev_ifn (by simp only [decide_eq_true_eq]; exact c) ?_
        by_cases d : l[i].f0 < last
        · rw [if_pos d]; exact ev_ifp d (ev_some rfl)
        · rw [if_neg d]
          refine ev_ifn d ?_
          rw [wi hi (by unfold maxLen; omega), wr (i := l[i].f1 - l[i].f0) (by omega) (by omega), wr (i := (l[i].f2.size : Int) - (l[i].f1 - l[i].f0)) (by omega) (by omega), wr (by omega) (by omega)]
          exact fits_from s hs l hl hx m (i + 1) _ _ (by omega) (by omega) (by omega)
    refine Ev.step (fun k => text_fits.l0.eq_2 s size last l (l.length : Int) i k) (ev_ifp (by omega) (ev_ifp (by omega) (ev_ifp (by omega) ?_)))
    rw [rd_at l i hi]
    by_cases c0 : l[i].f0 < 0
    · exact ev_ifp c0 (go true (by simp [c0]))
    · refine ev_ifn c0 ?_
      by_cases c1 : l[i].f1 < l[i].f0
      · exact ev_ifp c1 (go true (by simp [c1]))
      · exact ev_ifn c1 (go _ (by simp [c0, c1]))
theorem fits_ev (s : ByteArray) (hs : s.size ≤ 1000) (l : List S24) (hl : l.length ≤ 10) (hx : ∀ x ∈ l, x.f2.size ≤ 300) : Ev (fun k => text_fits.f k s l) (fitsP s.size l 0) := by
  unfold text_fits.f
  exact fits_from s hs l hl hx l.length 0 _ 0 (by omega) (by omega) (by omega)
def Ch (n : Int) : List S24 → Int → Prop
  | [], a => 0 ≤ a ∧ a ≤ n
  | x :: r, a => 0 ≤ a ∧ a ≤ x.f0 ∧ x.f0 ≤ x.f1 ∧ x.f1 ≤ n ∧ Ch n r x.f1
theorem fits_ch {n : Int} : ∀ (l : List S24) (a : Int), 0 ≤ a → a ≤ n → fitsP n l a = 0 → Ch n l a
  | [], a, h0, h1, _ => ⟨h0, h1⟩
  | x :: r, a, h0, h1, h => by
    simp only [fitsP] at h
    by_cases c : x.f0 < 0 ∨ x.f1 < x.f0 ∨ x.f1 > n
    · rw [if_pos c] at h; cases h
    · rw [if_neg c] at h
      by_cases d : x.f0 < a
      · rw [if_pos d] at h; cases h
      · rw [if_neg d] at h
        exact ⟨h0, by omega, by omega, by omega, fits_ch r x.f1 (by omega) (by omega) h⟩
theorem ch_fits {n : Int} : ∀ (l : List S24) (a : Int), Ch n l a → fitsP n l a = 0
  | [], _, _ => rfl
  | x :: r, a, h => by
    obtain ⟨h0, h1, h2, h3, h4⟩ := h
    simp only [fitsP]
    rw [if_neg (by omega), if_neg (by omega)]
    exact ch_fits r x.f1 h4
theorem ch_ok {s : ByteArray} : ∀ (l : List S24) (a : Int), Ch s.size l a → okApply s l a = true
  | [], a, h => by simp only [okApply, decide_eq_true_eq]; exact h
  | x :: r, a, h => by
    obtain ⟨h0, h1, h2, h3, h4⟩ := h
    simp only [okApply, Bool.and_eq_true, decide_eq_true_eq]
    exact ⟨⟨h0, h1, by omega⟩, ch_ok r x.f1 h4⟩
theorem applyB_len (s : ByteArray) : ∀ (l : List S24) (a : Int), (∀ x ∈ l, x.f2.size ≤ 300) → Ch s.size l a → ((applyB s l a).length : Int) ≤ s.size - a + 300 * l.length
  | [], a, _, h => by
    obtain ⟨h0, h1⟩ := h
    simp only [applyB, ext_sub]
    rw [sub_len _ _ _ (by rw [len_data]; omega)]
    simp; omega
  | x :: r, a, hx, h => by
    obtain ⟨h0, h1, h2, h3, h4⟩ := h
    have ih := applyB_len s r x.f1 (fun y hy => hx y (by simp [hy])) h4
    have h60 := hx x (by simp)
    simp only [applyB, ext_sub, List.length_append, len_data]
    rw [sub_len _ _ _ (by rw [len_data]; omega)]
    simp only [List.length_cons]
    omega
def applyR (s : ByteArray) (l : List S24) : ByteArray × Int := if fitsP s.size l 0 = 0 then (⟨(applyB s l 0).toArray⟩, 0) else (⟨#[]⟩, fitsP s.size l 0)
theorem apply_ev (s : ByteArray) (hs : s.size ≤ 1000) (l : List S24) (hl : l.length ≤ 10) (hx : ∀ x ∈ l, x.f2.size ≤ 300) : Ev (fun k => text_Apply.f k s l) (applyR s l) := by
  unfold text_Apply.f
  refine ev_ifp (by omega) (Ev.bind (f := fun _ e => if e = 0 then (if okApply s l 0 = true ∧ (applyB s l 0).length ≤ 1000000 then some ((⟨(applyB s l 0).toArray⟩ : ByteArray), (0 : Int)) else none) else some ((⟨#[]⟩ : ByteArray), e)) (fits_ev s hs l hl hx) ?_)
  by_cases c : fitsP s.size l 0 = 0
  · rw [show applyR s l = (⟨(applyB s l 0).toArray⟩, 0) from if_pos c]
    have h := fits_ch l 0 (by omega) (by omega) c
    have hn := applyB_len s l 0 hx h
    exact ev_ifp c (ev_ifp ⟨ch_ok l 0 h, by omega⟩ (ev_some rfl))
  · rw [show applyR s l = (⟨#[]⟩, fitsP s.size l 0) from if_neg c]
    exact ev_ifn c (ev_some rfl)

/-! ### the reference's Apply: from the end -/
def eAt (l : List S24) (a : Int) : Nat → Int
  | 0 => a
  | i + 1 => (l.getD i z24).f1
theorem ch_get {n : Int} : ∀ (l : List S24) (a : Int) (i : Nat) (h : i < l.length), Ch n l a → 0 ≤ eAt l a i ∧ eAt l a i ≤ l[i].f0 ∧ l[i].f0 ≤ l[i].f1 ∧ l[i].f1 ≤ n
  | x :: r, a, 0, _, hc => by
    obtain ⟨h0, h1, h2, h3, h4⟩ := hc
    exact ⟨h0, h1, h2, h3⟩
  | x :: r, a, i + 1, h, hc => by
    obtain ⟨h0, h1, h2, h3, h4⟩ := hc
    have hi : i < r.length := by simpa using h
    have := ch_get r x.f1 i hi h4
    have e : eAt (x :: r) a (i + 1) = eAt r x.f1 i := by cases i <;> simp [eAt]
    rw [e]
    simpa using this
theorem app_left (s : ByteArray) (a b : Nat) (R : List UInt8) (out : ByteArray) (h : out.data.toList = sub s.data.toList 0 b ++ R) (ha : a ≤ b) (hb : b ≤ s.size) : (out.extract 0 a).data.toList = sub s.data.toList 0 a := by
  rw [ext_sub, h]
  unfold sub
  rw [List.drop_zero, List.drop_zero, List.take_append_of_le_length (by rw [List.length_take, len_data]; omega), List.take_take]
  congr 1; omega
theorem app_right (s : ByteArray) (b : Nat) (R : List UInt8) (out : ByteArray) (h : out.data.toList = sub s.data.toList 0 b ++ R) (hb : b ≤ s.size) : (out.extract b out.size).data.toList = R := by
  rw [ext_sub]
  have e : out.size = b + R.length := by rw [← len_data, h, List.length_append, sub_len _ _ _ (by rw [len_data]; omega)]; omega
  rw [e, h]
  unfold sub
  have e2 : (List.take (b - 0) (List.drop 0 s.data.toList)).length = b := by rw [List.length_take, List.drop_zero, len_data]; omega
  rw [List.drop_append_of_le_length (by omega), List.drop_of_length_le (by omega), List.nil_append]
  rw [List.take_of_length_le (by omega)]
theorem size_le (s : ByteArray) (out : ByteArray) (b : Nat) (R : List UInt8) (h : out.data.toList = sub s.data.toList 0 b ++ R) (hb : b ≤ s.size) : out.size = b + R.length := by
  rw [← len_data, h, List.length_append, sub_len _ _ _ (by rw [len_data]; omega)]; omega
theorem applyB_len' (s : ByteArray) (l : List S24) (hl : l.length ≤ 10) (hx : ∀ x ∈ l, x.f2.size ≤ 300) (m : Nat) (a : Int) (h : Ch s.size (l.drop m) a) : ((applyB s (l.drop m) a).length : Int) ≤ s.size - a + 3000 := by
  have := applyB_len s (l.drop m) a (fun x hx2 => hx x (List.mem_of_mem_drop hx2)) h
  rw [List.length_drop] at this
  omega
theorem ch_drop {n : Int} : ∀ (l : List S24) (a : Int) (m : Nat), m ≤ l.length → Ch n l a → Ch n (l.drop m) (eAt l a m)
  | l, a, 0, _, h => h
  | [], a, m + 1, hm, h => by simp at hm
  | x :: r, a, m + 1, hm, h => by
    have := ch_drop r x.f1 m (by simpa using hm) h.2.2.2.2
    have e : eAt (x :: r) a (m + 1) = eAt r x.f1 m := by cases m <;> simp [eAt]
    rw [e]; exact this
theorem ref_apply_from (s : ByteArray) (hs : s.size ≤ 1000) (l : List S24) (hl : l.length ≤ 10) (hx : ∀ x ∈ l, x.f2.size ≤ 300) (hc : Ch s.size l 0) : ∀ (m : Nat) (out : ByteArray), m ≤ l.length →
    out.data.toList = sub s.data.toList 0 (eAt l 0 m).toNat ++ applyB s (l.drop m) (eAt l 0 m) → Ev (fun k => assessorref01_Apply.l0 k l out ((m : Int) - 1)) (⟨(applyB s l 0).toArray⟩, 0)
  | 0, out, _, h => by
    refine Ev.step (fun k => assessorref01_Apply.l0.eq_2 l out _ k) (ev_ifn (by omega) ?_)
    have e : out.data.toList = applyB s l 0 := by rw [h]; simp [eAt, sub_nil]
    have hlen := applyB_len' s l hl hx 0 0 hc
    have hsz : out.size = (applyB s l 0).length := by rw [← len_data, e]
    rw [List.drop_zero] at hlen
    refine ev_ifn (by omega) (ev_some ?_)
    rw [show (⟨(applyB s l 0).toArray⟩ : ByteArray) = out from data_ext' (by rw [e])]
  | m + 1, out, hm, h => by
    have hi : m < l.length := by omega
    obtain ⟨g0, g1, g2, g3⟩ := ch_get l 0 m hi hc
    have e1 : eAt l 0 (m + 1) = l[m].f1 := by simp [eAt, hi]
    rw [e1] at h
    have hd := ch_drop l 0 (m + 1) (by omega) hc
    rw [e1] at hd
    have hlen := applyB_len' s l hl hx (m + 1) _ hd
    have hsz := size_le s out l[m].f1.toNat _ h (by omega)
    have h60 := hx l[m] (List.getElem_mem hi)
    have hL := app_left s l[m].f0.toNat l[m].f1.toNat _ out h (by omega) (by omega)
    have hR := app_right s l[m].f1.toNat _ out h (by omega)
    refine Ev.step (fun k => assessorref01_Apply.l0.eq_2 l out _ k) ?_
    rw [show ((m + 1 : Nat) : Int) - 1 = (m : Int) from by omega, rd_at l m hi]
    have z1 : (out.extract 0 l[m].f0.toNat).size = l[m].f0.toNat := by rw [← len_data, hL, sub_len _ _ _ (by rw [len_data]; omega)]; omega
    have z2 : (out.extract l[m].f1.toNat out.size).size = (applyB s (l.drop (m + 1)) l[m].f1).length := by rw [← len_data, hR]
    refine ev_ifp (by omega) (ev_ifp (by omega) (ev_ifp (by omega) (ev_ifp (by omega) (ev_ifp (by omega) (ev_ifp (by omega) (ev_ifp (by omega) (ev_ifp (by omega) (ev_ifp (by rw [ByteArray.size_append]; omega) ?_))))))))
    rw [show wrap64 ((m : Int) - 1) = (m : Int) - 1 from by unfold wrap64; omega]
    refine ref_apply_from s hs l hl hx hc m _ (by omega) ?_
    have e2 : l.drop m = l[m] :: l.drop (m + 1) := List.drop_eq_getElem_cons hi
    rw [e2]
    simp only [applyB, dapp]
    rw [hL, hR, ext_sub, ← List.append_assoc (sub _ _ _) (sub _ _ _), sub_sub _ _ _ _ (by omega) (by omega)]
    simp
theorem ref_apply_ev (s : ByteArray) (hs : s.size ≤ 1000) (l : List S24) (hl : l.length ≤ 10) (hx : ∀ x ∈ l, x.f2.size ≤ 300) : Ev (fun k => assessorref01_Apply.f k s l) (applyR s l) := by
  unfold assessorref01_Apply.f applyR
  refine Ev.bind (f := fun k t => if t = 0 then (assessorref01_Apply.l0 k l s (wrap64 ((l.length : Int) - 1))) else (some ((⟨#[]⟩ : ByteArray), t))) (ref_fits_ev s l (by unfold maxLen; omega)) ?_
  by_cases c : fitsP s.size l 0 = 0
  · rw [if_pos c]
    refine ev_ifp c ?_
    have h := fits_ch l 0 (by omega) (by omega) c
    rw [show wrap64 ((l.length : Int) - 1) = (l.length : Int) - 1 from by unfold wrap64; omega]
    refine ref_apply_from s hs l hl hx h l.length s (by omega) ?_
    have hd := ch_drop l 0 l.length (by omega) h
    rw [List.drop_length] at hd ⊢
    simp only [applyB, ext_sub]
    rw [sub_sub _ _ _ _ (by omega) (by have := hd.2; have := hd.1; omega), sub_all _ _ (by rw [len_data])]
  · rw [if_neg c]
    exact ev_ifn c (ev_some rfl)
end Go.Proofs.Ytggcbcleocamlaa.P
