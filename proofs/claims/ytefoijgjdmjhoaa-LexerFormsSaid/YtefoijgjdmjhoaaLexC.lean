import Derived.Test.YtefoijgjdmjhoaaLexB
import Derived.Test.YtefoijgjdmjhoaaPx17
import Derived.Test.YtefoijgjdmjhoaaPx18
import Derived.Test.YtefoijgjdmjhoaaPx16
import Derived.Test.YtefoijgjdmjhoaaPx15
import Derived.Test.YtefoijgjdmjhoaaNum
import Derived.Test.YtefoijgjdmjhoaaPx9
import Derived.Test.YtefoijgjdmjhoaaPx12
import Derived.Test.YtefoijgjdmjhoaaPx19
namespace Go.Proofs.Ytefoijgjdmjhoaa.P
open Go.RowKit Go.Proofs.YtefoijgjdmjhoaaW.PrintWords Go.Proofs.YtefoijgjdmjhoaaW.PrintLast Go.Proofs.YtefoijgjdmjhoaaW.PrintMore
set_option linter.unusedVariables false
set_option linter.unusedSimpArgs false

/-! ### words -/
def okTok (s : ByteArray) (t : S33) : Prop := 0 ≤ t.f1 ∧ t.f1 ≤ t.f2 ∧ t.f2 ≤ t.f3 ∧ t.f3 ≤ s.size
theorem rd_at (l : List S33) (i : Nat) (h : i < l.length) : rd_T33 l (i : Int) = l[i] := by simp [rd_T33, h]
theorem fit_from (s : ByteArray) (l : List S33) (hl : l.length ≤ 4097) (ho : ∀ t ∈ l, okTok s t) : ∀ (n i : Nat), i + n = l.length → Ev (fun k => lexer_fit.l0 k s l l (l.length : Int) (i : Int)) true
  | 0, i, h => Ev.step (fun k => lexer_fit.l0.eq_2 s l l (l.length : Int) i k) (ev_ifn (by omega) (ev_some (by simp; omega)))
  | n + 1, i, h => by
    have hi : i < l.length := by omega
    have o := ho l[i] (List.getElem_mem hi)
    obtain ⟨o1, o2, o3, o4⟩ := o
    refine Ev.step (fun k => lexer_fit.l0.eq_2 s l l (l.length : Int) i k) (ev_ifp (by omega) (ev_ifp (by omega) (ev_ifp (by omega) ?_)))
    rw [rd_at l i hi]
    refine ev_ifn (by omega) (ev_ifn (by omega) (ev_ifn (by omega) (ev_ifn (by omega) ?_)))
    rw [w1 (by omega) (by omega)]
    exact fit_from s l hl ho n (i + 1) (by omega)
theorem words_from (s : ByteArray) (l : List S33) (hl : l.length ≤ 4097) (ho : ∀ t ∈ l, okTok s t) : ∀ (n i : Nat) (out : List ByteArray), i + n = l.length → out.length = i →
    Ev (fun k => lexer_Words.l0 k s out l (l.length : Int) (i : Int)) (out ++ (l.drop i).map fun t => s.extract t.f2.toNat t.f3.toNat)
  | 0, i, out, h, _ => by
    refine Ev.step (fun k => lexer_Words.l0.eq_2 s out l (l.length : Int) i k) (ev_ifn (by omega) (ev_some ?_))
    rw [List.drop_of_length_le (by omega)]; simp
  | n + 1, i, out, h, hout => by
    have hi : i < l.length := by omega
    have o := ho l[i] (List.getElem_mem hi)
    obtain ⟨o1, o2, o3, o4⟩ := o
    refine Ev.step (fun k => lexer_Words.l0.eq_2 s out l (l.length : Int) i k) (ev_ifp (by omega) (ev_ifp (by omega) (ev_ifp (by omega) ?_)))
    rw [rd_at l i hi]
    refine ev_ifp (by omega) (ev_ifp (by omega) (ev_ifp (by omega) (ev_ifp (by omega) ?_)))
    rw [w1 (by omega) (by omega)]
    have := words_from s l hl ho n (i + 1) (out ++ [s.extract l[i].f2.toNat l[i].f3.toNat]) (by omega) (by simp [hout])
    rw [List.append_assoc] at this
    rw [List.drop_eq_getElem_cons hi]
    exact this
def wordsP (s : ByteArray) (l : List S33) : List ByteArray := l.map fun t => s.extract t.f2.toNat t.f3.toNat
theorem lexer_Words_ev (s : ByteArray) (l : List S33) (hl : l.length ≤ 4097) (ho : ∀ t ∈ l, okTok s t) : Ev (fun k => lexer_Words.f k s l) (wordsP s l) := by
  unfold lexer_Words.f
  refine Ev.bind (f := fun k t => if t = true then lexer_Words.l0 k s [] l (l.length : Int) 0 else some []) (a := true) ?_ (ev_ifp rfl ?_)
  · unfold lexer_fit.f; exact fit_from s l hl ho l.length 0 (by omega)
  · simpa [wordsP] using words_from s l hl ho l.length 0 [] (by omega) rfl
theorem toks_len (s : ByteArray) : ∀ (n : Nat) (i : Int), 0 ≤ i → i ≤ s.size → (toks s n i).length ≤ (s.size - i).toNat + 1
  | 0, i, _, _ => by simp [toks]
  | n + 1, i, h0, h1 => by
    have hk := skipP_spec s (s.size + 1) i h0 h1 (by omega)
    simp only [toks]
    by_cases he : skipP s (s.size + 1) i = s.size
    · rw [if_pos he]; simp
    · rw [if_neg he]
      have hr := tokenP_range (s := s) (i := skipP s (s.size + 1) i) (by omega) (by omega)
      have := toks_len s n _ (by omega) hr.2
      rw [List.length_cons]
      omega
theorem scan_ok {s : ByteArray} (h : s.size ≤ 4096) : scanP s = (toks s (s.size + 1) 0, 0) ∧ (toks s (s.size + 1) 0).length ≤ 4097 ∧ ∀ t ∈ toks s (s.size + 1) 0, okTok s t := by
  refine ⟨by unfold scanP; rw [if_neg (by omega)], ?_, fun t ht => ?_⟩
  · have := toks_len s (s.size + 1) 0 (by omega) (by omega); omega
  · obtain ⟨a, b, c, d⟩ := toks_ok s (s.size + 1) 0 (by omega) (by omega) t ht
    exact ⟨by omega, b, c, d⟩
/-- Of the first two tokens: the second one begins where the first one ends. -/
theorem toks_chain (s : ByteArray) (n : Nat) (i : Int) (a b : S33) (r : List S33) (h : toks s n i = a :: b :: r) : b.f1 = a.f3 := by
  cases n with
  | zero => simp [toks] at h
  | succ n =>
    simp only [toks] at h
    by_cases he : skipP s (s.size + 1) i = s.size
    · rw [if_pos he] at h; simp at h
    · rw [if_neg he] at h
      injection h with h1 h2
      subst h1
      cases n with
      | zero => simp [toks] at h2
      | succ n =>
        simp only [toks] at h2
        split at h2
        · injection h2 with h3 h4; subst h3; rfl
        · injection h2 with h3 h4; subst h3; rfl

/-! ### Space -/
theorem data_ext {a b : ByteArray} (h : a.toList = b.toList) : a = b := by
  rw [Lib.toList_data, Lib.toList_data] at h
  cases a with | mk x => cases b with | mk y => simp at h; rw [h]
theorem ext_left (a b : ByteArray) : (a ++ b).extract 0 a.size = a := by
  apply data_ext
  rw [Lib.toList_data, Lib.toList_data]
  simp [ByteArray.data_extract, Array.toList_extract, List.extract_eq_take_drop]
  exact List.take_of_length_le (by rw [data_length]; omega)
theorem ext_right (a b : ByteArray) : (a ++ b).extract a.size (a.size + b.size) = b := by
  apply data_ext
  rw [Lib.toList_data, Lib.toList_data]
  simp [ByteArray.data_extract, Array.toList_extract, List.extract_eq_take_drop]
  rw [List.drop_of_length_le (by rw [data_length]; omega)]
  simp
  exact List.take_of_length_le (by rw [data_length]; omega)
theorem space_iff (a b : ByteArray) (h : a.size + b.size ≤ 4096) (t0 t1 t2 : S33) (e : toks (a ++ b) ((a ++ b).size + 1) 0 = [t0, t1, t2]) :
    ((a ++ b).extract t0.f2.toNat t0.f3.toNat = a ∧ (a ++ b).extract t1.f2.toNat t1.f3.toNat = b) ↔ (t0.f2 = 0 ∧ t0.f3 = a.size ∧ t1.f2 = a.size ∧ t1.f3 = ((a ++ b).size : Int)) := by
  have hsz : (a ++ b).size = a.size + b.size := ByteArray.size_append
  have ho := (scan_ok (s := a ++ b) (by omega)).2.2
  rw [e] at ho
  obtain ⟨a1, a2, a3, a4⟩ := ho t0 (by simp)
  obtain ⟨b1, b2, b3, b4⟩ := ho t1 (by simp)
  have hc := toks_chain _ _ _ t0 t1 _ e
  constructor
  · rintro ⟨h0, h1⟩
    have s0 : ((a ++ b).extract t0.f2.toNat t0.f3.toNat).size = a.size := by rw [h0]
    have s1 : ((a ++ b).extract t1.f2.toNat t1.f3.toNat).size = b.size := by rw [h1]
    rw [ByteArray.size_extract] at s0 s1
    omega
  · rintro ⟨h0, h1, h2, h3⟩
    rw [h0, h1, h2, h3, hsz]
    exact ⟨ext_left a b, by rw [show ((a.size : Int)).toNat = a.size from by omega, show (((a.size + b.size : Nat)) : Int).toNat = a.size + b.size from by omega]; exact ext_right a b⟩
def spaceP (a b : ByteArray) : ByteArray :=
  match toks (a ++ b) ((a ++ b).size + 1) 0 with
  | [t0, t1, _] => if t0.f2 = 0 ∧ t0.f3 = a.size ∧ t1.f2 = a.size ∧ t1.f3 = ((a ++ b).size : Int) then ⟨#[]⟩ else ⟨#[32]⟩
  | _ => ⟨#[32]⟩
theorem spaceP_three {a b : ByteArray} {t0 t1 t2 : S33} (e : toks (a ++ b) ((a ++ b).size + 1) 0 = [t0, t1, t2]) : spaceP a b = if t0.f2 = 0 ∧ t0.f3 = a.size ∧ t1.f2 = a.size ∧ t1.f3 = ((a ++ b).size : Int) then ⟨#[]⟩ else ⟨#[32]⟩ := by
  unfold spaceP; rw [e]
theorem spaceP_other {a b : ByteArray} (e : (toks (a ++ b) ((a ++ b).size + 1) 0).length ≠ 3) : spaceP a b = ⟨#[32]⟩ := by
  unfold spaceP
  match h : toks (a ++ b) ((a ++ b).size + 1) 0 with
  | [] => rfl
  | [_] => rfl
  | [_, _] => rfl
  | [_, _, _] => rw [h] at e; simp at e
  | _ :: _ :: _ :: _ :: _ => rfl
theorem three_of {α : Type} {l : List α} (h : l.length = 3) : ∃ x y z, l = [x, y, z] := by
  match l, h with
  | [x, y, z], _ => exact ⟨x, y, z, rfl⟩
theorem lexer_Space_ev (a b : ByteArray) (h : a.size + b.size ≤ 4096) : Ev (fun k => lexer_Space.f k a b) (spaceP a b) := by
  have hsz : (a ++ b).size = a.size + b.size := ByteArray.size_append
  obtain ⟨hs, hl, ho⟩ := scan_ok (s := a ++ b) (by omega)
  unfold lexer_Space.f
  refine ev_ifp (by omega) ?_
  refine Ev.bind (f := fun k t => if t.2 = 0 then lexer_Space.j0 k a b (a ++ b) t.1 ((t.1.length : Int) == 3) else lexer_Space.j0 k a b (a ++ b) t.1 false) (lexer_Scan_ev (a ++ b)) ?_
  rw [hs]
  refine ev_ifp rfl (Ev.step (fun k => lexer_Space.j0.eq_2 a b (a ++ b) _ _ k) ?_)
  generalize hL : toks (a ++ b) ((a ++ b).size + 1) 0 = L at hl ho
  by_cases h3 : L.length = 3
  · refine ev_ifp (by simp [h3]) ?_
    obtain ⟨t0, t1, t2, rfl⟩ := three_of h3
    refine Ev.bind (lexer_Words_ev (a ++ b) _ hl ho) ?_
    have hi := space_iff a b h t0 t1 t2 hL
    rw [spaceP_three hL]
    refine ev_ifp (by simp [wordsP]) ?_
    have e0 : rdOf ByteArray.empty (wordsP (a ++ b) [t0, t1, t2]) 0 = (a ++ b).extract t0.f2.toNat t0.f3.toNat := rfl
    have e1 : rdOf ByteArray.empty (wordsP (a ++ b) [t0, t1, t2]) 1 = (a ++ b).extract t1.f2.toNat t1.f3.toNat := rfl
    rw [e0, e1]
    by_cases c0 : (a ++ b).extract t0.f2.toNat t0.f3.toNat = a
    · refine ev_ifp (by rw [c0]) (ev_ifp (by simp [wordsP]) ?_)
      by_cases c1 : (a ++ b).extract t1.f2.toNat t1.f3.toNat = b
      · rw [if_pos (hi.mp ⟨c0, c1⟩)]
        exact ev_ifp (by rw [c1]) (ev_some rfl)
      · rw [if_neg (fun k => c1 (hi.mpr k).2)]
        exact ev_ifn (fun k => c1 (data_ext k)) (ev_some rfl)
    · rw [if_neg (fun k => c0 (hi.mpr k).1)]
      exact ev_ifn (fun k => c0 (data_ext k)) (ev_some rfl)
  · rw [spaceP_other (by rw [hL]; exact h3)]
    exact ev_ifn (by simp; omega) (ev_some rfl)
theorem ref_Space_ev (a b : ByteArray) (h : a.size + b.size ≤ 4096) : Ev (fun k => assessorref02_Space.f k a b) (spaceP a b) := by
  have hsz : (a ++ b).size = a.size + b.size := ByteArray.size_append
  obtain ⟨hs, hl, ho⟩ := scan_ok (s := a ++ b) (by omega)
  unfold assessorref02_Space.f
  refine ev_ifn (by omega) (Ev.step (fun k => assessorref02_Space.j0.eq_2 a b _ k) (ev_ifn (by simp; omega) (ev_ifp (by omega) ?_)))
  refine Ev.bind (ref_Scan_ev (a ++ b)) ?_
  rw [hs]
  refine ev_ifp rfl ?_
  generalize hL : toks (a ++ b) ((a ++ b).size + 1) 0 = L at hl ho
  by_cases h3 : L.length = 3
  · obtain ⟨t0, t1, t2, rfl⟩ := three_of h3
    rw [spaceP_three hL]
    refine ev_ifp (by rfl) (ev_ifp (by simp) ?_)
    have e0 : rd_T33 [t0, t1, t2] 0 = t0 := rfl
    have e1 : rd_T33 [t0, t1, t2] 1 = t1 := rfl
    simp only [e0, e1]
    by_cases c0 : t0.f2 = 0
    · by_cases c1 : t0.f3 = a.size
      · by_cases c2 : t1.f2 = a.size
        · by_cases c3 : t1.f3 = ((a ++ b).size : Int)
          · rw [if_pos (show (t0.f2 = 0 ∧ t0.f3 = a.size ∧ t1.f2 = a.size ∧ t1.f3 = ((a ++ b).size : Int)) from ⟨c0, c1, c2, c3⟩)]
            exact ev_ifp c0 (ev_ifp c1 (ev_ifp (by simp) (ev_ifp c2 (ev_ifp c3 (ev_some rfl)))))
          · rw [if_neg (show ¬ (t0.f2 = 0 ∧ t0.f3 = a.size ∧ t1.f2 = a.size ∧ t1.f3 = ((a ++ b).size : Int)) from fun k => c3 k.2.2.2)]
            exact ev_ifp c0 (ev_ifp c1 (ev_ifp (by simp) (ev_ifp c2 (ev_ifn c3 (ev_some rfl)))))
        · rw [if_neg (show ¬ (t0.f2 = 0 ∧ t0.f3 = a.size ∧ t1.f2 = a.size ∧ t1.f3 = ((a ++ b).size : Int)) from fun k => c2 k.2.2.1)]
          exact ev_ifp c0 (ev_ifp c1 (ev_ifp (by simp) (ev_ifn c2 (ev_some rfl))))
      · rw [if_neg (show ¬ (t0.f2 = 0 ∧ t0.f3 = a.size ∧ t1.f2 = a.size ∧ t1.f3 = ((a ++ b).size : Int)) from fun k => c1 k.2.1)]
        exact ev_ifp c0 (ev_ifn c1 (ev_some rfl))
    · rw [if_neg (show ¬ (t0.f2 = 0 ∧ t0.f3 = a.size ∧ t1.f2 = a.size ∧ t1.f3 = ((a ++ b).size : Int)) from fun k => c0 k.1)]
      exact ev_ifn c0 (ev_some rfl)
  · rw [spaceP_other (by rw [hL]; exact h3)]
    exact ev_ifn (fun hc => h3 (by have hc2 : (L.length : Int) = 3 := hc; omega)) (ev_some rfl)

/-! ### Number, Name -/
def numR (s : ByteArray) (r a : Int) : Int × Bool := if r < s.size then (0, false) else (a, true)
theorem numR_lt {s : ByteArray} {r a : Int} (h : r < s.size) : numR s r a = (0, false) := if_pos h
theorem numR_ge {s : ByteArray} {r a : Int} (h : ¬ r < s.size) : numR s r a = (a, true) := if_neg h
theorem ref_number_ev (s : ByteArray) (hs : s.size ≤ 9) : ∀ (n : Nat) (i a : Int), 0 ≤ i → i ≤ s.size → (s.size - i).toNat = n →
    Ev (fun k => assessorref02_Number.l0 k s a i) (numR s (runP isDigit s n i) (numP s n i a))
  | 0, i, a, h0, h1, h => Ev.step (fun k => assessorref02_Number.l0.eq_2 s a i k) (ev_ifn (by omega) (ev_some (by simp only [runP, numP]; exact (numR_ge (by omega)).symm)))
  | n + 1, i, a, h0, h1, h => by
    refine Ev.step (fun k => assessorref02_Number.l0.eq_2 s a i k) (ev_ifp (by omega) (ev_ifp h0 ?_))
    simp only [rdigit_f, Option.bind_some, runP, numP]
    by_cases hd : isDigit (bt s i) = true
    · refine ev_ifp hd ?_
      rw [if_pos hd, w1 h0 (by omega)]
      exact ref_number_ev s hs n (i + 1) _ (by omega) (by omega) (by omega)
    · rw [if_neg hd]
      refine ev_ifn hd (ev_some ?_)
      exact (numR_lt (by omega)).symm
theorem numbers (s : ByteArray) (hs : s.size ≤ 140737488351232) : ∃ r, lexer_Number.f s = some r ∧ Ev (fun k => assessorref02_Number.f k s) r := by
  unfold lexer_Number.f
  rw [if_pos hs]
  by_cases h : s.size = 0 ∨ 9 < s.size
  · rw [if_pos h]
    refine ⟨_, rfl, ?_⟩
    unfold assessorref02_Number.f
    rcases h with h | h
    · exact ev_ifp (by omega) (Ev.step (fun k => assessorref02_Number.j0.eq_2 s true k) (ev_ifp rfl (ev_some rfl)))
    · exact ev_ifn (by omega) (Ev.step (fun k => assessorref02_Number.j0.eq_2 s _ k) (ev_ifp (by simp; omega) (ev_some rfl)))
  · rw [if_neg h]
    have e : Ev (fun k => assessorref02_Number.f k s) (numR s (runP isDigit s s.size 0) (numP s s.size 0 0)) := by
      unfold assessorref02_Number.f
      exact ev_ifn (by omega) (Ev.step (fun k => assessorref02_Number.j0.eq_2 s _ k) (ev_ifn (by simp; omega) (ref_number_ev s (by omega) s.size 0 0 (by omega) (by omega) (by omega))))
    unfold numR at e
    by_cases c : runP isDigit s s.size 0 < s.size
    · rw [if_pos c] at e
      rw [if_pos c]
      exact ⟨_, rfl, e⟩
    · rw [if_neg c] at e
      rw [if_neg c]
      exact ⟨_, rfl, e⟩
theorem names (s : ByteArray) (hs : s.size ≤ 140737488351232) : ∃ r, lexer_Name.f s = some r ∧ Ev (fun k => assessorref02_Name.f k s) r := by
  unfold lexer_Name.f assessorref02_Name.f
  by_cases h0 : s.size = 0
  · rw [if_pos ((toList_nil s).mpr h0)]
    exact ⟨_, rfl, ev_ifp (by omega) (ev_some rfl)⟩
  · rw [if_neg (fun k => h0 ((toList_nil s).mp k))]
    by_cases h1 : (s.size : Int) > 16
    · rw [if_pos h1]
      exact ⟨_, rfl, ev_ifn (by omega) (ev_ifp h1 (ev_some rfl))⟩
    · rw [if_neg h1, if_pos (by omega)]
      simp only [letter_f, rletter_f, keyword_f hs, run_nm hs (Int.le_refl 0), Option.bind_some]
      by_cases hl : isLetter (bt s 0) = true
      · rw [if_pos hl]
        by_cases hk : kwords.contains s.data.toList = true
        · rw [if_pos hk]
          exact ⟨_, rfl, ev_ifn (by omega) (ev_ifn h1 (ev_ifp (by omega) (ev_ifp hl (Ev.bind (ref_keyword_ev s) (ev_ifp hk (ev_some rfl))))))⟩
        · rw [if_neg hk]
          refine ⟨_, rfl, ev_ifn (by omega) (ev_ifn h1 (ev_ifp (by omega) (ev_ifp hl (Ev.bind (ref_keyword_ev s) (ev_ifn hk ?_)))))⟩
          refine Ev.bind (f := fun _ b => some (b.2 == (s.size : Int))) (ref_token_ev s hs (i := 0) (by omega) (by omega) (.inl hl)) (ev_some ?_)
          unfold tokenP
          rw [if_pos hl]
          rfl
      · rw [if_neg hl]
        exact ⟨_, rfl, ev_ifn (by omega) (ev_ifn h1 (ev_ifp (by omega) (ev_ifn hl (ev_some rfl))))⟩
end Go.Proofs.Ytefoijgjdmjhoaa.P
