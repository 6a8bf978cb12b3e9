-- Texts of this claim, put together and cut down to what is used (trim.py, a program of this session).
import Derived.Test.YtogknojocodhgaaZ4
import Derived.Test.YtogknojocodhgaaZ5
import Derived.Test.YtogknojocodhgaaZ28
import Derived.Test.YtogknojocodhgaaZ31
import Derived.Test.YtogknojocodhgaaZ32
import Derived.Test.YtogknojocodhgaaZ34
section
namespace Go.Proofs.Ytogknojocodhgaa.P
open Go.RowKit Go.Proofs.YtogknojocodhgaaW.PrintWords Go.Proofs.YtogknojocodhgaaW.PrintLast Go.Proofs.YtogknojocodhgaaW.PrintMore
set_option linter.unusedVariables false
set_option linter.unusedSimpArgs false
def stopB (s : ByteArray) (i : Int) : Bool := blankB (bt s i) || (bt s i == 35 || (isLetter (bt s i) || (isDigit (bt s i) || !(symP s i == 0))))
def wrongP (s : ByteArray) : Nat → Int → Int
  | 0, i => i
  | n + 1, i => if stopB s i = true then i else wrongP s n (i + 1)
theorem wrongP_range (s : ByteArray) : ∀ (n : Nat) (i : Int), i ≤ wrongP s n i ∧ wrongP s n i ≤ i + n
  | 0, i => by simp [wrongP]
  | n + 1, i => by
    have h := wrongP_range s n (i + 1)
    simp only [wrongP]
    split <;> omega
def kwB (s : ByteArray) : Bool := kwords.contains s.data.toList
def wordP (s : ByteArray) (a e : Int) : Int × Int := (if kwB (s.extract a.toNat e.toNat) = true then 1 else 0, e)
def tokenP (s : ByteArray) (i : Int) : Int × Int :=
  if isLetter (bt s i) = true then wordP s i (runP isWord s (s.size - i).toNat i)
  else if isDigit (bt s i) = true then (2, runP isDigit s (s.size - i).toNat i)
  else if symP s i > 0 then (3, i + symP s i)
  else (4, wrongP s (s.size - (i + 1)).toNat (i + 1))
theorem tokenP_range {s : ByteArray} {i : Int} (h0 : 0 ≤ i) (h1 : i < s.size) : i + 1 ≤ (tokenP s i).2 ∧ (tokenP s i).2 ≤ s.size := by
  unfold tokenP
  by_cases hl : isLetter (bt s i) = true
  · rw [if_pos hl, runP_first h1 (by simp [isWord, hl])]
    have := runP_range' isWord s (s.size - (i + 1)).toNat (i + 1)
    show i + 1 ≤ runP isWord s _ _ ∧ runP isWord s _ _ ≤ s.size
    omega
  · rw [if_neg hl]
    by_cases hd : isDigit (bt s i) = true
    · rw [if_pos hd, runP_first h1 hd]
      have := runP_range' isDigit s (s.size - (i + 1)).toNat (i + 1)
      show i + 1 ≤ runP isDigit s _ _ ∧ runP isDigit s _ _ ≤ s.size
      omega
    · rw [if_neg hd]
      have hs := symP_range s i
      by_cases hp : symP s i > 0
      · rw [if_pos hp]
        show i + 1 ≤ i + symP s i ∧ i + symP s i ≤ s.size
        refine ⟨by omega, ?_⟩
        by_cases h2 : symP s i = 2
        · have := hs.2.2 h2; omega
        · omega
      · rw [if_neg hp]
        have := wrongP_range s (s.size - (i + 1)).toNat (i + 1)
        show i + 1 ≤ wrongP s _ _ ∧ wrongP s _ _ ≤ s.size
        omega
theorem lexer_wrong_ev (s : ByteArray) (hs : s.size ≤ 140737488351232) : ∀ (n : Nat) (i : Int), 0 ≤ i → i ≤ s.size → (s.size - i).toNat = n → Ev (fun k => lexer_token.l0 k s i) (4, wrongP s n i)
  | 0, i, h0, h1, h => Ev.step (fun k => lexer_token.l0.eq_2 s i k) (ev_ifn (by omega) (ev_some rfl))
  | n + 1, i, h0, h1, h => by
    have hlt : i < s.size := by omega
    refine Ev.step (fun k => lexer_token.l0.eq_2 s i k) (ev_ifp hlt (ev_ifp h0 ?_))
    simp only [white_f, letter_f, digit_f, symbol_f hs h0 hlt, Option.bind_some, wrongP]
    by_cases a : blankB (bt s i) = true
    · rw [if_pos (by simp [stopB, a])]; exact ev_ifp a (ev_some rfl)
    · refine ev_ifn a ?_
      by_cases b : bt s i = 35
      · rw [if_pos (by simp [stopB, b])]; exact ev_ifp b (ev_some rfl)
      · refine ev_ifn b ?_
        by_cases c : isLetter (bt s i) = true
        · rw [if_pos (by simp [stopB, c])]; exact ev_ifp c (ev_some rfl)
        · refine ev_ifn c ?_
          by_cases d : isDigit (bt s i) = true
          · rw [if_pos (by simp [stopB, d])]; exact ev_ifp d (ev_some rfl)
          · refine ev_ifn d ?_
            by_cases e : symP s i = 0
            · rw [if_neg (by simp [stopB, a, b, c, d, e])]
              refine ev_ifp e ?_
              rw [w1 h0 (by omega)]
              exact lexer_wrong_ev s hs n (i + 1) (by omega) (by omega) (by omega)
            · rw [if_pos (by simp [stopB, e])]; exact ev_ifn e (ev_some rfl)
theorem begins_ev (s : ByteArray) (hs : s.size ≤ 140737488351232) {i : Int} (h0 : 0 ≤ i) (h1 : i < s.size) : Ev (fun k => assessorref02_begins.f k s i) (isLetter (bt s i) || (isDigit (bt s i) || decide (symP s i > 0))) := by
  unfold assessorref02_begins.f
  refine ev_ifp h0 (ev_ifp h1 ?_)
  simp only [rletter_f, rdigit_f, Option.bind_some]
  by_cases c : isLetter (bt s i) = true
  · exact ev_ifp c (ev_some (by simp [c]))
  · refine ev_ifn c ?_
    by_cases d : isDigit (bt s i) = true
    · exact ev_ifp d (ev_some (by simp [d]))
    · refine ev_ifn d ?_
      refine Ev.bind (f := fun _ t => some (decide (t > 0))) (ref_symbol_ev s hs h0 h1) (ev_some ?_)
      simp [c, d]
theorem ref_wrong_ev (s : ByteArray) (hs : s.size ≤ 140737488351232) : ∀ (n : Nat) (i : Int), 0 ≤ i → i ≤ s.size → (s.size - i).toNat = n → Ev (fun k => assessorref02_token.l2 k s i) (4, wrongP s n i)
  | 0, i, h0, h1, h => Ev.step (fun k => assessorref02_token.l2.eq_2 s i k) (ev_ifn (by omega) (ev_some rfl))
  | n + 1, i, h0, h1, h => by
    have hlt : i < s.size := by omega
    refine Ev.step (fun k => assessorref02_token.l2.eq_2 s i k) (ev_ifp hlt (ev_ifp h0 ?_))
    simp only [blank_f, Option.bind_some, wrongP]
    by_cases a : blankB (bt s i) = true
    · rw [if_pos (by simp [stopB, a])]; exact ev_ifp a (ev_some rfl)
    · refine ev_ifn a ?_
      by_cases b : bt s i = 35
      · rw [if_pos (by simp [stopB, b])]; exact ev_ifp b (ev_some rfl)
      · refine ev_ifn b ?_
        refine Ev.bind (f := fun k t => if t = true then some (4, i) else assessorref02_token.l2 k s (wrap64 (i + 1))) (begins_ev s hs h0 hlt) ?_
        have hr := symP_range s i
        by_cases e : (isLetter (bt s i) || (isDigit (bt s i) || decide (symP s i > 0))) = true
        · rw [if_pos ?_]
          · exact ev_ifp e (ev_some rfl)
          · simp only [stopB]
            simp only [Bool.or_eq_true, decide_eq_true_eq] at e
            rcases e with e | e | e
            · simp [e]
            · simp [e]
            · have : symP s i ≠ 0 := by omega
              simp [this]
        · rw [if_neg ?_]
          · refine ev_ifn e ?_
            rw [w1 h0 (by omega)]
            exact ref_wrong_ev s hs n (i + 1) (by omega) (by omega) (by omega)
          · simp only [Bool.or_eq_true, decide_eq_true_eq, not_or] at e
            have : symP s i = 0 := by omega
            simp [stopB, a, b, e.1, e.2.1, this]
theorem size_extract {s : ByteArray} {a b : Nat} (h : s.size ≤ 140737488351232) : (s.extract a b).size ≤ 140737488351232 := by
  rw [ByteArray.size_extract]; omega
theorem lexer_token_ev (s : ByteArray) (hs : s.size ≤ 140737488351232) {i : Int} (h0 : 0 ≤ i) (h1 : i < s.size) : Ev (fun k => lexer_token.f k s i) (tokenP s i) := by
  unfold lexer_token.f tokenP
  refine ev_ifp h0 (ev_ifp h1 ?_)
  simp only [letter_f, digit_f, symbol_f hs h0 h1, run_wd hs h0, run_dg hs h0, Option.bind_some]
  by_cases hl : isLetter (bt s i) = true
  · rw [if_pos hl]
    have hr := runP_range' isWord s (s.size - i).toNat i
    refine ev_ifp hl (ev_ifp hr.1 (ev_ifp (by omega) ?_))
    simp only [keyword_f (size_extract hs), Option.bind_some]
    unfold wordP
    by_cases hk : kwB (s.extract i.toNat (runP isWord s (s.size - i).toNat i).toNat) = true
    · rw [if_pos hk]; exact ev_ifp hk (ev_some rfl)
    · rw [if_neg hk]; exact ev_ifn hk (ev_some rfl)
  · rw [if_neg hl]
    refine ev_ifn hl ?_
    by_cases hd : isDigit (bt s i) = true
    · rw [if_pos hd]; exact ev_ifp hd (ev_some rfl)
    · rw [if_neg hd]
      refine ev_ifn hd ?_
      have hy := symP_range s i
      by_cases hp : symP s i > 0
      · rw [if_pos hp]
        refine ev_ifp hp (ev_some ?_)
        rw [show wrap64 (i + symP s i) = i + symP s i from by unfold wrap64; omega]
      · rw [if_neg hp, w1 h0 (by omega)]
        exact ev_ifn hp (lexer_wrong_ev s hs _ (i + 1) (by omega) (by omega) rfl)
theorem ref_word_ev (s : ByteArray) (hs : s.size ≤ 140737488351232) {a : Int} (ha : 0 ≤ a) : ∀ (n : Nat) (i : Int), a ≤ i → i ≤ s.size → (s.size - i).toNat = n →
    Ev (fun k => assessorref02_token.l0 k s a i) (wordP s a (runP isWord s n i)) := by
  intro n
  induction n with
  | zero =>
    intro i h0 h1 h
    refine Ev.step (fun k => assessorref02_token.l0.eq_2 s a i k) (ev_ifn (by omega) (ev_ifp ha (ev_ifp h0 (ev_ifp h1 ?_))))
    refine Ev.bind (f := fun _ t => if t = true then some (1, i) else some (0, i)) (ref_keyword_ev _) ?_
    show Ev _ (wordP s a i)
    unfold wordP
    by_cases hk : kwB (s.extract a.toNat i.toNat) = true
    · rw [if_pos hk]; exact ev_ifp hk (ev_some rfl)
    · rw [if_neg hk]; exact ev_ifn hk (ev_some rfl)
  | succ n ih =>
    intro i h0 h1 h
    refine Ev.step (fun k => assessorref02_token.l0.eq_2 s a i k) (ev_ifp (by omega) (ev_ifp (by omega) ?_))
    simp only [rletter_f, rdigit_f, Option.bind_some, runP]
    have hn := ih (i + 1) (by omega) (by omega) (by omega)
    rw [w1 (by omega) (by omega)]
    by_cases hl : isLetter (bt s i) = true
    · rw [if_pos (show isWord (bt s i) = true by simp [isWord, hl])]
      exact ev_ifp hl hn
    · refine ev_ifn hl ?_
      by_cases hd : isDigit (bt s i) = true
      · rw [if_pos (show isWord (bt s i) = true by simp [isWord, hd])]
        exact ev_ifp hd hn
      · refine ev_ifn hd ?_
        by_cases hu : bt s i = 95
        · rw [if_pos (show isWord (bt s i) = true by simp [isWord, hu])]
          exact ev_ifp hu hn
        · rw [if_neg (show ¬ isWord (bt s i) = true by simp [isWord, hl, hd, hu])]
          refine ev_ifn hu (ev_ifp ha (ev_ifp h0 (ev_ifp h1 ?_)))
          refine Ev.bind (f := fun _ t => if t = true then some (1, i) else some (0, i)) (ref_keyword_ev _) ?_
          unfold wordP
          by_cases hk : kwB (s.extract a.toNat i.toNat) = true
          · rw [if_pos hk]; exact ev_ifp hk (ev_some rfl)
          · rw [if_neg hk]; exact ev_ifn hk (ev_some rfl)
theorem ref_digits_ev (s : ByteArray) (hs : s.size ≤ 140737488351232) : ∀ (n : Nat) (i : Int), 0 ≤ i → i ≤ s.size → (s.size - i).toNat = n → Ev (fun k => assessorref02_token.l1 k s i) (2, runP isDigit s n i)
  | 0, i, h0, h1, h => Ev.step (fun k => assessorref02_token.l1.eq_2 s i k) (ev_ifn (by omega) (ev_some rfl))
  | n + 1, i, h0, h1, h => by
    refine Ev.step (fun k => assessorref02_token.l1.eq_2 s i k) (ev_ifp (by omega) (ev_ifp h0 ?_))
    simp only [rdigit_f, Option.bind_some, runP]
    by_cases hd : isDigit (bt s i) = true
    · rw [if_pos hd, w1 h0 (by omega)]
      exact ev_ifp hd (ref_digits_ev s hs n (i + 1) (by omega) (by omega) (by omega))
    · rw [if_neg hd]; exact ev_ifn hd (ev_some rfl)
theorem ref_token_ev (s : ByteArray) (hs : s.size ≤ 140737488351232) {i : Int} (h0 : 0 ≤ i) (h1 : i < s.size) (hb : isLetter (bt s i) = true ∨ (blankB (bt s i) = false ∧ bt s i ≠ 35)) : Ev (fun k => assessorref02_token.f k s i) (tokenP s i) := by
  unfold assessorref02_token.f tokenP
  refine ev_ifp h0 (ev_ifp h1 ?_)
  simp only [rletter_f, rdigit_f, Option.bind_some]
  by_cases hl : isLetter (bt s i) = true
  · rw [if_pos hl]
    exact ev_ifp hl (ref_word_ev s hs h0 _ i (by omega) (by omega) rfl)
  · rw [if_neg hl]
    refine ev_ifn hl ?_
    by_cases hd : isDigit (bt s i) = true
    · rw [if_pos hd]; exact ev_ifp hd (ref_digits_ev s hs _ i h0 (by omega) rfl)
    · rw [if_neg hd]
      refine ev_ifn hd ?_
      have hy := symP_range s i
      have he := ref_symbol_ev s hs h0 h1
      refine Ev.bind (f := fun k t => if t > 0 then (assessorref02_symbol.f k s i).bind fun t174 => some (3, wrap64 (i + t174)) else assessorref02_token.l2 k s i) he ?_
      by_cases hp : symP s i > 0
      · rw [if_pos hp]
        refine ev_ifp hp (Ev.bind (f := fun _ t => some (3, wrap64 (i + t))) he (ev_some ?_))
        rw [show wrap64 (i + symP s i) = i + symP s i from by unfold wrap64; omega]
      · rw [if_neg hp]
        obtain ⟨b1, b2⟩ := hb.resolve_left hl
        have hw := ref_wrong_ev s hs _ i h0 (by omega) rfl
        obtain ⟨m, hm⟩ : ∃ m, (s.size - i).toNat = m + 1 := ⟨(s.size - i).toNat - 1, by omega⟩
        have hz : symP s i = 0 := by omega
        rw [hm] at hw
        simp only [wrongP] at hw
        rw [if_neg (by simp [stopB, b1, b2, hl, hd, hz])] at hw
        rw [show (s.size - (i + 1)).toNat = m from by omega]
        exact ev_ifn hp hw
def toks (s : ByteArray) : Nat → Int → List S74
  | 0, _ => []
  | n + 1, i => if skipP s (s.size + 1) i = s.size then [⟨5, i, skipP s (s.size + 1) i, skipP s (s.size + 1) i⟩]
    else ⟨(tokenP s (skipP s (s.size + 1) i)).1, i, skipP s (s.size + 1) i, (tokenP s (skipP s (s.size + 1) i)).2⟩ :: toks s n (tokenP s (skipP s (s.size + 1) i)).2
theorem lexer_scan_ev (s : ByteArray) (hs : s.size ≤ 4096) : ∀ (n : Nat) (out : List S74) (i : Int), 0 ≤ i → i ≤ s.size → (s.size - i).toNat < n → out.length ≤ i → Ev (fun k => lexer_Scan.l0 k s out i) (out ++ toks s n i, 0)
  | 0, out, i, h0, h1, h, _ => by omega
  | n + 1, out, i, h0, h1, h, hl => by
    refine Ev.step (fun k => lexer_Scan.l0.eq_2 s out i k) ?_
    have hk := skipP_spec s (s.size + 1) i h0 h1 (by omega)
    refine Ev.bind (f := fun k t => if t = (s.size : Int) then (if out.length < 4398046511104 then (some (out ++ [(⟨5, i, t, t⟩ : S74)], 0)) else none) else ((lexer_token.f k s t).bind fun b => (if out.length < 4398046511104 then (lexer_Scan.l0 k s (out ++ [(⟨b.1, i, t, b.2⟩ : S74)]) b.2) else (none)))) (lexer_skip_ev s (by omega) (s.size + 1) i h0 h1 (by omega)) ?_
    simp only [toks]
    by_cases he : skipP s (s.size + 1) i = s.size
    · rw [if_pos he]
      exact ev_ifp he (ev_ifp (by omega) (ev_some rfl))
    · rw [if_neg he]
      refine ev_ifn he ?_
      have ht := tokenP_range (s := s) (i := skipP s (s.size + 1) i) (by omega) (by omega)
      refine Ev.bind (f := fun k b => (if out.length < 4398046511104 then (lexer_Scan.l0 k s (out ++ [(⟨b.1, i, skipP s (s.size + 1) i, b.2⟩ : S74)]) b.2) else (none))) (lexer_token_ev s (by omega) (i := skipP s (s.size + 1) i) (by omega) (by omega)) ?_
      refine ev_ifp (by omega) ?_
      have := lexer_scan_ev s hs n (out ++ [(⟨(tokenP s (skipP s (s.size + 1) i)).1, i, skipP s (s.size + 1) i, (tokenP s (skipP s (s.size + 1) i)).2⟩ : S74)]) (tokenP s (skipP s (s.size + 1) i)).2 (by omega) (by omega) (by omega) (by rw [List.length_append]; simp only [List.length_singleton]; omega)
      simpa using this
theorem ref_scan_ev (s : ByteArray) (hs : s.size ≤ 4096) : ∀ (n : Nat) (out : List S74) (i : Int), 0 ≤ i → i ≤ s.size → (s.size - i).toNat < n → out.length ≤ i → Ev (fun k => assessorref02_Scan.l0 k s out i) (out ++ toks s n i, 0)
  | 0, out, i, h0, h1, h, _ => by omega
  | n + 1, out, i, h0, h1, h, hl => by
    refine Ev.step (fun k => assessorref02_Scan.l0.eq_2 s out i k) ?_
    have hk := skipP_spec s (s.size + 1) i h0 h1 (by omega)
    refine Ev.bind (f := fun k t => if t = (s.size : Int) then (if out.length < 4398046511104 then (some (out ++ [(⟨5, i, t, t⟩ : S74)], 0)) else none) else ((assessorref02_token.f k s t).bind fun b => (if out.length < 4398046511104 then (assessorref02_Scan.l0 k s (out ++ [(⟨b.1, i, t, b.2⟩ : S74)]) b.2) else (none)))) (ref_skip_ev s (by omega) (s.size + 1) i h0 h1 (by omega)) ?_
    simp only [toks]
    by_cases he : skipP s (s.size + 1) i = s.size
    · rw [if_pos he]
      exact ev_ifp he (ev_ifp (by omega) (ev_some rfl))
    · rw [if_neg he]
      refine ev_ifn he ?_
      have ht := tokenP_range (s := s) (i := skipP s (s.size + 1) i) (by omega) (by omega)
      refine Ev.bind (f := fun k b => (if out.length < 4398046511104 then (assessorref02_Scan.l0 k s (out ++ [(⟨b.1, i, skipP s (s.size + 1) i, b.2⟩ : S74)]) b.2) else (none))) (ref_token_ev s (by omega) (i := skipP s (s.size + 1) i) (by omega) (by omega) (.inr (hk.2.2 (by omega)))) ?_
      refine ev_ifp (by omega) ?_
      have := ref_scan_ev s hs n (out ++ [(⟨(tokenP s (skipP s (s.size + 1) i)).1, i, skipP s (s.size + 1) i, (tokenP s (skipP s (s.size + 1) i)).2⟩ : S74)]) (tokenP s (skipP s (s.size + 1) i)).2 (by omega) (by omega) (by omega) (by rw [List.length_append]; simp only [List.length_singleton]; omega)
      simpa using this
def scanP (s : ByteArray) : List S74 × Int := if s.size > 4096 then ([], 8) else (toks s (s.size + 1) 0, 0)
theorem lexer_Scan_ev (s : ByteArray) : Ev (fun k => lexer_Scan.f k s) (scanP s) := by
  unfold lexer_Scan.f scanP
  by_cases h : s.size > 4096
  · rw [if_pos h]; exact ev_ifp (by omega) (ev_some rfl)
  · rw [if_neg h]
    refine ev_ifn (by omega) ?_
    simpa using lexer_scan_ev s (by omega) (s.size + 1) [] 0 (by omega) (by omega) (by omega) (by simp)
theorem ref_Scan_ev (s : ByteArray) : Ev (fun k => assessorref02_Scan.f k s) (scanP s) := by
  unfold assessorref02_Scan.f scanP
  by_cases h : s.size > 4096
  · rw [if_pos h]; exact ev_ifp (by omega) (ev_some rfl)
  · rw [if_neg h]
    refine ev_ifn (by omega) ?_
    simpa using ref_scan_ev s (by omega) (s.size + 1) [] 0 (by omega) (by omega) (by omega) (by simp)
theorem toks_ok (s : ByteArray) : ∀ (n : Nat) (i : Int), 0 ≤ i → i ≤ s.size → ∀ t ∈ toks s n i, i ≤ t.f1 ∧ t.f1 ≤ t.f2 ∧ t.f2 ≤ t.f3 ∧ t.f3 ≤ s.size
  | 0, i, _, _, t, ht => by simp [toks] at ht
  | n + 1, i, h0, h1, t, ht => by
    have hk := skipP_spec s (s.size + 1) i h0 h1 (by omega)
    simp only [toks] at ht
    by_cases he : skipP s (s.size + 1) i = s.size
    · rw [if_pos he, List.mem_singleton] at ht
      subst ht
      show i ≤ i ∧ i ≤ skipP s (s.size + 1) i ∧ skipP s (s.size + 1) i ≤ skipP s (s.size + 1) i ∧ skipP s (s.size + 1) i ≤ s.size
      omega
    · rw [if_neg he] at ht
      have hr := tokenP_range (s := s) (i := skipP s (s.size + 1) i) (by omega) (by omega)
      rcases List.mem_cons.mp ht with e | hm
      · subst e
        show i ≤ i ∧ i ≤ skipP s (s.size + 1) i ∧ skipP s (s.size + 1) i ≤ (tokenP s (skipP s (s.size + 1) i)).2 ∧ (tokenP s (skipP s (s.size + 1) i)).2 ≤ s.size
        omega
      · have := toks_ok s n _ (by omega) hr.2 t hm
        omega
end Go.Proofs.Ytogknojocodhgaa.P
end
section
namespace Go.Proofs.Ytogknojocodhgaa.P
open Go.RowKit Go.Proofs.YtogknojocodhgaaW.PrintWords Go.Proofs.YtogknojocodhgaaW.PrintLast Go.Proofs.YtogknojocodhgaaW.PrintMore
set_option linter.unusedVariables false
set_option linter.unusedSimpArgs false
def okTok (s : ByteArray) (t : S74) : Prop := 0 ≤ t.f1 ∧ t.f1 ≤ t.f2 ∧ t.f2 ≤ t.f3 ∧ t.f3 ≤ s.size
theorem rd_at (l : List S74) (i : Nat) (h : i < l.length) : rd_T74 l (i : Int) = l[i] := by simp [rd_T74, h]
theorem fit_from (s : ByteArray) (l : List S74) (hl : l.length ≤ 4097) (ho : ∀ t ∈ l, okTok s t) : ∀ (n i : Nat), i + n = l.length → Ev (fun k => lexer_fit.l0 k s l l (l.length : Int) (i : Int)) true
  | 0, i, h => Ev.step (fun k => lexer_fit.l0.eq_2 s l l (l.length : Int) i k) (ev_ifn (by omega) (ev_some (by simp; omega)))
  | n + 1, i, h => by
    have hi : i < l.length := by omega
    have o := ho l[i] (List.getElem_mem hi)
    obtain ⟨o1, o2, o3, o4⟩ := o
    refine Ev.step (fun k => lexer_fit.l0.eq_2 s l l (l.length : Int) i k) (ev_ifp (by omega) (ev_ifp (by omega) (ev_ifp (by omega) ?_)))
    rw [rd_at l i hi]
    refine ev_ifn (by omega) (ev_ifn (by omega) (ev_ifn (by omega) (ev_ifn (by omega) ?_)))
    rw [w1 (by omega) (by omega)]
    exact fit_from s l hl ho n (i + 1) (by omega)
theorem words_from (s : ByteArray) (l : List S74) (hl : l.length ≤ 4097) (ho : ∀ t ∈ l, okTok s t) : ∀ (n i : Nat) (out : List ByteArray), i + n = l.length → out.length = i →
    Ev (fun k => lexer_Words.l0 k s out l (l.length : Int) (i : Int)) (out ++ (l.drop i).map fun t => s.extract t.f2.toNat t.f3.toNat)
  | 0, i, out, h, _ => by
    refine Ev.step (fun k => lexer_Words.l0.eq_2 s out l (l.length : Int) i k) (ev_ifn (by omega) (ev_some ?_))
    rw [List.drop_of_length_le (by omega)]; simp
  | n + 1, i, out, h, hout => by
    have hi : i < l.length := by omega
    have o := ho l[i] (List.getElem_mem hi)
    obtain ⟨o1, o2, o3, o4⟩ := o
    refine Ev.step (fun k => lexer_Words.l0.eq_2 s out l (l.length : Int) i k) (ev_ifp (by omega) (ev_ifp (by omega) (ev_ifp (by omega) ?_)))
    rw [rd_at l i hi]
    refine ev_ifp (by omega) (ev_ifp (by omega) (ev_ifp (by omega) (ev_ifp (by omega) ?_)))
    rw [w1 (by omega) (by omega)]
    have := words_from s l hl ho n (i + 1) (out ++ [s.extract l[i].f2.toNat l[i].f3.toNat]) (by omega) (by simp [hout])
    rw [List.append_assoc] at this
    rw [List.drop_eq_getElem_cons hi]
    exact this
def wordsP (s : ByteArray) (l : List S74) : List ByteArray := l.map fun t => s.extract t.f2.toNat t.f3.toNat
theorem lexer_Words_ev (s : ByteArray) (l : List S74) (hl : l.length ≤ 4097) (ho : ∀ t ∈ l, okTok s t) : Ev (fun k => lexer_Words.f k s l) (wordsP s l) := by
  unfold lexer_Words.f
  refine Ev.bind (f := fun k t => if t = true then lexer_Words.l0 k s [] l (l.length : Int) 0 else some []) (a := true) ?_ (ev_ifp rfl ?_)
  · unfold lexer_fit.f; exact fit_from s l hl ho l.length 0 (by omega)
  · simpa [wordsP] using words_from s l hl ho l.length 0 [] (by omega) rfl
theorem toks_len (s : ByteArray) : ∀ (n : Nat) (i : Int), 0 ≤ i → i ≤ s.size → (toks s n i).length ≤ (s.size - i).toNat + 1
  | 0, i, _, _ => by simp [toks]
  | n + 1, i, h0, h1 => by
    have hk := skipP_spec s (s.size + 1) i h0 h1 (by omega)
    simp only [toks]
    by_cases he : skipP s (s.size + 1) i = s.size
    · rw [if_pos he]; simp
    · rw [if_neg he]
      have hr := tokenP_range (s := s) (i := skipP s (s.size + 1) i) (by omega) (by omega)
      have := toks_len s n _ (by omega) hr.2
      rw [List.length_cons]
      omega
theorem scan_ok {s : ByteArray} (h : s.size ≤ 4096) : scanP s = (toks s (s.size + 1) 0, 0) ∧ (toks s (s.size + 1) 0).length ≤ 4097 ∧ ∀ t ∈ toks s (s.size + 1) 0, okTok s t := by
  refine ⟨by unfold scanP; rw [if_neg (by omega)], ?_, fun t ht => ?_⟩
  · have := toks_len s (s.size + 1) 0 (by omega) (by omega); omega
  · obtain ⟨a, b, c, d⟩ := toks_ok s (s.size + 1) 0 (by omega) (by omega) t ht
    exact ⟨by omega, b, c, d⟩
theorem rfits_from (s : ByteArray) (l : List S74) (hl : l.length ≤ 4097) (ho : ∀ t ∈ l, okTok s t) : ∀ (n i : Nat), i + n = l.length → Ev (fun k => assessorref02_fits.l0 k s l (i : Int)) true
  | 0, i, h => Ev.step (fun k => assessorref02_fits.l0.eq_2 s l i k) (ev_ifn (by omega) (ev_some (by simp; omega)))
  | n + 1, i, h => by
    have hi : i < l.length := by omega
    have o := ho l[i] (List.getElem_mem hi)
    obtain ⟨o1, o2, o3, o4⟩ := o
    refine Ev.step (fun k => assessorref02_fits.l0.eq_2 s l i k) (ev_ifp (by omega) (ev_ifp (by omega) ?_))
    rw [rd_at l i hi]
    refine ev_ifn (by omega) (ev_ifn (by omega) (ev_ifn (by omega) (ev_ifn (by omega) ?_)))
    rw [w1 (by omega) (by omega)]
    exact rfits_from s l hl ho n (i + 1) (by omega)
theorem rwords_from (s : ByteArray) (l : List S74) (hl : l.length ≤ 4097) (ho : ∀ t ∈ l, okTok s t) : ∀ (n i : Nat) (out : List ByteArray), i + n = l.length → out.length = i →
    Ev (fun k => assessorref02_Words.l0 k s l out (i : Int)) (out ++ (l.drop i).map fun t => s.extract t.f2.toNat t.f3.toNat)
  | 0, i, out, h, _ => by
    refine Ev.step (fun k => assessorref02_Words.l0.eq_2 s l out i k) (ev_ifn (by omega) (ev_some ?_))
    rw [List.drop_of_length_le (by omega)]; simp
  | n + 1, i, out, h, hout => by
    have hi : i < l.length := by omega
    have o := ho l[i] (List.getElem_mem hi)
    obtain ⟨o1, o2, o3, o4⟩ := o
    refine Ev.step (fun k => assessorref02_Words.l0.eq_2 s l out i k) (ev_ifp (by omega) (ev_ifp (by omega) ?_))
    rw [rd_at l i hi]
    refine ev_ifp (by omega) (ev_ifp (by omega) (ev_ifp (by omega) (ev_ifp (by omega) ?_)))
    rw [w1 (by omega) (by omega)]
    have := rwords_from s l hl ho n (i + 1) (out ++ [s.extract l[i].f2.toNat l[i].f3.toNat]) (by omega) (by simp [hout])
    rw [List.append_assoc] at this
    rw [List.drop_eq_getElem_cons hi]
    exact this
theorem ref_Words_ev (s : ByteArray) (l : List S74) (hl : l.length ≤ 4097) (ho : ∀ t ∈ l, okTok s t) : Ev (fun k => assessorref02_Words.f k s l) (wordsP s l) := by
  unfold assessorref02_Words.f
  refine Ev.bind (f := fun k t => if t = true then assessorref02_Words.l0 k s l [] 0 else some []) (a := true) ?_ (ev_ifp rfl ?_)
  · unfold assessorref02_fits.f; exact rfits_from s l hl ho l.length 0 (by omega)
  · simpa [wordsP] using rwords_from s l hl ho l.length 0 [] (by omega) rfl
def nameB (s : ByteArray) : Bool := decide (1 ≤ s.size ∧ s.size ≤ 16) && (isLetter (bt s 0) && (!kwords.contains s.data.toList && (runP isWord s s.size 0 == (s.size : Int))))
theorem ref_Name_ev (s : ByteArray) : Ev (fun k => assessorref02_Name.f k s) (nameB s) := by
  unfold assessorref02_Name.f nameB
  by_cases h0 : s.size = 0
  · rw [decide_eq_false (by omega), Bool.false_and]
    exact ev_ifp (by omega) (ev_some rfl)
  by_cases h1 : (s.size : Int) > 16
  · rw [decide_eq_false (by omega), Bool.false_and]
    exact ev_ifn (by omega) (ev_ifp h1 (ev_some rfl))
  have hs : s.size ≤ 140737488351232 := by omega
  rw [decide_eq_true (by omega), Bool.true_and]
  refine ev_ifn (by omega) (ev_ifn h1 (ev_ifp (by omega) ?_))
  rw [rletter_f]
  refine ev_bs (f := fun k t => _) ?_
  by_cases hl : isLetter (bt s 0) = true
  · rw [hl, Bool.true_and]
    refine ev_ifp rfl (Ev.bind (ref_keyword_ev s) ?_)
    by_cases hk : kwords.contains s.data.toList = true
    · rw [hk]
      exact ev_ifp rfl (ev_some rfl)
    · rw [show kwords.contains s.data.toList = false from by simpa using hk]
      refine ev_ifn (by simp) ?_
      refine Ev.bind (f := fun _ b => some (b.2 == (s.size : Int))) (ref_token_ev s hs (i := 0) (by omega) (by omega) (.inl hl)) (ev_some ?_)
      unfold tokenP
      rw [if_pos hl]
      simp [wordP]
  · rw [show isLetter (bt s 0) = false from by simpa using hl, Bool.false_and]
    exact ev_ifn (by simp) (ev_some rfl)
end Go.Proofs.Ytogknojocodhgaa.P
end
