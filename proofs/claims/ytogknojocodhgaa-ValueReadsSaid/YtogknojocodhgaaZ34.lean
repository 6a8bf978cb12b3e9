-- Texts of this claim, put together and cut down to what is used (trim.py, a program of this session).
import Derived.Test.YtogknojocodhgaaZ4
import Derived.Test.YtogknojocodhgaaZ5
import Derived.Test.YtogknojocodhgaaZ26
import Derived.Test.YtogknojocodhgaaZ27
import Derived.Test.YtogknojocodhgaaZ29
import Derived.Test.YtogknojocodhgaaZ30
import Derived.Test.YtogknojocodhgaaZ33
section
namespace Go.Proofs.Ytogknojocodhgaa.P
open Go.RowKit Go.Proofs.YtogknojocodhgaaW.PrintWords Go.Proofs.YtogknojocodhgaaW.PrintLast Go.Proofs.YtogknojocodhgaaW.PrintMore
set_option linter.unusedVariables false
set_option linter.unusedSimpArgs false
def blankB (c : Int) : Bool := c == 9 || (c == 10 || (c == 13 || c == 32))
theorem white_f (c : Int) : lexer_white.f c = some (blankB c) := by
  unfold lexer_white.f blankB
  by_cases h1 : c = 9
  · simp [h1]
  · by_cases h2 : c = 10
    · simp [h2]
    · by_cases h3 : c = 13
      · simp [h3]
      · rw [if_neg h1, if_neg h2, if_neg h3, beq_eq_false_iff_ne.mpr h1, beq_eq_false_iff_ne.mpr h2, beq_eq_false_iff_ne.mpr h3]; rfl
theorem blank_f (c : Int) : assessorref02_blank.f c = some (blankB c) := by
  unfold assessorref02_blank.f blankB
  by_cases h1 : c = 9
  · simp [h1]
  · by_cases h2 : c = 10
    · simp [h2]
    · by_cases h3 : c = 13
      · simp [h3]
      · rw [if_neg h1, if_neg h2, if_neg h3, beq_eq_false_iff_ne.mpr h1, beq_eq_false_iff_ne.mpr h2, beq_eq_false_iff_ne.mpr h3]; rfl
theorem letter_f (c : Int) : lexer_letter.f c = some (isLetter c) := by
  unfold lexer_letter.f isLetter
  by_cases h : c ≥ 97
  · rw [if_pos h]; simp [h]
  · rw [if_neg h]; simp [show ¬ (97 ≤ c) from h]
theorem digit_f (c : Int) : lexer_digit.f c = some (isDigit c) := by
  unfold lexer_digit.f isDigit
  by_cases h : c ≥ 48
  · rw [if_pos h]; simp [h]
  · rw [if_neg h]; simp [show ¬ (48 ≤ c) from h]
theorem rletter_f (c : Int) : assessorref02_letter.f c = some (isLetter c) := by
  unfold assessorref02_letter.f isLetter
  by_cases h : c ≥ 97
  · rw [if_pos h]; simp [h]
  · rw [if_neg h]; simp [show ¬ (97 ≤ c) from h]
theorem rdigit_f (c : Int) : assessorref02_digit.f c = some (isDigit c) := by
  unfold assessorref02_digit.f isDigit
  by_cases h : c ≥ 48
  · rw [if_pos h]; simp [h]
  · rw [if_neg h]; simp [show ¬ (48 ≤ c) from h]
theorem runP_range' (p : Int → Bool) (s : ByteArray) : ∀ (n : Nat) (i : Int), i ≤ runP p s n i ∧ runP p s n i ≤ i + n
  | 0, i => by simp [runP]
  | n + 1, i => by
    have h := runP_range' p s n (i + 1)
    simp only [runP]
    split <;> omega
theorem runP_first {p : Int → Bool} {s : ByteArray} {i : Int} (hi : i < s.size) (hp : p (bt s i) = true) : runP p s (s.size - i).toNat i = runP p s (s.size - (i + 1)).toNat (i + 1) := by
  obtain ⟨m, hm⟩ : ∃ m, (s.size - i).toNat = m + 1 := ⟨(s.size - i).toNat - 1, by omega⟩
  rw [hm, show (s.size - (i + 1)).toNat = m from by omega]
  simp only [runP]
  rw [if_pos hp]
theorem runP_none {p : Int → Bool} {s : ByteArray} {i : Int} (hp : i < s.size → p (bt s i) = false) : runP p s (s.size - i).toNat i = i := by
  cases h : (s.size - i).toNat with
  | zero => rfl
  | succ m => simp only [runP]; rw [hp (by omega)]; simp
theorem run_lf {s : ByteArray} (hs : s.size ≤ 140737488351232) {i : Int} (hi : 0 ≤ i) : lexer_run.f s i 100 = some (runP notLf s (s.size - i).toNat i) := by
  unfold lexer_run.f; rw [if_pos ⟨hs, hi⟩, if_pos rfl]
theorem run_dg {s : ByteArray} (hs : s.size ≤ 140737488351232) {i : Int} (hi : 0 ≤ i) : lexer_run.f s i 86 = some (runP isDigit s (s.size - i).toNat i) := by
  unfold lexer_run.f; rw [if_pos ⟨hs, hi⟩, if_neg (by decide), if_pos rfl]
theorem run_wd {s : ByteArray} (hs : s.size ≤ 140737488351232) {i : Int} (hi : 0 ≤ i) : lexer_run.f s i 102 = some (runP isWord s (s.size - i).toNat i) := by
  unfold lexer_run.f; rw [if_pos ⟨hs, hi⟩, if_neg (by decide), if_neg (by decide), if_pos rfl]
def skipP (s : ByteArray) : Nat → Int → Int
  | 0, i => i
  | n + 1, i => if i < s.size then (if blankB (bt s i) = true then skipP s n (i + 1) else if bt s i = 35 then skipP s n (runP notLf s (s.size - i).toNat i) else i) else i
theorem lf_next {s : ByteArray} {i : Int} (hlt : i < s.size) (h : bt s i = 35) : i + 1 ≤ runP notLf s (s.size - i).toNat i ∧ runP notLf s (s.size - i).toNat i ≤ s.size := by
  rw [runP_first hlt (by rw [h]; rfl)]
  have := runP_range' notLf s (s.size - (i + 1)).toNat (i + 1)
  omega
theorem skipP_spec (s : ByteArray) : ∀ (n : Nat) (i : Int), 0 ≤ i → i ≤ s.size → (s.size - i).toNat < n →
    i ≤ skipP s n i ∧ skipP s n i ≤ s.size ∧ (skipP s n i < s.size → blankB (bt s (skipP s n i)) = false ∧ bt s (skipP s n i) ≠ 35)
  | 0, i, _, _, h => by omega
  | n + 1, i, h0, h1, h => by
    simp only [skipP]
    by_cases hlt : i < s.size
    · rw [if_pos hlt]
      by_cases hb : blankB (bt s i) = true
      · rw [if_pos hb]
        have := skipP_spec s n (i + 1) (by omega) (by omega) (by omega)
        exact ⟨by omega, this.2⟩
      · rw [if_neg hb]
        by_cases hc : bt s i = 35
        · rw [if_pos hc]
          have hn := lf_next hlt hc
          have := skipP_spec s n _ (by omega) hn.2 (by omega)
          exact ⟨by omega, this.2⟩
        · rw [if_neg hc]
          exact ⟨by omega, by omega, fun _ => ⟨by simpa using hb, hc⟩⟩
    · rw [if_neg hlt]
      exact ⟨by omega, by omega, fun h => absurd h hlt⟩
theorem lexer_skip_ev (s : ByteArray) (hs : s.size ≤ 140737488351232) : ∀ (n : Nat) (i : Int), 0 ≤ i → i ≤ s.size → (s.size - i).toNat < n → Ev (fun k => lexer_skip.l0 k s i) (skipP s n i)
  | 0, i, _, _, h => by omega
  | n + 1, i, h0, h1, h => by
    refine Ev.step (fun k => lexer_skip.l0.eq_2 s i k) ?_
    simp only [skipP]
    by_cases hlt : i < s.size
    · refine ev_ifp hlt (ev_ifp h0 ?_)
      rw [if_pos hlt]
      simp only [white_f, Option.bind_some]
      by_cases hb : blankB (bt s i) = true
      · rw [if_pos hb]
        refine ev_ifp hb ?_
        rw [w1 h0 (by omega)]
        exact lexer_skip_ev s hs n (i + 1) (by omega) (by omega) (by omega)
      · rw [if_neg hb]
        refine ev_ifn hb ?_
        by_cases hc : bt s i = 35
        · rw [if_pos hc]
          refine ev_ifp hc ?_
          have hn := lf_next hlt hc
          simp only [run_lf hs h0, Option.bind_some]
          exact lexer_skip_ev s hs n _ (by omega) hn.2 (by omega)
        · rw [if_neg hc]
          exact ev_ifn hc (ev_some rfl)
    · rw [if_neg hlt]
      exact ev_ifn hlt (ev_some rfl)
theorem ref_comment (s : ByteArray) (hs : s.size ≤ 140737488351232) {r : Int} : ∀ (n : Nat) (i : Int), 0 ≤ i → i ≤ s.size → (s.size - i).toNat = n → Ev (fun k => assessorref02_skip.l0 k s (runP notLf s n i)) r → Ev (fun k => assessorref02_skip.l1 k s i) r
  | 0, i, h0, h1, hn, e => Ev.step (fun k => assessorref02_skip.l1.eq_2 s i k) (ev_ifn (by omega) e)
  | n + 1, i, h0, h1, hn, e => by
    refine Ev.step (fun k => assessorref02_skip.l1.eq_2 s i k) (ev_ifp (by omega) (ev_ifp h0 ?_))
    simp only [runP] at e
    by_cases hc : bt s i = 10
    · refine ev_ifp hc ?_
      rw [if_neg (by rw [hc]; decide)] at e
      exact e
    · refine ev_ifn hc ?_
      rw [if_pos (by simp [notLf, hc])] at e
      rw [w1 h0 (by omega)]
      exact ref_comment s hs n (i + 1) (by omega) (by omega) (by omega) e
theorem ref_skip_ev (s : ByteArray) (hs : s.size ≤ 140737488351232) : ∀ (n : Nat) (i : Int), 0 ≤ i → i ≤ s.size → (s.size - i).toNat < n → Ev (fun k => assessorref02_skip.l0 k s i) (skipP s n i)
  | 0, i, _, _, h => by omega
  | n + 1, i, h0, h1, h => by
    refine Ev.step (fun k => assessorref02_skip.l0.eq_2 s i k) ?_
    simp only [skipP]
    by_cases hlt : i < s.size
    · refine ev_ifp hlt (ev_ifp h0 ?_)
      rw [if_pos hlt]
      simp only [blank_f, Option.bind_some]
      by_cases hb : blankB (bt s i) = true
      · rw [if_pos hb]
        refine ev_ifp hb (Ev.step (fun k => assessorref02_skip.j1.eq_2 s i true k) (ev_ifp rfl (ev_ifp h0 (ev_ifp hlt (ev_ifn ?_ ?_)))))
        · intro hc; rw [hc] at hb; exact absurd hb (by decide)
        · rw [w1 h0 (by omega)]
          exact ref_skip_ev s hs n (i + 1) (by omega) (by omega) (by omega)
      · rw [if_neg hb]
        refine ev_ifn hb ?_
        refine Ev.step (fun k => assessorref02_skip.j1.eq_2 s i _ k) ?_
        by_cases hc : bt s i = 35
        · rw [if_pos hc]
          refine ev_ifp (by simp [hc]) (ev_ifp h0 (ev_ifp hlt (ev_ifp hc ?_)))
          have hn := lf_next hlt hc
          exact ref_comment s hs _ i h0 h1 rfl (ref_skip_ev s hs n _ (by omega) hn.2 (by omega))
        · rw [if_neg hc]
          exact ev_ifn (by simp [hc]) (ev_some rfl)
    · rw [if_neg hlt]
      exact ev_ifn hlt (Ev.step (fun k => assessorref02_skip.j1.eq_2 s i false k) (ev_ifn (by decide) (ev_some rfl)))
theorem has_from (l : List ByteArray) (x : ByteArray) : ∀ (n i : Nat), i + n = l.length → l.length ≤ 1000000 → Ev (fun k => assessorref02_Has.l0 k l x (i : Int)) ((l.drop i).any fun y => decide (y.toList = x.toList))
  | 0, i, h, _ => by
    refine Ev.step (fun k => assessorref02_Has.l0.eq_2 l x i k) (ev_ifn (by omega) (ev_some ?_))
    rw [List.drop_of_length_le (by omega)]; rfl
  | n + 1, i, h, hl => by
    refine Ev.step (fun k => assessorref02_Has.l0.eq_2 l x i k) (ev_ifp (by omega) (ev_ifp (by omega) ?_))
    have hi : i < l.length := by omega
    have e : rdOf ByteArray.empty l (i : Int) = l[i] := by simp [rdOf, hi]
    rw [List.drop_eq_getElem_cons hi]
    simp only [List.any_cons, e]
    by_cases hc : l[i].toList = x.toList
    · refine ev_ifp hc (ev_some ?_)
      simp [hc]
    · refine ev_ifn hc ?_
      simp only [hc, decide_false, Bool.false_or]
      rw [w1 (by omega) (by omega)]
      exact has_from l x n (i + 1) (by omega) hl
theorem has_ev (l : List ByteArray) (x : ByteArray) (hl : l.length ≤ 1000000) : Ev (fun k => assessorref02_Has.f k l x) (l.any fun y => decide (y.toList = x.toList)) := by
  have := has_from l x l.length 0 (by omega) hl
  simpa [assessorref02_Has.f] using this
theorem any_words (x : List UInt8) : ∀ ws : List (List UInt8), ((ws.map fun w => (⟨w.toArray⟩ : ByteArray)).any fun y => decide (y.toList = x)) = ws.contains x
  | [] => rfl
  | w :: r => by
    have ih := any_words x r
    simp only [Lib.toList_data] at ih ⊢
    simp only [List.map_cons, List.any_cons, List.contains_cons, ih]
    congr 1
    by_cases h : w = x
    · subst h; simp
    · have h2 : ¬ x = w := fun e => h e.symm
      simp [h, h2]
theorem keyword_f {s : ByteArray} (hs : s.size ≤ 140737488351232) : lexer_Keyword.f s = some (kwords.contains s.data.toList) := by
  unfold lexer_Keyword.f; rw [if_pos hs]
theorem ref_keyword_ev (s : ByteArray) : Ev (fun k => assessorref02_Keyword.f k s) (kwords.contains s.data.toList) := by
  unfold assessorref02_Keyword.f
  have h := has_ev (kwords.map fun w => (⟨w.toArray⟩ : ByteArray)) s (by decide)
  rw [any_words, Lib.toList_data] at h
  exact Ev.bind (f := fun _ t => some t) h (ev_some rfl)
theorem any_one (u : UInt8) : ∀ cs : List UInt8, ((cs.map fun c => (⟨#[c]⟩ : ByteArray)).any fun y => decide (y.toList = [u])) = (cs.map fun c => (c.toNat : Int)).contains (u.toNat : Int)
  | [] => rfl
  | c :: r => by
    have ih := any_one u r
    simp only [Lib.toList_data] at ih ⊢
    simp only [List.map_cons, List.any_cons, List.contains_cons, ih]
    congr 1
    by_cases h : u = c
    · subst h; simp
    · have h2 : ¬ (u.toNat : Int) = (c.toNat : Int) := by
        intro e; apply h; exact UInt8.toNat_inj.mp (by omega)
      have h3 : ¬ c = u := fun e => h e.symm
      simp [h2, h3]
theorem extract_two (s : ByteArray) (i : Nat) (h : i + 2 ≤ s.size) : (s.extract i (i + 2)).toList = [s[i], s[i + 1]] := by
  rw [Lib.toList_data]
  have : (s.extract i (i + 2)).data.toList = (s.data.toList.drop i).take 2 := by
    simp [ByteArray.data_extract, Array.toList_extract, List.extract_eq_take_drop]
  rw [this, List.drop_eq_getElem_cons (by simpa using (by omega : i < s.size)), List.drop_eq_getElem_cons (by simpa using (by omega : i + 1 < s.size))]
  simp
  exact ⟨rfl, rfl⟩
theorem extract_one (s : ByteArray) (i : Nat) (h : i + 1 ≤ s.size) : (s.extract i (i + 1)).toList = [s[i]] := by
  rw [Lib.toList_data]
  have : (s.extract i (i + 1)).data.toList = (s.data.toList.drop i).take 1 := by
    simp [ByteArray.data_extract, Array.toList_extract, List.extract_eq_take_drop]
  rw [this, List.drop_eq_getElem_cons (by simpa using (by omega : i < s.size))]
  simp
  rfl
theorem u8_eq (u : UInt8) (n : Nat) (hn : n < 256) : u = UInt8.ofNat n ↔ (u.toNat : Int) = n := by
  constructor
  · intro e; subst e; simp; omega
  · intro e; apply UInt8.toNat_inj.mp; simp; omega
theorem two_any (u v : UInt8) : (([(⟨#[61, 61]⟩ : ByteArray), (⟨#[33, 61]⟩ : ByteArray), (⟨#[60, 61]⟩ : ByteArray), (⟨#[62, 61]⟩ : ByteArray)] : List ByteArray).any fun y => decide (y.toList = [u, v]))
    = (((v.toNat : Int) == 61) && (((u.toNat : Int) == 61) || (((u.toNat : Int) == 33) || (((u.toNat : Int) == 60) || ((u.toNat : Int) == 62))))) := by
  have a := u8_eq u 61 (by omega)
  have b := u8_eq u 33 (by omega)
  have c := u8_eq u 60 (by omega)
  have d := u8_eq u 62 (by omega)
  have e := u8_eq v 61 (by omega)
  simp only [List.any_cons, List.any_nil, Lib.toList_data]
  rw [Bool.eq_iff_iff]
  simp
  have a' : (61 : UInt8) = u ↔ (u.toNat : Int) = 61 := eq_comm.trans a
  have b' : (33 : UInt8) = u ↔ (u.toNat : Int) = 33 := eq_comm.trans b
  have c' : (60 : UInt8) = u ↔ (u.toNat : Int) = 60 := eq_comm.trans c
  have d' : (62 : UInt8) = u ↔ (u.toNat : Int) = 62 := eq_comm.trans d
  have e' : (61 : UInt8) = v ↔ (v.toNat : Int) = 61 := eq_comm.trans e
  rw [a', b', c', d', e']
  constructor
  · rintro (⟨h, k⟩ | ⟨h, k⟩ | ⟨h, k⟩ | ⟨h, k⟩) <;> simp [h, k]
  · rintro ⟨k, h | h | h | h⟩ <;> simp [h, k]
theorem symbol_f {s : ByteArray} (hs : s.size ≤ 140737488351232) {i : Int} (h0 : 0 ≤ i) (h1 : i < s.size) : lexer_symbol.f s i = some (symP s i) := by
  unfold lexer_symbol.f; rw [if_pos ⟨hs, h0, h1⟩]
theorem sym_chars : ([(⟨#[60]⟩ : ByteArray), (⟨#[62]⟩ : ByteArray), (⟨#[61]⟩ : ByteArray), (⟨#[43]⟩ : ByteArray), (⟨#[45]⟩ : ByteArray), (⟨#[42]⟩ : ByteArray), (⟨#[47]⟩ : ByteArray), (⟨#[37]⟩ : ByteArray), (⟨#[40]⟩ : ByteArray), (⟨#[41]⟩ : ByteArray), (⟨#[123]⟩ : ByteArray), (⟨#[125]⟩ : ByteArray), (⟨#[91]⟩ : ByteArray), (⟨#[93]⟩ : ByteArray), (⟨#[44]⟩ : ByteArray), (⟨#[59]⟩ : ByteArray), (⟨#[58]⟩ : ByteArray), (⟨#[46]⟩ : ByteArray)] : List ByteArray)
    = ([60, 62, 61, 43, 45, 42, 47, 37, 40, 41, 123, 125, 91, 93, 44, 59, 58, 46] : List UInt8).map fun c => (⟨#[c]⟩ : ByteArray) := rfl
theorem sym_nums : (([60, 62, 61, 43, 45, 42, 47, 37, 40, 41, 123, 125, 91, 93, 44, 59, 58, 46] : List UInt8).map fun c => (c.toNat : Int)) = symL := by decide
theorem ref_symbol_j (s : ByteArray) (hs : s.size ≤ 140737488351232) (i : Nat) (h1 : i < s.size) : Ev (fun k => assessorref02_symbol.j0 k s (i : Int) false) (if symL.contains (bt s i) then 1 else 0) := by
  refine Ev.step (fun k => assessorref02_symbol.j0.eq_2 s i false k) (ev_ifn (by decide) ?_)
  rw [w1 (by omega) (by omega)]
  refine ev_ifp (by omega) (ev_ifp (by omega) (ev_ifp (by omega) ?_))
  have h := has_ev _ (s.extract ((i : Int)).toNat ((i : Int) + 1).toNat) (by decide : ([(⟨#[60]⟩ : ByteArray), (⟨#[62]⟩ : ByteArray), (⟨#[61]⟩ : ByteArray), (⟨#[43]⟩ : ByteArray), (⟨#[45]⟩ : ByteArray), (⟨#[42]⟩ : ByteArray), (⟨#[47]⟩ : ByteArray), (⟨#[37]⟩ : ByteArray), (⟨#[40]⟩ : ByteArray), (⟨#[41]⟩ : ByteArray), (⟨#[123]⟩ : ByteArray), (⟨#[125]⟩ : ByteArray), (⟨#[91]⟩ : ByteArray), (⟨#[93]⟩ : ByteArray), (⟨#[44]⟩ : ByteArray), (⟨#[59]⟩ : ByteArray), (⟨#[58]⟩ : ByteArray), (⟨#[46]⟩ : ByteArray)] : List ByteArray).length ≤ 1000000)
  have e : (s.extract ((i : Int)).toNat ((i : Int) + 1).toNat).toList = [s[i]] := by
    rw [show ((i : Int)).toNat = i from by omega, show ((i : Int) + 1).toNat = i + 1 from by omega]; exact extract_one s i (by omega)
  rw [e] at h
  have h' : Ev (fun k => assessorref02_Has.f k ([(⟨#[60]⟩ : ByteArray), (⟨#[62]⟩ : ByteArray), (⟨#[61]⟩ : ByteArray), (⟨#[43]⟩ : ByteArray), (⟨#[45]⟩ : ByteArray), (⟨#[42]⟩ : ByteArray), (⟨#[47]⟩ : ByteArray), (⟨#[37]⟩ : ByteArray), (⟨#[40]⟩ : ByteArray), (⟨#[41]⟩ : ByteArray), (⟨#[123]⟩ : ByteArray), (⟨#[125]⟩ : ByteArray), (⟨#[91]⟩ : ByteArray), (⟨#[93]⟩ : ByteArray), (⟨#[44]⟩ : ByteArray), (⟨#[59]⟩ : ByteArray), (⟨#[58]⟩ : ByteArray), (⟨#[46]⟩ : ByteArray)] : List ByteArray) (s.extract ((i : Int)).toNat ((i : Int) + 1).toNat)) (symL.contains (bt s i)) := by
    have e2 := any_one s[i] [60, 62, 61, 43, 45, 42, 47, 37, 40, 41, 123, 125, 91, 93, 44, 59, 58, 46]
    rw [sym_nums, ← bt_nat s i h1] at e2
    rw [← e2, ← sym_chars]
    exact h
  refine Ev.bind (f := fun _ t => if t = true then some 1 else some 0) h' ?_
  cases symL.contains (bt s i)
  · exact ev_ifn (by decide) (ev_some rfl)
  · exact ev_ifp rfl (ev_some rfl)
theorem ref_symbol_ev (s : ByteArray) (hs : s.size ≤ 140737488351232) {i : Int} (h0 : 0 ≤ i) (h1 : i < s.size) : Ev (fun k => assessorref02_symbol.f k s i) (symP s i) := by
  obtain ⟨i, rfl⟩ := Int.eq_ofNat_of_zero_le h0
  unfold assessorref02_symbol.f
  rw [w2 (by omega) (by omega)]
  unfold symP
  by_cases hc : (i : Int) + 2 ≤ s.size
  · refine ev_ifp hc (ev_ifp h0 (ev_ifp (by omega) ?_))
    have h := has_ev ([(⟨#[61, 61]⟩ : ByteArray), (⟨#[33, 61]⟩ : ByteArray), (⟨#[60, 61]⟩ : ByteArray), (⟨#[62, 61]⟩ : ByteArray)] : List ByteArray) (s.extract ((i : Int)).toNat ((i : Int) + 2).toNat) (by decide)
    rw [show (s.extract ((i : Int)).toNat ((i : Int) + 2).toNat).toList = [s[i], s[i + 1]] from by
      rw [show ((i : Int)).toNat = i from by omega, show ((i : Int) + 2).toNat = i + 2 from by omega]; exact extract_two s i (by omega), two_any] at h
    have e : twoP s (i : Int) = (((s[i + 1].toNat : Int) == 61) && (((s[i].toNat : Int) == 61) || (((s[i].toNat : Int) == 33) || (((s[i].toNat : Int) == 60) || ((s[i].toNat : Int) == 62))))) := by
      unfold twoP
      rw [decide_eq_true (by omega : (i : Int) + 1 < s.size), ← bt_nat s i (by omega), ← bt_nat s (i + 1) (by omega)]
      rfl
    rw [← e] at h
    refine Ev.bind (f := fun k t => assessorref02_symbol.j0 k s (i : Int) t) h ?_
    cases twoP s (i : Int)
    · exact ref_symbol_j s hs i (by omega)
    · exact Ev.step (fun k => assessorref02_symbol.j0.eq_2 s i true k) (ev_ifp rfl (ev_some rfl))
  · refine ev_ifn hc ?_
    have e : twoP s (i : Int) = false := by unfold twoP; rw [decide_eq_false (by omega)]; rfl
    rw [e]
    exact ref_symbol_j s hs i (by omega)
theorem symP_range (s : ByteArray) (i : Int) : 0 ≤ symP s i ∧ symP s i ≤ 2 ∧ (symP s i = 2 → i + 1 < s.size) := by
  unfold symP
  cases h : twoP s i
  · simp only [Bool.false_eq_true, if_false]; split <;> omega
  · simp only [if_true]
    refine ⟨by omega, by omega, fun _ => ?_⟩
    unfold twoP at h
    simp only [Bool.and_eq_true, decide_eq_true_eq] at h
    exact h.1
end Go.Proofs.Ytogknojocodhgaa.P
end
