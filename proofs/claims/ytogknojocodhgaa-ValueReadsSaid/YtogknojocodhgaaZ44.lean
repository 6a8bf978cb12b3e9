-- Texts of this claim, put together and cut down to what is used (trim.py, a program of this session).
import Derived.Test.YtogknojocodhgaaZ12
import Derived.Test.YtogknojocodhgaaZ33
import Derived.Test.YtogknojocodhgaaZ35
section
namespace Go.Proofs.Ytogknojocodhgaa.P
open Go.RowKit Go.Proofs.YtogknojocodhgaaW.PrintWords Go.Proofs.YtogknojocodhgaaW.PrintLast Go.Proofs.YtogknojocodhgaaW.PrintMore
set_option linter.unusedVariables false
set_option linter.unusedSimpArgs false
abbrev Bs := List UInt8
theorem data_size (s : ByteArray) : s.data.toList.length = s.size := by rw [Array.length_toList]; rfl
theorem bt_app {s : ByteArray} {A B : Bs} {c : UInt8} (h : s.data.toList = A ++ c :: B) : bt s (A.length : Int) = (c.toNat : Int) := by
  have hs := data_size s
  rw [h] at hs
  have hlt : A.length < s.size := by rw [← hs]; simp
  rw [bt_nat s A.length hlt]
  have : s[A.length] = c := by
    have h1 : s.data.toList[A.length]? = some c := by rw [h]; simp
    have h2 : s.data[A.length]? = some c := by rw [← Array.getElem?_toList]; exact h1
    have h3 := Array.getElem?_eq_some_iff.1 h2
    exact h3.2
  rw [this]
theorem size_app {s : ByteArray} {A B : Bs} (h : s.data.toList = A ++ B) : (s.size : Int) = A.length + B.length := by
  have hs := data_size s
  rw [h, List.length_append] at hs; omega
theorem run_app (p : Int → Bool) (s : ByteArray) : ∀ (w A R : Bs), s.data.toList = A ++ (w ++ R) → (∀ x ∈ w, p (x.toNat : Int) = true) → (∀ c r, R = c :: r → p (c.toNat : Int) = false) → runP p s ((s.size : Int) - (A.length : Int)).toNat (A.length : Int) = (A.length + w.length : Nat)
  | [], A, R, h, _, hR => by
    refine runP_none (fun hlt => ?_)
    cases R with
    | nil => have := size_app h; simp at this; omega
    | cons c r => rw [bt_app h]; exact hR c r rfl
  | x :: w, A, R, h, hw, hR => by
    have hsz := size_app h
    rw [runP_first (by simp at hsz; omega) (by rw [bt_app h]; exact hw x (List.mem_cons_self ..))]
    have ih := run_app p s w (A ++ [x]) R (by rw [h]; simp) (fun y hy => hw y (List.mem_cons_of_mem _ hy)) hR
    have e1 : ((A ++ [x]).length : Int) = (A.length : Int) + 1 := by simp
    rw [e1] at ih
    rw [ih]
    simp; omega
theorem sk_stop {s : ByteArray} {A R : Bs} {c : UInt8} (h : s.data.toList = A ++ c :: R) (n : Nat) (hb : blankB (c.toNat : Int) = false) (h35 : (c.toNat : Int) ≠ 35) : skipP s (n + 1) (A.length : Int) = A.length := by
  have hsz := size_app h
  simp only [skipP]
  rw [if_pos (by simp at hsz; omega), bt_app h, hb, if_neg (by simp), if_neg h35]
theorem sk_end {s : ByteArray} {A : Bs} (h : s.data.toList = A) (n : Nat) : skipP s (n + 1) (A.length : Int) = A.length := by
  have hs := data_size s
  rw [h] at hs
  simp only [skipP]
  rw [if_neg (by omega)]
theorem sk_blank {s : ByteArray} {A R : Bs} {c : UInt8} (h : s.data.toList = A ++ c :: R) (n : Nat) (hb : blankB (c.toNat : Int) = true) : skipP s (n + 1) (A.length : Int) = skipP s n ((A ++ [c]).length : Nat) := by
  have hsz := size_app h
  simp only [skipP]
  rw [if_pos (by simp at hsz; omega), bt_app h, hb, if_pos rfl]
  congr 1
  simp
theorem sk_hash {s : ByteArray} {A R : Bs} (h : s.data.toList = A ++ 35 :: 32 :: 99 :: 10 :: R) (n : Nat) : skipP s (n + 1) (A.length : Int) = skipP s n ((A ++ [35, 32, 99]).length : Nat) := by
  have hsz := size_app h
  have hr := run_app notLf s [35, 32, 99] A (10 :: R) (by rw [h]; rfl) (by decide) (by intro c r e; injection e with e1 _; subst e1; decide)
  simp only [skipP]
  rw [if_pos (by simp at hsz; omega), bt_app h, if_neg (by decide), if_pos (by decide), hr]
  congr 1
  simp
def SEP : Bs := [32, 35, 32, 99, 10]
def gapOK (g : Bs) : Prop := g = [] ∨ g = [32] ∨ g = SEP
def sepHead (R : Bs) : Prop := R = [] ∨ ∃ c r, R = c :: r ∧ (c = 32 ∨ c = 40 ∨ c = 41 ∨ c = 44 ∨ c = 93)
def isSym (w : Bs) : Prop := w = [40] ∨ w = [41] ∨ w = [91] ∨ w = [93] ∨ w = [44] ∨ w = [45]
def isNm (w : Bs) : Prop := ∃ c r, w = c :: r ∧ isLetter (c.toNat : Int) = true ∧ ∀ x ∈ w, isWord (x.toNat : Int) = true
def isNum (w : Bs) : Prop := ∃ c r, w = c :: r ∧ ∀ x ∈ w, isDigit (x.toNat : Int) = true
def wOK (w R : Bs) : Prop := isSym w ∨ ((isNm w ∨ isNum w) ∧ sepHead R)
theorem wOK_head {w R : Bs} (h : wOK w R) : ∃ c r, w = c :: r ∧ blankB (c.toNat : Int) = false ∧ (c.toNat : Int) ≠ 35 := by
  rcases h with h | ⟨h | h, _⟩
  · rcases h with rfl | rfl | rfl | rfl | rfl | rfl <;> exact ⟨_, _, rfl, by decide, by decide⟩
  · obtain ⟨c, r, e, hl, _⟩ := h
    have : 97 ≤ (c.toNat : Int) ∧ (c.toNat : Int) ≤ 122 := by simpa [isLetter] using hl
    exact ⟨c, r, e, by simp [blankB]; omega, by omega⟩
  · obtain ⟨c, r, e, hd⟩ := h
    have : 48 ≤ (c.toNat : Int) ∧ (c.toNat : Int) ≤ 57 := by simpa [isDigit] using hd c (by rw [e]; exact List.mem_cons_self ..)
    exact ⟨c, r, e, by simp [blankB]; omega, by omega⟩
theorem skip_gap {s : ByteArray} (g w A R : Bs) (hg : gapOK g) (hw : wOK w R) (h : s.data.toList = A ++ (g ++ (w ++ R))) : skipP s (s.size + 1) (A.length : Int) = (A.length + g.length : Nat) := by
  obtain ⟨c, r, rfl, hb, h35⟩ := wOK_head hw
  have hsz := size_app h
  simp only [List.length_append, List.length_cons] at hsz
  rcases hg with rfl | rfl | rfl
  · rw [sk_stop (c := c) (R := r ++ R) (by rw [h]; simp) _ hb h35]; simp
  · obtain ⟨m, hm⟩ : ∃ m, s.size + 1 = m + 1 + 1 := ⟨s.size - 1, by simp at hsz; omega⟩
    rw [hm, sk_blank (c := 32) (R := c :: (r ++ R)) (by rw [h]; simp) _ (by decide), sk_stop (c := c) (R := r ++ R) (by rw [h]; simp) _ hb h35]
    simp
  · obtain ⟨m, hm⟩ : ∃ m, s.size + 1 = m + 1 + 1 + 1 + 1 := ⟨s.size - 3, by simp [SEP] at hsz; omega⟩
    rw [hm, sk_blank (c := 32) (R := 35 :: 32 :: 99 :: 10 :: c :: (r ++ R)) (by rw [h]; simp [SEP]) _ (by decide), sk_hash (R := c :: (r ++ R)) (by rw [h]; simp [SEP]), sk_blank (c := 10) (R := c :: (r ++ R)) (by rw [h]; simp [SEP]) _ (by decide), sk_stop (c := c) (R := r ++ R) (by rw [h]; simp [SEP]) _ hb h35]
    simp [SEP]
theorem skip_gap_end {s : ByteArray} (g A : Bs) (hg : gapOK g) (h : s.data.toList = A ++ g) : skipP s (s.size + 1) (A.length : Int) = (s.size : Int) := by
  have hsz := size_app h
  have hs := data_size s
  rcases hg with rfl | rfl | rfl
  · rw [sk_end (by rw [h]; simp)]; simp at hsz; omega
  · obtain ⟨m, hm⟩ : ∃ m, s.size + 1 = m + 1 + 1 := ⟨s.size - 1, by simp at hsz; omega⟩
    rw [hm, sk_blank (c := 32) (R := []) h _ (by decide), sk_end (by rw [h])]
    simp at hsz ⊢; omega
  · obtain ⟨m, hm⟩ : ∃ m, s.size + 1 = m + 1 + 1 + 1 + 1 := ⟨s.size - 3, by simp [SEP] at hsz; omega⟩
    rw [hm, sk_blank (c := 32) (R := 35 :: 32 :: 99 :: 10 :: []) (by rw [h]; simp [SEP]) _ (by decide), sk_hash (R := []) (by rw [h]; simp [SEP]), sk_blank (c := 10) (R := []) (by rw [h]; simp [SEP]) _ (by decide), sk_end (by rw [h]; simp [SEP])]
    simp [SEP] at hsz ⊢; omega
theorem sep_word {R : Bs} (h : sepHead R) : ∀ c r, R = c :: r → isWord (c.toNat : Int) = false := by
  intro c r e
  rcases h with rfl | ⟨c', r', rfl, hc⟩
  · cases e
  · injection e with e1 _
    subst e1
    rcases hc with rfl | rfl | rfl | rfl | rfl <;> decide
theorem sep_digit {R : Bs} (h : sepHead R) : ∀ c r, R = c :: r → isDigit (c.toNat : Int) = false := by
  intro c r e
  rcases h with rfl | ⟨c', r', rfl, hc⟩
  · cases e
  · injection e with e1 _
    subst e1
    rcases hc with rfl | rfl | rfl | rfl | rfl <;> decide
theorem tok_word {s : ByteArray} (w A R : Bs) (hw : wOK w R) (h : s.data.toList = A ++ (w ++ R)) : (tokenP s (A.length : Int)).1 ≠ 5 ∧ (tokenP s (A.length : Int)).2 = (A.length + w.length : Nat) := by
  rcases hw with hw | ⟨hw | hw, hR⟩
  · obtain ⟨c, rfl, h1, h2, h3, h4⟩ : ∃ c : UInt8, w = [c] ∧ isLetter (c.toNat : Int) = false ∧ isDigit (c.toNat : Int) = false ∧ symL.contains (c.toNat : Int) = true ∧ (c.toNat : Int) ≠ 61 ∧ (c.toNat : Int) ≠ 33 ∧ (c.toNat : Int) ≠ 60 ∧ (c.toNat : Int) ≠ 62 := by
      rcases hw with rfl | rfl | rfl | rfl | rfl | rfl <;> exact ⟨_, rfl, by decide, by decide, by decide, by decide⟩
    have hb := bt_app (c := c) (B := R) h
    have hsym : symP s (A.length : Int) = 1 := by
      unfold symP
      have htwo : twoP s (A.length : Int) = false := by
        unfold twoP
        rw [hb]
        have e1 : ((c.toNat : Int) == 61) = false := beq_eq_false_iff_ne.mpr h4.1
        have e2 : ((c.toNat : Int) == 33) = false := beq_eq_false_iff_ne.mpr h4.2.1
        have e3 : ((c.toNat : Int) == 60) = false := beq_eq_false_iff_ne.mpr h4.2.2.1
        have e4 : ((c.toNat : Int) == 62) = false := beq_eq_false_iff_ne.mpr h4.2.2.2
        rw [e1, e2, e3, e4]; simp
      rw [htwo, hb, h3]; rfl
    unfold tokenP
    rw [hb, h1, h2, if_neg (by simp), if_neg (by simp), hsym, if_pos (by omega)]
    simp
  · obtain ⟨c, r, rfl, hl, hall⟩ := hw
    have hb := bt_app (c := c) (B := r ++ R) (by rw [h]; rfl)
    have hr := run_app isWord s (c :: r) A R h hall (sep_word hR)
    unfold tokenP wordP
    rw [hb, if_pos hl, hr]
    refine ⟨?_, rfl⟩
    show (if kwB _ = true then (1 : Int) else 0) ≠ 5
    split <;> decide
  · obtain ⟨c, r, rfl, hall⟩ := hw
    have hb := bt_app (c := c) (B := r ++ R) (by rw [h]; rfl)
    have hd := hall c (List.mem_cons_self ..)
    have hr := run_app isDigit s (c :: r) A R h hall (sep_digit hR)
    have hl : isLetter (c.toNat : Int) = false := by
      have : 48 ≤ (c.toNat : Int) ∧ (c.toNat : Int) ≤ 57 := by simpa [isDigit] using hd
      simp [isLetter]; omega
    unfold tokenP
    rw [hb, hl, if_neg (by simp), if_pos hd, hr]
    exact ⟨by show (2 : Int) ≠ 5; decide, rfl⟩
theorem extract_app {s : ByteArray} {A w R : Bs} (h : s.data.toList = A ++ (w ++ R)) : s.extract A.length (A.length + w.length) = ⟨w.toArray⟩ := by
  apply data_ext
  rw [Lib.toList_data, Lib.toList_data]
  show (s.extract A.length (A.length + w.length)).data.toList = w
  rw [ByteArray.data_extract, Array.toList_extract, h]
  simp [List.extract_eq_take_drop]
abbrev Pcs := List (Bs × Bs)
def flat : Pcs → Bs
  | [] => []
  | (g, w) :: r => g ++ (w ++ flat r)
def okP : Pcs → Bs → Prop
  | [], e => gapOK e
  | (g, w) :: r, e => gapOK g ∧ wOK w (flat r ++ e) ∧ okP r e
theorem toks_pieces (s : ByteArray) : ∀ (ps : Pcs) (e A : Bs) (n : Nat), ps.length < n → okP ps e → s.data.toList = A ++ (flat ps ++ e) →
    ∃ ts last, toks s n (A.length : Int) = ts ++ [last] ∧ ts.length = ps.length ∧ (∀ t ∈ ts, t.f0 ≠ 5) ∧ last.f0 = 5 ∧ wordsP s ts = ps.map (fun p => ⟨p.2.toArray⟩) ∧ wordsP s [last] = [⟨#[]⟩]
  | [], e, A, n + 1, _, hok, h => by
    refine ⟨[], ⟨5, A.length, s.size, s.size⟩, ?_, rfl, by simp, rfl, rfl, ?_⟩
    · simp only [toks]
      rw [skip_gap_end e A hok (by rw [h]; simp [flat]), if_pos rfl]
      rfl
    · simp only [wordsP, List.map_cons, List.map_nil]
      congr 1
      apply data_ext
      rw [Lib.toList_data, Lib.toList_data, ByteArray.data_extract, Array.toList_extract]
      simp [List.extract_eq_take_drop]
  | (g, w) :: r, e, A, n + 1, hn, hok, h => by
    obtain ⟨hg, hw, hr⟩ := hok
    have h1 : s.data.toList = A ++ (g ++ (w ++ (flat r ++ e))) := by rw [h]; simp [flat]
    have hs := skip_gap g w A _ hg hw h1
    have h2 : s.data.toList = (A ++ g) ++ (w ++ (flat r ++ e)) := by rw [h1]; simp
    have ht := tok_word w (A ++ g) _ hw h2
    have hx := extract_app h2
    have h3 : s.data.toList = (A ++ g ++ w) ++ (flat r ++ e) := by rw [h2]; simp
    obtain ⟨ts, last, e1, e2, e3, e4, e5, e6⟩ := toks_pieces s r e (A ++ g ++ w) n (by simp at hn; omega) hr h3
    obtain ⟨c, r', hwc, _, _⟩ := wOK_head hw
    have hsz := size_app h2
    have hlen : (A ++ g).length = A.length + g.length := by simp
    rw [hlen] at ht hx
    refine ⟨⟨(tokenP s ((A.length + g.length : Nat) : Int)).1, A.length, (A.length + g.length : Nat), (A.length + g.length + w.length : Nat)⟩ :: ts, last, ?_, by simp [e2], ?_, e4, ?_, e6⟩
    · simp only [toks]
      rw [hs, if_neg (by rw [hwc] at hsz; simp at hsz; omega), ht.2]
      have e7 : ((A.length + g.length + w.length : Nat) : Int) = ((A ++ g ++ w).length : Nat) := by simp; omega
      rw [e7, e1]
      rfl
    · intro t ht'
      rcases List.mem_cons.mp ht' with rfl | ht'
      · exact ht.1
      · exact e3 t ht'
    · simp only [wordsP, List.map_cons] at e5 ⊢
      rw [e5]
      congr 1
end Go.Proofs.Ytogknojocodhgaa.P
end
section
namespace Go.Proofs.Ytogknojocodhgaa.P
open Go.RowKit Go.Proofs.YtogknojocodhgaaW.PrintWords Go.Proofs.YtogknojocodhgaaW.PrintLast Go.Proofs.YtogknojocodhgaaW.PrintMore
theorem half_b (w : Int) (h : 2 ≤ w ∧ w ≤ 8) : 2 ≤ (2 : Int) ^ (w - 1).toNat ∧ (2 : Int) ^ (w - 1).toNat ≤ 128 := by
  rcases seven w h with rfl | rfl | rfl | rfl | rfl | rfl | rfl <;> decide +kernel
theorem in_small (w n : Int) (h : 2 ≤ w ∧ w ≤ 8) (hn : lo w ≤ n ∧ n ≤ hi w) : -128 ≤ n ∧ n ≤ 127 := by
  have h1 := half_b w h
  unfold lo hi at hn
  omega
end Go.Proofs.Ytogknojocodhgaa.P
end
