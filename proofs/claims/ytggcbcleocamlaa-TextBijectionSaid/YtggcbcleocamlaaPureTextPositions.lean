/- Lines, Position, Offset and Line agree with the reference, for any text and any numbers; conditions: none (longer texts than 200 bytes are let through by the statement itself). -/
import Derived.Test.YtggcbcleocamlaaTxP
import Derived.Test.YtggcbcleocamlaaTxAw
import Derived.Test.YtggcbcleocamlaaPx26
namespace Go.Proofs.Ytggcbcleocamlaa.Pure
open Go.RowKit Go.Proofs.Ytggcbcleocamlaa.P Go.Proofs.YtggcbcleocamlaaW.PrintWords Go.Proofs.YtggcbcleocamlaaW.PrintLast
def lnAt (s : ByteArray) (j : Nat) : Int := (linesP s).getD j 0
theorem rd_ln (s : ByteArray) (i : Int) : rd (linesP s) i = lnAt s i.toNat := rfl
theorem ln_mem (s : ByteArray) (j : Nat) (h : j < (linesP s).length) : lnAt s j ∈ linesP s := by
  unfold lnAt; rw [List.getD_eq_getElem?_getD, List.getElem?_eq_getElem h]; exact List.getElem_mem h
theorem ln_lt (s : ByteArray) (j k : Nat) (h : j < k) (hk : k < (linesP s).length) : lnAt s j < lnAt s k := by
  have hp := List.pairwise_iff_getElem.mp (linesP_sorted s) j k (by omega) hk h
  unfold lnAt
  rw [List.getD_eq_getElem?_getD, List.getD_eq_getElem?_getD, List.getElem?_eq_getElem (by omega), List.getElem?_eq_getElem hk]
  exact hp
theorem ln_range (s : ByteArray) (j : Nat) (h : j < (linesP s).length) : 0 ≤ lnAt s j ∧ lnAt s j ≤ s.size := by
  have hm := ln_mem s j h
  unfold linesP at hm
  rcases List.mem_cons.mp hm with e | hm
  · omega
  · have := linesFrom_mem s s.size 0 _ hm
    omega
theorem ln_lf (s : ByteArray) (j : Nat) (h0 : 0 < j) (h : j < (linesP s).length) : 1 ≤ lnAt s j ∧ bt s (lnAt s j - 1) = 10 := by
  have hm := ln_mem s j h
  have hlt := ln_lt s 0 j h0 h
  have e0 : lnAt s 0 = 0 := rfl
  unfold linesP at hm
  rcases List.mem_cons.mp hm with e | hm
  · omega
  · have := linesFrom_mem s s.size 0 _ hm
    exact ⟨by omega, this.2.2⟩
theorem ln_last (s : ByteArray) (i : Int) (h0 : lnAt s ((linesP s).length - 1) ≤ i) (h1 : i < s.size) : bt s i ≠ 10 := by
  intro h
  have hl := linesP_len s
  have hr := ln_range s ((linesP s).length - 1) (by omega)
  have hm : i + 1 ∈ linesP s := List.mem_cons_of_mem _ (linesFrom_all s s.size 0 i (by omega) (by omega) h)
  obtain ⟨j, hj, e⟩ := List.getElem_of_mem hm
  have e2 : lnAt s j = i + 1 := by unfold lnAt; rw [List.getD_eq_getElem?_getD, List.getElem?_eq_getElem hj]; exact e
  by_cases c : j = (linesP s).length - 1
  · rw [← c] at h0; omega
  · have := ln_lt s j ((linesP s).length - 1) (by omega) (by omega); omega
theorem lines_split (s : ByteArray) : ∀ i : Nat, i ≤ s.size → ∃ pre, linesP s = pre ++ linesFrom s (s.size - i) i ∧ (pre.length : Int) = (posP s i).1 ∧ lnAt s (pre.length - 1) = i - (posP s i).2 + 1
  | 0, _ => ⟨[0], rfl, rfl, rfl⟩
  | i + 1, h => by
    obtain ⟨pre, h1, h2, h3⟩ := lines_split s i (by omega)
    have hr := posP_range s i
    rw [show s.size - i = (s.size - (i + 1)) + 1 from by omega] at h1
    simp only [linesFrom] at h1
    simp only [posP]
    by_cases c : bt s i = 10
    · rw [if_pos c] at h1 ⊢
      refine ⟨pre ++ [(i : Int) + 1], by rw [h1]; simp, by simp; omega, ?_⟩
      have : lnAt s pre.length = (i : Int) + 1 := by
        unfold lnAt; rw [h1, List.getD_eq_getElem?_getD, List.getElem?_append_right (Nat.le_refl _)]; simp
      rw [List.length_append, List.length_singleton, Nat.add_sub_cancel, this]
      show (i : Int) + 1 = ((i + 1 : Nat) : Int) - 1 + 1
      omega
    · rw [if_neg c] at h1 ⊢
      refine ⟨pre, h1, h2, ?_⟩
      rw [h3]
      show (i : Int) - (posP s i).2 + 1 = ((i + 1 : Nat) : Int) - ((posP s i).2 + 1) + 1
      omega
theorem pos_line (s : ByteArray) (i : Nat) (h : i ≤ s.size) : 1 ≤ (posP s i).1 ∧ (posP s i).1 ≤ (linesP s).length ∧ 1 ≤ (posP s i).2 ∧ lnAt s ((posP s i).1 - 1).toNat = i - (posP s i).2 + 1 ∧ ((posP s i).1 < (linesP s).length → (i : Int) < lnAt s (posP s i).1.toNat) := by
  obtain ⟨pre, h1, h2, h3⟩ := lines_split s i h
  have hr := posP_range s i
  have hlen : (linesP s).length = pre.length + (linesFrom s (s.size - i) i).length := by
    have := congrArg List.length h1
    rwa [List.length_append] at this
  refine ⟨hr.1, by omega, hr.2.2.1, ?_, fun hlt => ?_⟩
  · rw [show ((posP s i).1 - 1).toNat = pre.length - 1 from by omega]; exact h3
  · have hm : lnAt s (posP s i).1.toNat ∈ linesFrom s (s.size - i) i := by
      unfold lnAt
      rw [show (posP s i).1.toNat = pre.length from by omega, h1, List.getD_eq_getElem?_getD, List.getElem?_append_right (Nat.le_refl _), Nat.sub_self, List.getElem?_eq_getElem (by omega)]
      exact List.getElem_mem _
    exact (linesFrom_mem s _ _ _ hm).1
/-- Where a line ends, the end of the text counted in. -/
def toAt (s : ByteArray) (line : Int) : Int := if line = (linesP s).length then (s.size : Int) + 1 else lnAt s line.toNat
def offB (s : ByteArray) (line col : Int) : Bool := decide (1 ≤ line ∧ line ≤ (linesP s).length ∧ 1 ≤ col ∧ col ≤ toAt s line - lnAt s (line - 1).toNat)
def offR (s : ByteArray) (line col : Int) : Int × Bool := if offB s line col = true then (lnAt s (line - 1).toNat + col - 1, true) else (0, false)
theorem off_of (s : ByteArray) (i : Nat) (h : i ≤ s.size) (line col : Int) (e : posP s i = (line, col)) : offR s line col = ((i : Int), true) := by
  have hp := pos_line s i h
  rw [e] at hp
  obtain ⟨p1, p2, p3, p4, p5⟩ := hp
  have hb : offB s line col = true := by
    unfold offB
    rw [decide_eq_true_eq]
    refine ⟨p1, p2, p3, ?_⟩
    show col ≤ toAt s line - lnAt s (line - 1).toNat
    have p4' : lnAt s (line - 1).toNat = i - col + 1 := p4
    rw [p4']
    unfold toAt
    split
    · omega
    · have := p5 (by show line < (linesP s).length; have : line ≤ ((linesP s).length : Int) := p2; omega)
      have p5' : (i : Int) < lnAt s line.toNat := this
      omega
  unfold offR
  rw [if_pos hb]
  have p4' : lnAt s (line - 1).toNat = i - col + 1 := p4
  rw [p4']
  simp only [Prod.mk.injEq, and_true]; omega
theorem of_off (s : ByteArray) (line col : Int) (h : offB s line col = true) : ∃ i : Nat, i ≤ s.size ∧ posP s i = (line, col) := by
  unfold offB at h
  rw [decide_eq_true_eq] at h
  obtain ⟨h1, h2, h3, h4⟩ := h
  have hr := ln_range s (line - 1).toNat (by omega)
  have hto : toAt s line ≤ s.size + 1 ∧ (line < (linesP s).length → toAt s line = lnAt s line.toNat) := by
    unfold toAt
    split
    · exact ⟨by omega, fun h => by omega⟩
    · have := ln_range s line.toNat (by omega)
      exact ⟨by omega, fun _ => rfl⟩
  obtain ⟨i, hi⟩ := Int.eq_ofNat_of_zero_le (by omega : 0 ≤ lnAt s (line - 1).toNat + col - 1)
  have hile : i ≤ s.size := by omega
  refine ⟨i, hile, ?_⟩
  obtain ⟨p1, p2, p3, p4, p5⟩ := pos_line s i hile
  have e1 : (posP s i).1 = line := by
    by_cases c : line < (posP s i).1
    · exfalso
      have ht := hto.2 (by omega)
      by_cases d : line.toNat = ((posP s i).1 - 1).toNat
      · rw [← d] at p4; omega
      · have := ln_lt s line.toNat ((posP s i).1 - 1).toNat (by omega) (by omega); omega
    · by_cases c2 : (posP s i).1 < line
      · exfalso
        have := p5 (by omega)
        by_cases d : (posP s i).1.toNat = (line - 1).toNat
        · rw [d] at this; omega
        · have := ln_lt s (posP s i).1.toNat (line - 1).toNat (by omega) (by omega); omega
      · omega
  rw [e1] at p4
  have e2 : (posP s i).2 = col := by omega
  rw [← e1, ← e2]
theorem ref_off_from (s : ByteArray) (hs : s.size ≤ 200) (line col : Int) : ∀ (m i : Nat), i + m = s.size + 1 → (∀ j : Nat, j < i → posP s j ≠ (line, col)) → Ev (fun k => assessorref01_Offset.l0 k s line col (i : Int)) (offR s line col)
  | 0, i, h, hno => by
    refine Ev.step (fun k => assessorref01_Offset.l0.eq_2 s line col i k) (ev_ifn (by omega) (ev_some ?_))
    unfold offR
    by_cases c : offB s line col = true
    · obtain ⟨j, hj, e⟩ := of_off s line col c
      exact absurd e (hno j (by omega))
    · rw [if_neg c]
  | m + 1, i, h, hno => by
    refine Ev.step (fun k => assessorref01_Offset.l0.eq_2 s line col i k) (ev_ifp (by omega) ?_)
    have hp : posR s (i : Int) = posP s i := by unfold posR; rw [if_neg (by omega), Int.toNat_natCast]
    have hpe := ref_pos_ev s (by omega) (i : Int)
    rw [hp] at hpe
    refine Ev.bind (f := fun k b => if b.1 = line then (if b.2 = col then (some ((i : Int), true)) else (assessorref01_Offset.l0 k s line col (wrap64 ((i : Int) + 1)))) else (assessorref01_Offset.l0 k s line col (wrap64 ((i : Int) + 1)))) hpe ?_
    have go : posP s i ≠ (line, col) → Ev (fun k => assessorref01_Offset.l0 k s line col (wrap64 ((i : Int) + 1))) (offR s line col) := fun hne => by
      rw [wi (n := s.size + 1) (by omega) (by unfold maxLen; omega)]
      exact ref_off_from s hs line col m (i + 1) (by omega) (fun j hj => by
        by_cases e : j = i
        · rw [e]; exact hne
        · exact hno j (by omega))
    by_cases c1 : (posP s i).1 = line
    · by_cases c2 : (posP s i).2 = col
      · have e : posP s i = (line, col) := by rw [← c1, ← c2]
        rw [off_of s i (by omega) line col e]
        exact ev_ifp c1 (ev_ifp c2 (ev_some rfl))
      · exact ev_ifp c1 (ev_ifn c2 (go (fun e => c2 (by rw [e]))))
    · exact ev_ifn c1 (go (fun e => c1 (by rw [e])))
theorem ref_off_ev (s : ByteArray) (hs : s.size ≤ 200) (line col : Int) : Ev (fun k => assessorref01_Offset.f k s line col) (offR s line col) := by
  unfold assessorref01_Offset.f
  exact ref_off_from s hs line col (s.size + 1) 0 (by omega) (fun j hj => by omega)
def bndR (s : ByteArray) (line : Int) : Int × Int × Bool := if line < 1 ∨ line > (linesP s).length then (0, 0, false) else if line = (linesP s).length then (lnAt s (line - 1).toNat, (s.size : Int), true) else (lnAt s (line - 1).toNat, lnAt s line.toNat, true)
theorem bnd_ev (s : ByteArray) (hs : s.size ≤ 200) (line : Int) : Ev (fun k => text_bounds.f k s line) (bndR s line) := by
  unfold text_bounds.f
  have hlen := linesP_len s
  refine Ev.bind (f := fun k t => if line < 1 then (text_bounds.j0 k s line t true) else (text_bounds.j0 k s line t (decide (line > (t.length : Int))))) (lines_ev s (by omega)) ?_
  by_cases c1 : line < 1
  · rw [show bndR s line = (0, 0, false) from if_pos (.inl c1)]
    exact ev_ifp c1 (Ev.step (fun k => text_bounds.j0.eq_2 s line _ true k) (ev_ifp rfl (ev_some rfl)))
  · refine ev_ifn c1 (Ev.step (fun k => text_bounds.j0.eq_2 s line _ _ k) ?_)
    by_cases c2 : line > (linesP s).length
    · rw [show bndR s line = (0, 0, false) from if_pos (.inr c2)]
      exact ev_ifp (decide_eq_true c2) (ev_some rfl)
    · refine ev_ifn (by simpa using c2) ?_
      rw [wr (i := line - 1) (by omega) (by omega)]
      by_cases c3 : line = (linesP s).length
      · rw [show bndR s line = (lnAt s (line - 1).toNat, (s.size : Int), true) from by unfold bndR; rw [if_neg (by omega), if_pos c3]]
        exact ev_ifp c3 (ev_ifp (by omega) (ev_ifp (by omega) (ev_some rfl)))
      · rw [show bndR s line = (lnAt s (line - 1).toNat, lnAt s line.toNat, true) from by unfold bndR; rw [if_neg (by omega), if_neg c3]]
        exact ev_ifn c3 (ev_ifp (by omega) (ev_ifp (by omega) (ev_ifp (by omega) (ev_ifp (by omega) (ev_some rfl)))))
theorem off_ev (s : ByteArray) (hs : s.size ≤ 200) (line col : Int) : Ev (fun k => text_Offset.f k s line col) (offR s line col) := by
  unfold text_Offset.f
  have hlen := linesP_len s
  refine Ev.bind (bnd_ev s hs line) (Ev.bind (lines_ev s (by omega)) ?_)
  by_cases c1 : line < 1 ∨ line > (linesP s).length
  · have hb : offB s line col = false := by unfold offB; rw [decide_eq_false_iff_not]; intro h; omega
    rw [show bndR s line = (0, 0, false) from if_pos c1, show offR s line col = (0, false) from if_neg (by rw [hb]; decide)]
    exact ev_ifn (by omega) (ev_ifn (by decide) (ev_some rfl))
  · have hr := ln_range s (line - 1).toNat (by omega)
    by_cases c3 : line = (linesP s).length
    · rw [show bndR s line = (lnAt s (line - 1).toNat, (s.size : Int), true) from by unfold bndR; rw [if_neg c1, if_pos c3]]
      refine ev_ifp c3 (ev_ifp rfl ?_)
      have ht : toAt s line = s.size + 1 := if_pos c3
      show Ev (fun k => if col < 1 then some ((0 : Int), false) else if col > wrap64 (wrap64 ((s.size : Int) + 1) - lnAt s (line - 1).toNat) then some (0, false) else some (wrap64 (wrap64 (lnAt s (line - 1).toNat + col) - 1), true)) _
      rw [w1 (i := (s.size : Int)) (by omega) (by omega), wr (i := (s.size : Int) + 1 - lnAt s (line - 1).toNat) (by omega) (by omega)]
      by_cases c4 : col < 1
      · have hb : offB s line col = false := by unfold offB; rw [decide_eq_false_iff_not]; intro h; omega
        rw [show offR s line col = (0, false) from if_neg (by rw [hb]; decide)]
        exact ev_ifp c4 (ev_some rfl)
      · by_cases c5 : col > (s.size : Int) + 1 - lnAt s (line - 1).toNat
        · have hb : offB s line col = false := by unfold offB; rw [decide_eq_false_iff_not]; intro h; omega
          rw [show offR s line col = (0, false) from if_neg (by rw [hb]; decide)]
          exact ev_ifn c4 (ev_ifp c5 (ev_some rfl))
        · have hb : offB s line col = true := by unfold offB; rw [decide_eq_true_eq]; omega
          rw [show offR s line col = (lnAt s (line - 1).toNat + col - 1, true) from if_pos hb]
          refine ev_ifn c4 (ev_ifn c5 (ev_some ?_))
          rw [wr (i := lnAt s (line - 1).toNat + col) (by omega) (by omega), wr (by omega) (by omega)]
    · rw [show bndR s line = (lnAt s (line - 1).toNat, lnAt s line.toNat, true) from by unfold bndR; rw [if_neg c1, if_neg c3]]
      refine ev_ifn c3 (ev_ifp rfl ?_)
      have ht : toAt s line = lnAt s line.toNat := if_neg c3
      have hr2 := ln_range s line.toNat (by omega)
      show Ev (fun k => if col < 1 then some ((0 : Int), false) else if col > wrap64 (lnAt s line.toNat - lnAt s (line - 1).toNat) then some (0, false) else some (wrap64 (wrap64 (lnAt s (line - 1).toNat + col) - 1), true)) _
      rw [wr (i := lnAt s line.toNat - lnAt s (line - 1).toNat) (by omega) (by omega)]
      by_cases c4 : col < 1
      · have hb : offB s line col = false := by unfold offB; rw [decide_eq_false_iff_not]; intro h; omega
        rw [show offR s line col = (0, false) from if_neg (by rw [hb]; decide)]
        exact ev_ifp c4 (ev_some rfl)
      · by_cases c5 : col > lnAt s line.toNat - lnAt s (line - 1).toNat
        · have hb : offB s line col = false := by unfold offB; rw [decide_eq_false_iff_not]; intro h; omega
          rw [show offR s line col = (0, false) from if_neg (by rw [hb]; decide)]
          exact ev_ifn c4 (ev_ifp c5 (ev_some rfl))
        · have hb : offB s line col = true := by unfold offB; rw [decide_eq_true_eq]; omega
          rw [show offR s line col = (lnAt s (line - 1).toNat + col - 1, true) from if_pos hb]
          refine ev_ifn c4 (ev_ifn c5 (ev_some ?_))
          rw [wr (i := lnAt s (line - 1).toNat + col) (by omega) (by omega), wr (by omega) (by omega)]

/-! ### Line -/
theorem extract_one (s : ByteArray) (i : Nat) (h : i + 1 ≤ s.size) : (s.extract i (i + 1)).toList = [s[i]] := by
  rw [Lib.toList_data, ext_sub]
  unfold sub
  rw [List.drop_eq_getElem_cons (by rw [len_data]; omega)]
  simp
  rfl
def sufB (x : ByteArray) (c : UInt8) : Bool := decide (0 < x.size) && (bt x ((x.size : Int) - 1) == (c.toNat : Int))
theorem hassuf (x : ByteArray) (c : UInt8) (hx : x.size ≤ 1000) : stringslite_HasSuffix.f x ⟨#[c]⟩ = some (sufB x c) := by
  unfold stringslite_HasSuffix.f sufB
  have e1 : (⟨#[c]⟩ : ByteArray).size = 1 := rfl
  rw [e1]
  by_cases h : 0 < x.size
  · rw [if_pos (by omega), show wrap64 ((x.size : Int) - ((1 : Nat) : Int)) = (x.size : Int) - 1 from by unfold wrap64; omega, if_pos (by omega), if_pos (by omega)]
    obtain ⟨n, hn⟩ : ∃ n, x.size = n + 1 := ⟨x.size - 1, by omega⟩
    have e2 : (x.extract ((x.size : Int) - 1).toNat x.size).toList = [x[n]] := by
      rw [show ((x.size : Int) - 1).toNat = n from by omega, show x.extract n x.size = x.extract n (n + 1) from by rw [hn]]; exact extract_one x n (by omega)
    have e3 : (⟨#[c]⟩ : ByteArray).toList = [c] := by rw [Lib.toList_data]
    rw [e2, e3, decide_eq_true h, Bool.true_and, show (x.size : Int) - 1 = (n : Int) from by omega, bt_nat x n (by omega)]
    congr 1
    by_cases e : x[n] = c
    · rw [e]; simp
    · have : ¬ ((x[n].toNat : Int) = (c.toNat : Int)) := fun h2 => e (UInt8.toNat_inj.mp (by omega))
      have e5 : ((x[n].toNat : Int) == (c.toNat : Int)) = false := beq_eq_false_iff_ne.mpr this
      have e6 : (x[n] == c) = false := beq_eq_false_iff_ne.mpr e
      rw [e5]
      simp only [beq_eq_false_iff_ne, ne_eq, List.cons.injEq, and_true, e, not_false_eq_true]
  · rw [if_neg (by omega), decide_eq_false h, Bool.false_and]
def cutR (x : ByteArray) (c : UInt8) : ByteArray := if sufB x c = true then x.extract 0 (x.size - 1) else x
theorem cutsuf (x : ByteArray) (c : UInt8) (hx : x.size ≤ 1000) : strings_CutSuffix.f x ⟨#[c]⟩ = some (cutR x c, sufB x c) := by
  unfold strings_CutSuffix.f stringslite_CutSuffix.f cutR
  rw [hassuf x c hx]
  simp only [Option.bind_some]
  have e1 : (⟨#[c]⟩ : ByteArray).size = 1 := rfl
  by_cases h : sufB x c = true
  · have h0 : 0 < x.size := by unfold sufB at h; simp only [Bool.and_eq_true, decide_eq_true_eq] at h; exact h.1
    rw [if_pos h, if_pos h, e1, show wrap64 ((x.size : Int) - ((1 : Nat) : Int)) = (x.size : Int) - 1 from by unfold wrap64; omega, if_pos (by omega), if_pos (by omega)]
    simp only [Option.bind_some, h]
    rw [show ((x.size : Int) - 1).toNat = x.size - 1 from by omega]
  · have h2 : sufB x c = false := by simpa using h
    rw [if_neg h, if_neg h, h2]
    rfl
theorem trimsuf (x : ByteArray) (c : UInt8) (hx : x.size ≤ 1000) : strings_TrimSuffix.f x ⟨#[c]⟩ = some (cutR x c) := by
  unfold strings_TrimSuffix.f stringslite_TrimSuffix.f cutR
  rw [hassuf x c hx]
  simp only [Option.bind_some]
  have e1 : (⟨#[c]⟩ : ByteArray).size = 1 := rfl
  by_cases h : sufB x c = true
  · have h0 : 0 < x.size := by unfold sufB at h; simp only [Bool.and_eq_true, decide_eq_true_eq] at h; exact h.1
    rw [if_pos h, if_pos h, e1, show wrap64 ((x.size : Int) - ((1 : Nat) : Int)) = (x.size : Int) - 1 from by unfold wrap64; omega, if_pos (by omega), if_pos (by omega)]
    simp only [Option.bind_some]
    rw [show ((x.size : Int) - 1).toNat = x.size - 1 from by omega]
  · rw [if_neg h, if_neg h]
    rfl
theorem ext_ext (s : ByteArray) (a b k : Nat) (h : a + k ≤ b) (_ : b ≤ s.size) : (s.extract a b).extract 0 k = s.extract a (a + k) := by
  apply data_ext'
  rw [ext_sub, ext_sub, ext_sub]
  unfold sub
  rw [List.drop_zero, List.take_take]
  congr 1; omega
theorem suf_ext (s : ByteArray) (a b : Nat) (c : UInt8) (hb : b ≤ s.size) : sufB (s.extract a b) c = (decide (a < b) && (bt s ((b : Int) - 1) == (c.toNat : Int))) := by
  unfold sufB
  have hsz : (s.extract a b).size = b - a := by rw [ByteArray.size_extract]; omega
  rw [hsz]
  by_cases h : a < b
  · rw [decide_eq_true (by omega), decide_eq_true h, show ((b - a : Nat) : Int) - 1 = ((b - a - 1 : Nat) : Int) from by omega, bt_ext s a b _ (by omega) hb, show ((a + (b - a - 1) : Nat) : Int) = (b : Int) - 1 from by omega]
  · rw [decide_eq_false (by omega), decide_eq_false h]; rfl
def lineR (s : ByteArray) (line : Int) : ByteArray :=
  if line < 1 ∨ line > (linesP s).length then ⟨#[]⟩ else if line = (linesP s).length then s.extract (lnAt s (line - 1).toNat).toNat s.size
  else if lnAt s line.toNat - 1 > lnAt s (line - 1).toNat ∧ bt s (lnAt s line.toNat - 1 - 1) = 13 then s.extract (lnAt s (line - 1).toNat).toNat (lnAt s line.toNat - 1 - 1).toNat
  else s.extract (lnAt s (line - 1).toNat).toNat (lnAt s line.toNat - 1).toNat
theorem ref_line_ev (s : ByteArray) (hs : s.size ≤ 200) (line : Int) : Ev (fun k => assessorref01_Line.f k s line) (lineR s line) := by
  unfold assessorref01_Line.f
  have hlen := linesP_len s
  refine Ev.bind (f := fun k t => if line < 1 then (assessorref01_Line.j0 k s line t true) else (assessorref01_Line.j0 k s line t (decide (line > (t.length : Int))))) (ref_lines_ev s (by omega)) ?_
  by_cases c1 : line < 1
  · rw [show lineR s line = ⟨#[]⟩ from if_pos (.inl c1)]
    exact ev_ifp c1 (Ev.step (fun k => assessorref01_Line.j0.eq_2 s line _ true k) (ev_ifp rfl (ev_some rfl)))
  · refine ev_ifn c1 (Ev.step (fun k => assessorref01_Line.j0.eq_2 s line _ _ k) ?_)
    by_cases c2 : line > (linesP s).length
    · rw [show lineR s line = ⟨#[]⟩ from if_pos (.inr c2)]
      exact ev_ifp (decide_eq_true c2) (ev_some rfl)
    · refine ev_ifn (by simpa using c2) ?_
      have hr := ln_range s (line - 1).toNat (by omega)
      rw [wr (i := line - 1) (by omega) (by omega)]
      rw [rd_ln s (line - 1)]
      by_cases c3 : line = (linesP s).length
      · rw [show lineR s line = s.extract (lnAt s (line - 1).toNat).toNat s.size from by unfold lineR; rw [if_neg (by omega), if_pos c3]]
        exact ev_ifn (by omega) (ev_ifp (by omega) (ev_ifp (by omega) (ev_ifp (by omega) (ev_ifp (by omega) (ev_ifp (by omega) (ev_some (by rw [Int.toNat_natCast])))))))
      · have hr2 := ln_range s line.toNat (by omega)
        have hlt := ln_lt s (line - 1).toNat line.toNat (by omega) (by omega)
        rw [rd_ln s line]
        rw [wr (i := lnAt s line.toNat - 1) (by omega) (by omega), wr (i := lnAt s line.toNat - 1 - 1) (by omega) (by omega)]
        have e0 : lineR s line = if lnAt s line.toNat - 1 > lnAt s (line - 1).toNat ∧ bt s (lnAt s line.toNat - 1 - 1) = 13 then s.extract (lnAt s (line - 1).toNat).toNat (lnAt s line.toNat - 1 - 1).toNat else s.extract (lnAt s (line - 1).toNat).toNat (lnAt s line.toNat - 1).toNat := by
          unfold lineR; rw [if_neg (by omega), if_neg c3]
        refine ev_ifp (by omega) (ev_ifp (by omega) (ev_ifp (by omega) (ev_ifp (by omega) ?_)))
        by_cases c4 : lnAt s line.toNat - 1 > lnAt s (line - 1).toNat
        · refine ev_ifp c4 (ev_ifp (by omega) (ev_ifp (by omega) ?_))
          by_cases c5 : bt s (lnAt s line.toNat - 1 - 1) = 13
          · rw [e0.trans (if_pos ⟨c4, c5⟩)]
            exact ev_ifp c5 (ev_ifp (by omega) (ev_ifp (by omega) (ev_ifp (by omega) (ev_some rfl))))
          · rw [e0.trans (if_neg (fun h => c5 h.2))]
            exact ev_ifn c5 (ev_ifp (by omega) (ev_ifp (by omega) (ev_ifp (by omega) (ev_some rfl))))
        · rw [e0.trans (if_neg (fun h => c4 h.1))]
          exact ev_ifn c4 (ev_ifp (by omega) (ev_ifp (by omega) (ev_ifp (by omega) (ev_some rfl))))
theorem line_ev (s : ByteArray) (hs : s.size ≤ 200) (line : Int) : Ev (fun k => text_Line.f k s line) (lineR s line) := by
  unfold text_Line.f
  have hlen := linesP_len s
  refine Ev.bind (bnd_ev s hs line) ?_
  by_cases c1 : line < 1 ∨ line > (linesP s).length
  · rw [show bndR s line = (0, 0, false) from if_pos c1, show lineR s line = ⟨#[]⟩ from if_pos c1]
    exact ev_ifn (by decide) (ev_some rfl)
  · have hr := ln_range s (line - 1).toNat (by omega)
    by_cases c3 : line = (linesP s).length
    · rw [show bndR s line = (lnAt s (line - 1).toNat, (s.size : Int), true) from by unfold bndR; rw [if_neg c1, if_pos c3], show lineR s line = s.extract (lnAt s (line - 1).toNat).toNat s.size from by unfold lineR; rw [if_neg c1, if_pos c3]]
      refine ev_ifp rfl (ev_ifp hr.1 (ev_ifp hr.2 (ev_ifp (by show (s.size : Int) ≤ s.size; omega) ?_)))
      show Ev (fun k => (strings_CutSuffix.f (s.extract (lnAt s (line - 1).toNat).toNat ((s.size : Int)).toNat) ⟨#[10]⟩).bind fun bt273 => (if bt273.2 = true then ((strings_TrimSuffix.f bt273.1 (⟨#[13]⟩ : ByteArray)).bind fun t275 => (some t275)) else (some (s.extract (lnAt s (line - 1).toNat).toNat ((s.size : Int)).toNat)))) _
      rw [Int.toNat_natCast, cutsuf _ _ (by rw [ByteArray.size_extract]; omega)]
      have hno : sufB (s.extract (lnAt s (line - 1).toNat).toNat s.size) 10 = false := by
        rw [suf_ext _ _ _ _ (Nat.le_refl _)]
        by_cases h : (lnAt s (line - 1).toNat).toNat < s.size
        · have := ln_last s ((s.size : Int) - 1) (by rw [show (linesP s).length - 1 = (line - 1).toNat from by omega]; omega) (by omega)
          have e5 : (bt s ((s.size : Int) - 1) == ((10 : UInt8).toNat : Int)) = false := beq_eq_false_iff_ne.mpr this
          rw [e5, Bool.and_false]
        · rw [decide_eq_false h]; rfl
      rw [hno]
      simp only [Option.bind_some]
      exact ev_ifn (by decide) (ev_some rfl)
    · have hr2 := ln_range s line.toNat (by omega)
      have hlt := ln_lt s (line - 1).toNat line.toNat (by omega) (by omega)
      obtain ⟨f1, f2⟩ := ln_lf s line.toNat (by omega) (by omega)
      rw [show bndR s line = (lnAt s (line - 1).toNat, lnAt s line.toNat, true) from by unfold bndR; rw [if_neg c1, if_neg c3]]
      have e0 : lineR s line = if lnAt s line.toNat - 1 > lnAt s (line - 1).toNat ∧ bt s (lnAt s line.toNat - 1 - 1) = 13 then s.extract (lnAt s (line - 1).toNat).toNat (lnAt s line.toNat - 1 - 1).toNat else s.extract (lnAt s (line - 1).toNat).toNat (lnAt s line.toNat - 1).toNat := by
        unfold lineR; rw [if_neg (by omega), if_neg c3]
      rw [e0]
      refine ev_ifp rfl (ev_ifp hr.1 (ev_ifp (by show lnAt s (line - 1).toNat ≤ lnAt s line.toNat; omega) (ev_ifp hr2.2 ?_)))
      generalize lnAt s (line - 1).toNat = A at *
      generalize lnAt s line.toNat = B at *
      obtain ⟨a, rfl⟩ := Int.eq_ofNat_of_zero_le hr.1
      obtain ⟨b, rfl⟩ := Int.eq_ofNat_of_zero_le hr2.1
      show Ev (fun k => (strings_CutSuffix.f (s.extract ((a : Int)).toNat ((b : Int)).toNat) ⟨#[10]⟩).bind fun bt273 => (if bt273.2 = true then ((strings_TrimSuffix.f bt273.1 (⟨#[13]⟩ : ByteArray)).bind fun t275 => (some t275)) else (some (s.extract ((a : Int)).toNat ((b : Int)).toNat)))) _
      rw [Int.toNat_natCast, Int.toNat_natCast, cutsuf _ _ (by rw [ByteArray.size_extract]; omega)]
      have hyes : sufB (s.extract a b) 10 = true := by
        rw [suf_ext _ _ _ _ (by omega), decide_eq_true (by omega : a < b), f2]; rfl
      have hc : cutR (s.extract a b) 10 = s.extract a (b - 1) := by
        unfold cutR
        rw [if_pos hyes, show (s.extract a b).size = b - a from by rw [ByteArray.size_extract]; omega, ext_ext _ _ _ _ (by omega) (by omega), show a + (b - a - 1) = b - 1 from by omega]
      rw [hyes, hc]
      simp only [Option.bind_some]
      refine ev_ifp trivial ?_
      rw [trimsuf _ _ (by rw [ByteArray.size_extract]; omega)]
      simp only [Option.bind_some]
      refine ev_some ?_
      unfold cutR
      rw [suf_ext _ _ _ _ (by omega), show ((b - 1 : Nat) : Int) = (b : Int) - 1 from by omega]
      by_cases c4 : a < b - 1
      · rw [decide_eq_true c4, Bool.true_and]
        by_cases c5 : bt s ((b : Int) - 1 - 1) = 13
        · rw [c5, if_pos (by decide), if_pos ⟨by omega, rfl⟩, show (s.extract a (b - 1)).size = b - 1 - a from by rw [ByteArray.size_extract]; omega, ext_ext _ _ _ _ (by omega) (by omega)]
          congr 1; omega
        · have : (bt s ((b : Int) - 1 - 1) == ((13 : UInt8).toNat : Int)) = false := beq_eq_false_iff_ne.mpr c5
          rw [this, if_neg (by decide), if_neg (fun h => c5 h.2)]
          congr 1; omega
      · rw [decide_eq_false c4, Bool.false_and, if_neg (by decide), if_neg (fun h => by omega)]
        congr 1; omega
theorem TextPositions : assessorlaw01_TextPositions.Pure := by
  intro s at_ line col _ _ _ _
  refine Ev.rounds ?_
  unfold assessorlaw01_TextPositions.f
  by_cases h1 : (s.size : Int) > 200
  · exact ev_ifp h1 awake_some
  · refine ev_ifn h1 ?_
    have hlen := linesP_len s
    refine Ev.bind (pos_ev s (by omega) at_) (Ev.bind (ref_pos_ev s (by omega) at_) (Ev.bind (off_ev s (by omega) line col) (Ev.bind (ref_off_ev s (by omega) line col) (Ev.bind (lines_ev s (by omega)) (Ev.bind (ref_lines_ev s (by omega)) (Ev.bind (ints_ev _ (by unfold maxLen; omega)) ?_))))))
    refine ev_ifp rfl (ev_ifp rfl (ev_ifp rfl (ev_ifp rfl (ev_ifp (by simp) ?_))))
    exact Ev.bind (line_ev s (by omega) line) (Ev.bind (ref_line_ev s (by omega) line) (ev_ifp rfl awake_some))
end Go.Proofs.Ytggcbcleocamlaa.Pure
