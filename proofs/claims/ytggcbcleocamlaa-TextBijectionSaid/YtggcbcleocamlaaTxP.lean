import Derived.Test.YtggcbcleocamlaaTxA
import Derived.Test.YtggcbcleocamlaaPx4
import Derived.Test.YtggcbcleocamlaaPx5
import Derived.Test.YtggcbcleocamlaaPx20
import Derived.Test.YtggcbcleocamlaaPx21
import Derived.Test.YtggcbcleocamlaaPx22
import Derived.Test.YtggcbcleocamlaaPx23
import Derived.Test.YtggcbcleocamlaaPx24
import Derived.Test.YtggcbcleocamlaaPx25
namespace Go.Proofs.Ytggcbcleocamlaa.P
open Go.RowKit Go.Proofs.YtggcbcleocamlaaW.PrintWords Go.Proofs.YtggcbcleocamlaaW.PrintLast Go.Proofs.YtggcbcleocamlaaW.PrintMore
set_option linter.unusedVariables false
set_option linter.unusedSimpArgs false

/-! ### Lines -/
def linesFrom (s : ByteArray) : Nat → Int → List Int
  | 0, _ => []
  | n + 1, i => if bt s i = 10 then (i + 1) :: linesFrom s n (i + 1) else linesFrom s n (i + 1)
def linesP (s : ByteArray) : List Int := 0 :: linesFrom s s.size 0
theorem lines_from (s : ByteArray) (hs : s.size ≤ 1000) : ∀ (n : Nat) (i : Int) (out : List Int), 0 ≤ i → i + n = s.size → out.length ≤ i + 1 → Ev (fun k => text_Lines.l0 k s out (s.size : Int) i) (out ++ linesFrom s n i)
  | 0, i, out, h0, h, ho => Ev.step (fun k => text_Lines.l0.eq_2 s out (s.size : Int) i k) (ev_ifn (by omega) (ev_some (by simp [linesFrom])))
  | n + 1, i, out, h0, h, ho => by
    refine Ev.step (fun k => text_Lines.l0.eq_2 s out (s.size : Int) i k) (ev_ifp (by omega) (ev_ifp h0 (ev_ifp (by omega) ?_)))
    rw [w1 h0 (by omega)]
    simp only [linesFrom]
    by_cases c : bt s i = 10
    · rw [if_pos c]
      refine ev_ifp c (ev_ifp (by omega) ?_)
      have := lines_from s hs n (i + 1) (out ++ [i + 1]) (by omega) (by omega) (by simp; omega)
      simpa using this
    · rw [if_neg c]
      exact ev_ifn c (lines_from s hs n (i + 1) out (by omega) (by omega) (by omega))
theorem lines_ev (s : ByteArray) (hs : s.size ≤ 1000) : Ev (fun k => text_Lines.f k s) (linesP s) := by
  unfold text_Lines.f
  exact lines_from s hs s.size 0 [0] (by omega) (by omega) (by simp)
theorem ref_lines_from (s : ByteArray) (hs : s.size ≤ 1000) : ∀ (n : Nat) (i : Int) (out : List Int), 0 ≤ i → i + n = s.size → out.length ≤ i + 1 → Ev (fun k => assessorref01_Lines.l0 k s out i) (out ++ linesFrom s n i)
  | 0, i, out, h0, h, ho => Ev.step (fun k => assessorref01_Lines.l0.eq_2 s out i k) (ev_ifn (by omega) (ev_some (by simp [linesFrom])))
  | n + 1, i, out, h0, h, ho => by
    refine Ev.step (fun k => assessorref01_Lines.l0.eq_2 s out i k) (ev_ifp (by omega) (ev_ifp h0 ?_))
    rw [w1 h0 (by omega)]
    simp only [linesFrom]
    by_cases c : bt s i = 10
    · rw [if_pos c]
      refine ev_ifp c (ev_ifp (by omega) ?_)
      have := ref_lines_from s hs n (i + 1) (out ++ [i + 1]) (by omega) (by omega) (by simp; omega)
      simpa using this
    · rw [if_neg c]
      exact ev_ifn c (ref_lines_from s hs n (i + 1) out (by omega) (by omega) (by omega))
theorem ref_lines_ev (s : ByteArray) (hs : s.size ≤ 1000) : Ev (fun k => assessorref01_Lines.f k s) (linesP s) := by
  unfold assessorref01_Lines.f
  exact ref_lines_from s hs s.size 0 [0] (by omega) (by omega) (by simp)
theorem ints_from (l : List Int) (hl : l.length ≤ maxLen) : ∀ (m i : Nat), i + m = l.length → Ev (fun k => assessorref01_Ints.l0 k l l (i : Int)) true
  | 0, i, h => Ev.step (fun k => assessorref01_Ints.l0.eq_2 l l i k) (ev_ifn (by omega) (ev_some rfl))
  | m + 1, i, h => by
    have hi : i < l.length := by omega
    refine Ev.step (fun k => assessorref01_Ints.l0.eq_2 l l i k) (ev_ifp (by omega) (ev_ifp (by omega) (ev_ifp (by omega) (ev_ifp rfl ?_))))
    rw [wi hi hl]
    exact ints_from l hl m (i + 1) (by omega)
theorem ints_ev (l : List Int) (hl : l.length ≤ maxLen) : Ev (fun k => assessorref01_Ints.f k l l) true := by
  unfold assessorref01_Ints.f
  exact ev_ifp rfl (ints_from l hl l.length 0 (by omega))
theorem linesFrom_len (s : ByteArray) : ∀ (n : Nat) (i : Int), (linesFrom s n i).length ≤ n
  | 0, _ => by simp [linesFrom]
  | n + 1, i => by
    have := linesFrom_len s n (i + 1)
    simp only [linesFrom]
    split
    · simp only [List.length_cons]; omega
    · omega
theorem linesP_len (s : ByteArray) : 1 ≤ (linesP s).length ∧ (linesP s).length ≤ s.size + 1 := by
  have := linesFrom_len s s.size 0
  unfold linesP
  simp only [List.length_cons]; omega
theorem linesFrom_mem (s : ByteArray) : ∀ (n : Nat) (i : Int), ∀ x ∈ linesFrom s n i, i < x ∧ x ≤ i + n ∧ bt s (x - 1) = 10
  | 0, _, x, hx => by simp [linesFrom] at hx
  | n + 1, i, x, hx => by
    simp only [linesFrom] at hx
    by_cases c : bt s i = 10
    · rw [if_pos c] at hx
      rcases List.mem_cons.mp hx with e | hm
      · subst e; exact ⟨by omega, by omega, by rw [Int.add_sub_cancel]; exact c⟩
      · have := linesFrom_mem s n (i + 1) x hm
        exact ⟨by omega, by omega, this.2.2⟩
    · rw [if_neg c] at hx
      have := linesFrom_mem s n (i + 1) x hx
      exact ⟨by omega, by omega, this.2.2⟩
theorem linesFrom_sorted (s : ByteArray) : ∀ (n : Nat) (i : Int), (linesFrom s n i).Pairwise (· < ·)
  | 0, _ => by simp [linesFrom]
  | n + 1, i => by
    simp only [linesFrom]
    split
    · exact List.Pairwise.cons (fun x hx => (linesFrom_mem s n (i + 1) x hx).1) (linesFrom_sorted s n (i + 1))
    · exact linesFrom_sorted s n (i + 1)
theorem linesP_sorted (s : ByteArray) : (linesP s).Pairwise (· < ·) := by
  unfold linesP
  exact List.Pairwise.cons (fun x hx => (linesFrom_mem s _ 0 x hx).1) (linesFrom_sorted s _ 0)
theorem linesFrom_all (s : ByteArray) : ∀ (n : Nat) (i j : Int), i ≤ j → j < i + n → bt s j = 10 → j + 1 ∈ linesFrom s n i
  | 0, i, j, h0, h1, _ => by omega
  | n + 1, i, j, h0, h1, h => by
    simp only [linesFrom]
    by_cases e : j = i
    · subst e; rw [if_pos h]; exact List.mem_cons_self
    · have := linesFrom_all s n (i + 1) j (by omega) (by omega) h
      split
      · exact List.mem_cons_of_mem _ this
      · exact this

/-! ### Position -/
def posP (s : ByteArray) : Nat → Int × Int
  | 0 => (1, 1)
  | p + 1 => if bt s p = 10 then ((posP s p).1 + 1, 1) else ((posP s p).1, (posP s p).2 + 1)
theorem posP_range (s : ByteArray) : ∀ p : Nat, 1 ≤ (posP s p).1 ∧ (posP s p).1 ≤ p + 1 ∧ 1 ≤ (posP s p).2 ∧ (posP s p).2 ≤ p + 1
  | 0 => by simp [posP]
  | p + 1 => by
    have := posP_range s p
    simp only [posP]
    split
    · show 1 ≤ (posP s p).1 + 1 ∧ (posP s p).1 + 1 ≤ ((p + 1 : Nat) : Int) + 1 ∧ (1 : Int) ≤ 1 ∧ (1 : Int) ≤ ((p + 1 : Nat) : Int) + 1
      omega
    · show 1 ≤ (posP s p).1 ∧ (posP s p).1 ≤ ((p + 1 : Nat) : Int) + 1 ∧ 1 ≤ (posP s p).2 + 1 ∧ (posP s p).2 + 1 ≤ ((p + 1 : Nat) : Int) + 1
      omega
theorem ref_pos_from (s : ByteArray) (hs : s.size ≤ 1000) (p : Nat) (hp : p ≤ s.size) : ∀ (n i : Nat), i + n = p → Ev (fun k => assessorref01_Position.l0 k s (p : Int) (posP s i).1 (posP s i).2 (i : Int)) (posP s p)
  | 0, i, h => by
    have : i = p := by omega
    subst this
    exact Ev.step (fun k => assessorref01_Position.l0.eq_2 s _ _ _ i k) (ev_ifn (by omega) (ev_some rfl))
  | n + 1, i, h => by
    have hr := posP_range s i
    refine Ev.step (fun k => assessorref01_Position.l0.eq_2 s _ _ _ i k) (ev_ifp (by omega) (ev_ifp (by omega) (ev_ifp (by omega) ?_)))
    have ih := ref_pos_from s hs p hp n (i + 1) (by omega)
    rw [wi (n := s.size) (by omega) (by unfold maxLen; omega), w1 (by omega) (by omega), w1 (by omega) (by omega)]
    simp only [posP] at ih
    by_cases c : bt s i = 10
    · rw [if_pos c] at ih
      exact ev_ifp c ih
    · rw [if_neg c] at ih
      exact ev_ifn c ih
def posR (s : ByteArray) (at_ : Int) : Int × Int := if at_ < 0 ∨ at_ > s.size then (0, 0) else posP s at_.toNat
theorem ref_pos_ev (s : ByteArray) (hs : s.size ≤ 1000) (at_ : Int) : Ev (fun k => assessorref01_Position.f k s at_) (posR s at_) := by
  unfold assessorref01_Position.f posR
  by_cases c1 : at_ < 0
  · rw [if_pos (.inl c1)]
    exact ev_ifp c1 (Ev.step (fun k => assessorref01_Position.j0.eq_2 s at_ true k) (ev_ifp rfl (ev_some rfl)))
  · refine ev_ifn c1 (Ev.step (fun k => assessorref01_Position.j0.eq_2 s at_ _ k) ?_)
    by_cases c2 : at_ > s.size
    · rw [if_pos (.inr c2)]
      exact ev_ifp (decide_eq_true c2) (ev_some rfl)
    · rw [if_neg (by omega)]
      refine ev_ifn (by simpa using c2) ?_
      obtain ⟨p, rfl⟩ := Int.eq_ofNat_of_zero_le (by omega : 0 ≤ at_)
      exact ref_pos_from s hs p (by omega) p 0 (by omega)
def lastP (s : ByteArray) : Nat → Int
  | 0 => -1
  | p + 1 => if bt s p = 10 then p else lastP s p
theorem lastP_range (s : ByteArray) : ∀ p : Nat, -1 ≤ lastP s p ∧ lastP s p < p
  | 0 => by simp [lastP]
  | p + 1 => by
    have := lastP_range s p
    simp only [lastP]
    split <;> omega
theorem bt_ext (s : ByteArray) (i j : Nat) (k : Nat) (h : k < j - i) (hj : j ≤ s.size) : bt (s.extract i j) (k : Int) = bt s ((i + k : Nat) : Int) := by
  have hsz : (s.extract i j).size = j - i := by rw [ByteArray.size_extract]; omega
  rw [bt_nat _ k (by omega), bt_nat s (i + k) (by omega)]
  have e : (s.extract i j).data.toList[k]? = s.data.toList[i + k]? := by rw [ext_sub, sub_get _ _ _ _ h (by rw [len_data]; exact hj)]
  rw [Array.getElem?_toList, Array.getElem?_toList] at e
  have ea : (s.extract i j).data[k]? = some (s.extract i j)[k] := Array.getElem?_eq_getElem (by show k < (s.extract i j).size; omega)
  have eb : s.data[i + k]? = some s[i + k] := Array.getElem?_eq_getElem (by show i + k < s.size; omega)
  rw [ea, eb] at e
  rw [Option.some.inj e]
theorem last_from (s : ByteArray) (hs : s.size ≤ 1000) (p : Nat) (hp : p ≤ s.size) : ∀ m : Nat, m ≤ p → Ev (fun k => bytealg_LastIndexByteString.l0 k (s.extract 0 p) 10 ((m : Int) - 1)) (lastP s m)
  | 0, _ => Ev.step (fun k => bytealg_LastIndexByteString.l0.eq_2 _ 10 _ k) (ev_ifn (by omega) (ev_some rfl))
  | m + 1, hm => by
    have hsz : (s.extract 0 p).size = p := by rw [ByteArray.size_extract]; omega
    refine Ev.step (fun k => bytealg_LastIndexByteString.l0.eq_2 _ 10 _ k) ?_
    rw [show ((m + 1 : Nat) : Int) - 1 = (m : Int) from by omega, bt_ext s 0 p m (by omega) hp, show wrap64 ((m : Int) - 1) = (m : Int) - 1 from by unfold wrap64; omega, Nat.zero_add]
    simp only [lastP]
    refine ev_ifp (by omega) (ev_ifp (by omega) (ev_ifp (by omega) ?_))
    by_cases c : bt s m = 10
    · rw [if_pos c]; exact ev_ifp c (ev_some rfl)
    · rw [if_neg c]; exact ev_ifn c (last_from s hs p hp m (by omega))
theorem last_ev (s : ByteArray) (hs : s.size ≤ 1000) (p : Nat) (hp : p ≤ s.size) : Ev (fun k => strings_LastIndexByte.f k (s.extract 0 p) 10) (lastP s p) := by
  unfold strings_LastIndexByte.f bytealg_LastIndexByteString.f
  have hsz : (s.extract 0 p).size = p := by rw [ByteArray.size_extract]; omega
  rw [hsz, show wrap64 ((p : Int) - 1) = (p : Int) - 1 from by unfold wrap64; omega]
  exact Ev.bind (f := fun _ t => some t) (last_from s hs p hp p (Nat.le_refl _)) (ev_some rfl)
theorem count_take (s : ByteArray) (p : Nat) (hp : p < s.size) : (Lib.countByte (s.extract 0 (p + 1)).data.toList 10 : Int) = Lib.countByte (s.extract 0 p).data.toList 10 + if bt s p = 10 then 1 else 0 := by
  have e : (s.extract 0 (p + 1)).data.toList = (s.extract 0 p).data.toList ++ [s[p]] := by
    rw [ext_sub, ext_sub, ← sub_sub _ 0 p (p + 1) (by omega) (by omega)]
    congr 1
    apply List.ext_getElem?
    intro k
    by_cases hk : k = 0
    · subst hk
      rw [sub_get _ _ _ _ (by omega) (by rw [len_data]; omega), Array.getElem?_toList]
      have eb : s.data[p]? = some s[p] := Array.getElem?_eq_getElem (by show p < s.size; omega)
      simpa using eb
    · rw [List.getElem?_eq_none (by rw [sub_len _ _ _ (by rw [len_data]; omega)]; omega), List.getElem?_eq_none (by simp; omega)]
  rw [e]
  unfold Lib.countByte
  rw [List.count_append, bt_nat s p hp]
  by_cases c : s[p] = 10
  · rw [c]; simp
  · have : ¬ ((s[p].toNat : Int) = 10) := by
      intro h; apply c; apply UInt8.toNat_inj.mp; simp; omega
    rw [if_neg this]
    simp [List.count_cons, c]
theorem pos_eq (s : ByteArray) : ∀ p : Nat, p ≤ s.size → posP s p = (1 + (Lib.countByte (s.extract 0 p).data.toList 10 : Int), (p : Int) - lastP s p)
  | 0, _ => by
    have e : (s.extract 0 0).data.toList = [] := by rw [ext_sub, sub_nil]
    rw [e]; rfl
  | p + 1, hp => by
    have ih := pos_eq s p (by omega)
    rw [count_take s p (by omega)]
    simp only [posP, lastP]
    by_cases c : bt s p = 10
    · rw [if_pos c, if_pos c, if_pos c, ih]
      simp only [Prod.mk.injEq]; omega
    · rw [if_neg c, if_neg c, if_neg c, ih]
      simp only [Prod.mk.injEq]; omega
theorem count_le (s : ByteArray) (p : Nat) : Lib.countByte (s.extract 0 p).data.toList 10 ≤ s.size := by
  unfold Lib.countByte
  refine Nat.le_trans List.count_le_length ?_
  rw [len_data, ByteArray.size_extract]; omega
theorem pos_ev (s : ByteArray) (hs : s.size ≤ 1000) (at_ : Int) : Ev (fun k => text_Position.f k s at_) (posR s at_) := by
  unfold text_Position.f posR
  by_cases c1 : at_ < 0
  · rw [if_pos (.inl c1)]
    exact ev_ifp c1 (Ev.step (fun k => text_Position.j0.eq_2 s at_ true k) (ev_ifp rfl (ev_some rfl)))
  · refine ev_ifn c1 (Ev.step (fun k => text_Position.j0.eq_2 s at_ _ k) ?_)
    by_cases c2 : at_ > s.size
    · rw [if_pos (.inr c2)]
      exact ev_ifp (decide_eq_true c2) (ev_some rfl)
    · rw [if_neg (by omega)]
      refine ev_ifn (by simpa using c2) (ev_ifp (by omega) (ev_ifp (by omega) ?_))
      obtain ⟨p, rfl⟩ := Int.eq_ofNat_of_zero_le (by omega : 0 ≤ at_)
      rw [Int.toNat_natCast]
      have hp : p ≤ s.size := by omega
      have hc : strings_Count.f (s.extract 0 p) ⟨#[10]⟩ = some (Lib.countByte (s.extract 0 p).data.toList 10 : Int) := rfl
      rw [hc]
      simp only [Option.bind_some]
      refine Ev.bind (f := fun _ t => some (wrap64 (1 + (Lib.countByte (s.extract 0 p).data.toList 10 : Int)), wrap64 ((p : Int) - t))) (last_ev s hs p hp) (ev_some ?_)
      have hl := lastP_range s p
      have hcl := count_le s p
      rw [wr (by omega) (by omega), wr (by omega) (by omega)]
      exact (pos_eq s p hp).symm
end Go.Proofs.Ytggcbcleocamlaa.P
