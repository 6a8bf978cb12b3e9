-- Texts of this claim, put together and cut down to what is used (trim.py, a program of this session).
import Derived.Test.YtogknojocodhgaaZ6
import Derived.Test.YtogknojocodhgaaZ38
import Derived.Test.YtogknojocodhgaaZ44
section
namespace Go.Proofs.Ytogknojocodhgaa.P
open Go.RowKit Go.Proofs.YtogknojocodhgaaW.PrintWords Go.Proofs.YtogknojocodhgaaW.PrintLast Go.Proofs.YtogknojocodhgaaW.PrintMore
set_option linter.unusedVariables false
set_option linter.unusedSimpArgs false
def dig3 (n : Nat) : Bs := if n < 10 then [UInt8.ofNat (48 + n)] else if n < 100 then [UInt8.ofNat (48 + n / 10), UInt8.ofNat (48 + n % 10)] else [UInt8.ofNat (48 + n / 100), UInt8.ofNat (48 + n / 10 % 10), UInt8.ofNat (48 + n % 10)]
theorem dig3_eq (n : Nat) (h : n < 1000) : digL n = dig3 n := by
  unfold dig3
  by_cases h1 : n < 10
  · rw [if_pos h1, digL_small n h1]
  · rw [if_neg h1, digL_big n h1]
    by_cases h2 : n < 100
    · rw [if_pos h2, digL_small (n / 10) (by omega)]; rfl
    · rw [if_neg h2, digL_big (n / 10) (by omega), digL_small (n / 10 / 10) (by omega), show n / 10 / 10 = n / 100 from by omega]; rfl
def digOK (n : Nat) : Bool := (dig3 n).all (fun x => isDigit (x.toNat : Int)) && (decide (1 ≤ (dig3 n).length ∧ (dig3 n).length ≤ 3) && (decide (lexer_Number.f ⟨(dig3 n).toArray⟩ = some ((n : Int), true)) && decide (dig3 n ≠ [45])))
theorem digs_all : ((List.range 129).all digOK) = true := by decide +kernel
theorem digs (n : Nat) (h : n ≤ 128) : (∀ x ∈ digL n, isDigit (x.toNat : Int) = true) ∧ 1 ≤ (digL n).length ∧ (digL n).length ≤ 3 ∧ lexer_Number.f ⟨(digL n).toArray⟩ = some ((n : Int), true) ∧ digL n ≠ [45] := by
  have h1 := List.all_eq_true.mp digs_all n (List.mem_range.mpr (by omega))
  rw [dig3_eq n (by omega)]
  simp only [digOK, Bool.and_eq_true, List.all_eq_true, decide_eq_true_eq] at h1
  exact ⟨h1.1, h1.2.1.1, h1.2.1.2, h1.2.2.1, h1.2.2.2⟩
def TRUEW : Bs := [116, 114, 117, 101]
def FALSEW : Bs := [102, 97, 108, 115, 101]
def numW (n : Int) : List Bs := if n < 0 then [[45], digL (-n).toNat] else [digL n.toNat]
def sw (s : S39) (n : Int) : List Bs := if s.f0 = 2 then [if n = 0 then FALSEW else TRUEW] else numW n
def vOK (s : S39) (n : Int) : Prop := -128 ≤ n ∧ n ≤ 127 ∧ (s.f0 = 2 → n = 0 ∨ n = 1)
def bodyW : List S39 → List Int → Bool → List Bs
  | s :: r, n :: l, first => (if first = true then [] else [[44]]) ++ (sw s n ++ bodyW r l false)
  | _, _, _ => []
def allW (k : Int) (rec : Bs) (sc : List S39) (l : List Int) : List Bs :=
  if k = 4 then rec :: [40] :: (bodyW sc l true ++ [[41]]) else if k = 3 then [91] :: (bodyW sc l true ++ [[93]]) else bodyW sc l true
def pc (g : Bs) : List Bs → Pcs
  | [] => []
  | w :: r => (g, w) :: r.map fun x => ([], x)
def bodyP : List S39 → List Int → Bool → Pcs
  | s :: r, n :: l, first => (if first = true then pc [] (sw s n) else ([], [44]) :: pc [32] (sw s n)) ++ bodyP r l false
  | _, _, _ => []
def allP (k : Int) (rec : Bs) (sc : List S39) (l : List Int) : Pcs :=
  if k = 4 then ([], rec) :: ([], [40]) :: (bodyP sc l true ++ [([], [41])]) else if k = 3 then ([], [91]) :: (bodyP sc l true ++ [([], [93])]) else bodyP sc l true
theorem pc_words (g : Bs) : ∀ W, (pc g W).map (fun p => p.2) = W
  | [] => rfl
  | w :: r => by simp [pc, Function.comp_def]
theorem bodyP_words : ∀ sc l first, (bodyP sc l first).map (fun p => p.2) = bodyW sc l first
  | [], _, _ => by simp [bodyP, bodyW]
  | _ :: _, [], _ => by simp [bodyP, bodyW]
  | s :: r, n :: l, first => by
    simp only [bodyP, bodyW, List.map_append, bodyP_words r l false]
    cases first <;> simp [pc_words]
theorem allP_words (k : Int) (rec : Bs) (sc : List S39) (l : List Int) : (allP k rec sc l).map (fun p => p.2) = allW k rec sc l := by
  unfold allP allW
  split
  · simp [bodyP_words]
  · split
    · simp [bodyP_words]
    · exact bodyP_words sc l true
def okQ : Pcs → Bs → Prop
  | [], _ => True
  | (g, w) :: r, R => gapOK g ∧ wOK w (flat r ++ R) ∧ okQ r R
theorem okP_of : ∀ ps e, okQ ps e → gapOK e → okP ps e
  | [], _, _, h => h
  | (_, _) :: r, e, h, he => ⟨h.1, h.2.1, okP_of r e h.2.2 he⟩
theorem flat_append : ∀ ps qs, flat (ps ++ qs) = flat ps ++ flat qs
  | [], _ => rfl
  | (g, w) :: r, qs => by simp [flat, flat_append r qs]
theorem okQ_append : ∀ ps qs R, okQ ps (flat qs ++ R) → okQ qs R → okQ (ps ++ qs) R
  | [], _, _, _, h => h
  | (g, w) :: r, qs, R, h, h2 => ⟨h.1, by show wOK w (flat (r ++ qs) ++ R); rw [flat_append, List.append_assoc]; exact h.2.1, okQ_append r qs R h.2.2 h2⟩
def ww (w : Bs) : Prop := isSym w ∨ isNm w ∨ isNum w
theorem ww_ok {w R : Bs} (h : ww w) (hR : sepHead R) : wOK w R := by
  rcases h with h | h | h
  · exact .inl h
  · exact .inr ⟨.inl h, hR⟩
  · exact .inr ⟨.inr h, hR⟩
theorem dig_ww (n : Nat) (h : n ≤ 128) : isNum (digL n) := by
  have h1 := digs n h
  obtain ⟨c, r, e⟩ : ∃ c r, digL n = c :: r := by
    cases hd : digL n with
    | nil => rw [hd] at h1; simp at h1
    | cons c r => exact ⟨c, r, rfl⟩
  exact ⟨c, r, e, h1.1⟩
theorem true_nm : isNm TRUEW := ⟨116, [114, 117, 101], rfl, by decide, by decide⟩
theorem false_nm : isNm FALSEW := ⟨102, [97, 108, 115, 101], rfl, by decide, by decide⟩
theorem sw_cases (s : S39) (n : Int) (h : vOK s n) : (∃ w, sw s n = [w] ∧ (isNm w ∨ isNum w) ∧ w.length ≤ 5) ∨ (∃ d, sw s n = [[45], d] ∧ isNum d ∧ d.length ≤ 3) := by
  unfold sw
  by_cases h2 : s.f0 = 2
  · rw [if_pos h2]
    by_cases h0 : n = 0
    · rw [if_pos h0]; exact .inl ⟨_, rfl, .inl false_nm, by decide⟩
    · rw [if_neg h0]; exact .inl ⟨_, rfl, .inl true_nm, by decide⟩
  · rw [if_neg h2]
    obtain ⟨h3, h4, _⟩ := h
    unfold numW
    by_cases hn : n < 0
    · rw [if_pos hn]
      have hd := digs (-n).toNat (by omega)
      exact .inr ⟨_, rfl, dig_ww _ (by omega), hd.2.2.1⟩
    · rw [if_neg hn]
      have hd := digs n.toNat (by omega)
      exact .inl ⟨_, rfl, .inr (dig_ww _ (by omega)), by omega⟩
theorem pc_ok (g : Bs) (s : S39) (n : Int) (R : Bs) (hg : gapOK g) (h : vOK s n) (hR : sepHead R) : okQ (pc g (sw s n)) R := by
  rcases sw_cases s n h with ⟨w, e, hw, _⟩ | ⟨d, e, hd, _⟩
  · rw [e]
    exact ⟨hg, .inr ⟨hw, hR⟩, trivial⟩
  · rw [e]
    exact ⟨hg, .inl (by simp [isSym]), .inl rfl, .inr ⟨.inr hd, hR⟩, trivial⟩
theorem body_head : ∀ sc l R, sepHead R → sepHead (flat (bodyP sc l false) ++ R)
  | [], _, R, h => by simpa [bodyP, flat] using h
  | _ :: _, [], R, h => by simpa [bodyP, flat] using h
  | s :: r, n :: l, R, h => .inr ⟨44, _, by simp [bodyP, flat]; rfl, by simp⟩
def allV : List S39 → List Int → Prop
  | s :: r, n :: l => vOK s n ∧ allV r l
  | [], [] => True
  | _, _ => False
theorem body_ok : ∀ sc l first R, allV sc l → sepHead R → okQ (bodyP sc l first) R
  | [], [], _, _, _, _ => trivial
  | s :: r, n :: l, first, R, hv, hR => by
    have hh := body_head r l R hR
    have ih := body_ok r l false R hv.2 hR
    simp only [bodyP]
    apply okQ_append
    · cases first
      · simp only [Bool.false_eq_true, if_false]
        exact ⟨.inl rfl, .inl (by simp [isSym]), pc_ok [32] s n _ (.inr (.inl rfl)) hv.1 hh⟩
      · simp only [if_true]
        exact pc_ok [] s n _ (.inl rfl) hv.1 hh
    · exact ih
  | [], _ :: _, _, _, h, _ => h.elim
  | _ :: _, [], _, _, h, _ => h.elim
theorem all_ok (k : Int) (rec : Bs) (sc : List S39) (l : List Int) (hv : allV sc l) (hrec : k = 4 → isNm rec) : okP (allP k rec sc l) [] := by
  apply okP_of _ _ _ (.inl rfl)
  unfold allP
  split
  · rename_i h4
    refine ⟨.inl rfl, .inr ⟨.inl (hrec h4), .inr ⟨40, _, rfl, by simp⟩⟩, .inl rfl, .inl (by simp [isSym]), ?_⟩
    refine okQ_append _ _ _ (body_ok sc l true _ hv (.inr ⟨41, _, rfl, by simp⟩)) ⟨.inl rfl, .inl (by simp [isSym]), trivial⟩
  · split
    · refine ⟨.inl rfl, .inl (by simp [isSym]), ?_⟩
      refine okQ_append _ _ _ (body_ok sc l true _ hv (.inr ⟨93, _, rfl, by simp⟩)) ⟨.inl rfl, .inl (by simp [isSym]), trivial⟩
    · exact body_ok sc l true _ hv (.inl rfl)
theorem sw_ww (s : S39) (n : Int) (h : vOK s n) : ∀ w ∈ sw s n, ww w ∧ w.length ≤ 16 := by
  rcases sw_cases s n h with ⟨w, e, hw, hl⟩ | ⟨d, e, hd, hl⟩
  · rw [e]; intro x hx; simp at hx; subst hx; exact ⟨.inr hw, by omega⟩
  · rw [e]; intro x hx
    simp at hx
    rcases hx with rfl | rfl
    · exact ⟨.inl (by simp [isSym]), by simp⟩
    · exact ⟨.inr (.inr hd), by omega⟩
theorem body_ww : ∀ sc l first, allV sc l → ∀ w ∈ bodyW sc l first, ww w ∧ w.length ≤ 16
  | [], [], _, _, w, hw => by simp [bodyW] at hw
  | s :: r, n :: l, first, hv, w, hw => by
    simp only [bodyW, List.mem_append] at hw
    rcases hw with hw | hw | hw
    · cases first
      · simp at hw; subst hw; exact ⟨.inl (by simp [isSym]), by simp⟩
      · simp at hw
    · exact sw_ww s n hv.1 w hw
    · exact body_ww r l false hv.2 w hw
  | [], _ :: _, _, h, _, _ => h.elim
  | _ :: _, [], _, h, _, _ => h.elim
theorem all_ww (k : Int) (rec : Bs) (sc : List S39) (l : List Int) (hv : allV sc l) (hrec : k = 4 → isNm rec ∧ rec.length ≤ 16) : ∀ w ∈ allW k rec sc l, ww w ∧ w.length ≤ 16 := by
  intro w hw
  have sym : ∀ c : Bs, isSym c → ww c ∧ c.length ≤ 16 := fun c h => ⟨.inl h, by rcases h with rfl | rfl | rfl | rfl | rfl | rfl <;> simp⟩
  unfold allW at hw
  split at hw
  · rename_i h4
    simp only [List.mem_cons, List.mem_append, List.not_mem_nil, or_false] at hw
    rcases hw with rfl | rfl | hw | rfl
    · exact ⟨.inr (.inl (hrec h4).1), (hrec h4).2⟩
    · exact sym _ (by simp [isSym])
    · exact body_ww sc l true hv w hw
    · exact sym _ (by simp [isSym])
  · split at hw
    · simp only [List.mem_cons, List.mem_append, List.not_mem_nil, or_false] at hw
      rcases hw with rfl | hw | rfl
      · exact sym _ (by simp [isSym])
      · exact body_ww sc l true hv w hw
      · exact sym _ (by simp [isSym])
    · exact body_ww sc l true hv w hw
theorem body_len : ∀ sc l first, allV sc l → (bodyW sc l first).length ≤ 3 * sc.length
  | [], [], _, _ => by simp [bodyW]
  | s :: r, n :: l, first, hv => by
    have ih := body_len r l false hv.2
    have hs : (sw s n).length ≤ 2 := by rcases sw_cases s n hv.1 with ⟨w, e, _⟩ | ⟨d, e, _⟩ <;> simp [e]
    simp only [bodyW, List.length_append, List.length_cons]
    cases first <;> simp <;> omega
  | [], _ :: _, _, h => h.elim
  | _ :: _, [], _, h => h.elim
theorem all_len (k : Int) (rec : Bs) (sc : List S39) (l : List Int) (hv : allV sc l) : (allW k rec sc l).length ≤ 3 * sc.length + 3 := by
  have h := body_len sc l true hv
  unfold allW
  split
  · simp; omega
  · split
    · simp; omega
    · omega
def pcs2 : List Bs → Pcs
  | [] => []
  | w :: r => ([], w) :: r.map fun x => (SEP, x)
theorem pcs2_words : ∀ W, (pcs2 W).map (fun p => p.2) = W
  | [] => rfl
  | w :: r => by simp [pcs2, Function.comp_def]
theorem seps_ok : ∀ W : List Bs, (∀ w ∈ W, ww w) → okQ (W.map fun x => (SEP, x)) SEP
  | [], _ => trivial
  | w :: r, h => ⟨.inr (.inr rfl), ww_ok (h w (List.mem_cons_self ..)) (by
      cases r with
      | nil => exact .inr ⟨32, _, rfl, by simp⟩
      | cons x r => exact .inr ⟨32, _, rfl, by simp⟩), seps_ok r (fun x hx => h x (List.mem_cons_of_mem _ hx))⟩
theorem pcs2_ok : ∀ W : List Bs, (∀ w ∈ W, ww w) → okP (pcs2 W) SEP
  | [], _ => .inr (.inr rfl)
  | w :: r, h => okP_of _ _ (by
      refine ⟨.inl rfl, ww_ok (h w (List.mem_cons_self ..)) ?_, seps_ok r (fun x hx => h x (List.mem_cons_of_mem _ hx))⟩
      cases r with
      | nil => exact .inr ⟨32, _, rfl, by simp⟩
      | cons x r => exact .inr ⟨32, _, rfl, by simp⟩) (.inr (.inr rfl))
theorem flat_len : ∀ ps : Pcs, (∀ p ∈ ps, p.1.length ≤ 5 ∧ p.2.length ≤ 16) → (flat ps).length ≤ 21 * ps.length
  | [], _ => by simp [flat]
  | (g, w) :: r, h => by
    have h1 : g.length ≤ 5 ∧ w.length ≤ 16 := h (g, w) (List.mem_cons_self ..)
    have ih := flat_len r (fun p hp => h p (List.mem_cons_of_mem _ hp))
    simp only [flat, List.length_append, List.length_cons]
    omega
end Go.Proofs.Ytogknojocodhgaa.P
end
section
namespace Go.Proofs.Ytogknojocodhgaa.P
open Go.RowKit Go.Proofs.YtogknojocodhgaaW.PrintWords Go.Proofs.YtogknojocodhgaaW.PrintLast Go.Proofs.YtogknojocodhgaaW.PrintMore
set_option linter.unusedVariables false
set_option linter.unusedSimpArgs false
structure Lx (W : List Bs) (ws : List ByteArray) (ts : List S74) : Prop where
  len1 : ws.length = W.length + 1
  len2 : ts.length = W.length + 1
  get : ∀ (i : Nat) (w : Bs), W[i]? = some w → rdw ws i = ⟨w.toArray⟩ ∧ (rd_T74 ts (i : Int)).f0 ≠ 5
  last : (rd_T74 ts (W.length : Int)).f0 = 5
theorem ba_list (w : Bs) : (⟨w.toArray⟩ : ByteArray).toList = w := by rw [Lib.toList_data]
theorem okP_len : ∀ ps e, okP ps e → ps.length ≤ (flat ps).length
  | [], _, _ => by simp
  | (g, w) :: r, e, h => by
    have ih := okP_len r e h.2.2
    obtain ⟨c, r', rfl, _⟩ := wOK_head h.2.1
    simp only [flat, List.length_append, List.length_cons]
    omega
theorem lx_of (s : ByteArray) (ps : Pcs) (e : Bs) (hok : okP ps e) (h : s.data.toList = flat ps ++ e) : Lx (ps.map fun p => p.2) (wordsP s (tokT s)) (tokT s) := by
  have hsz := size_app h
  have hl := okP_len ps e hok
  obtain ⟨ts, last, e1, e2, e3, e4, e5, e6⟩ := toks_pieces s ps e [] (s.size + 1) (by omega) hok (by simpa using h)
  have et : tokT s = ts ++ [last] := e1
  have ew : wordsP s (tokT s) = ps.map (fun p => (⟨p.2.toArray⟩ : ByteArray)) ++ [⟨#[]⟩] := by
    rw [et]
    unfold wordsP at e5 e6 ⊢
    rw [List.map_append, e5, e6]
  refine ⟨by rw [ew]; simp, by rw [et]; simp [e2], fun i w hi => ?_, ?_⟩
  · have hi2 : i < ps.length := by
      have := (List.getElem?_eq_some_iff.1 hi).1
      simpa using this
    constructor
    · unfold rdw rdOf
      rw [ew, Int.toNat_natCast, List.getD_eq_getElem?_getD, List.getElem?_append_left (by simpa using hi2), List.getElem?_map]
      rw [List.getElem?_map] at hi
      cases hp : ps[i]? with
      | none => rw [hp] at hi; cases hi
      | some p =>
        rw [hp] at hi
        have : p.2 = w := by simpa using hi
        subst this
        rfl
    · unfold rd_T74
      rw [et, Int.toNat_natCast, List.getD_eq_getElem?_getD, List.getElem?_append_left (by omega), List.getElem?_eq_getElem (by omega)]
      exact e3 _ (List.getElem_mem _)
  · unfold rd_T74
    rw [et, Int.toNat_natCast, List.getD_eq_getElem?_getD, List.length_map, List.getElem?_append_right (by omega), e2]
    simpa using e4
theorem acc_of {W : List Bs} {ws : List ByteArray} {ts : List S74} (H : Lx W ws ts) {i : Nat} {w : Bs} (h : W[i]? = some w) (x : Bs) : accB ws ts i x = (w == x) := by
  obtain ⟨h1, h2⟩ := H.get i w h
  unfold accB
  rw [h1, ba_list, beq_eq_false_iff_ne.mpr h2]
  simp
theorem drop_cons {W : List Bs} {i : Nat} {a : Bs} {rest : List Bs} (h : W.drop i = a :: rest) : W[i]? = some a ∧ W.drop (i + 1) = rest ∧ i < W.length := by
  have hlt : i < W.length := by
    rcases Nat.lt_or_ge i W.length with h1 | h1
    · exact h1
    · rw [List.drop_eq_nil_of_le h1] at h; cases h
  rw [List.drop_eq_getElem_cons hlt] at h
  injection h with h1 h2
  exact ⟨by rw [List.getElem?_eq_getElem hlt, h1], h2, hlt⟩
theorem sc_of {W : List Bs} {ws : List ByteArray} {ts : List S74} (H : Lx W ws ts) (wd : Int) (s : S39) (n : Int) (j : Nat) (rest : List Bs) (hv : vOK s n) (hin : value_isInt.f wd n = some true) (hd : W.drop j = sw s n ++ rest) :
    scStep wd ws ts (s.f0 == 2) j = some (n, j + (sw s n).length) ∧ W.drop (j + (sw s n).length) = rest := by
  have hl := H.len1
  unfold scStep
  by_cases h2 : s.f0 = 2
  · rw [if_pos (by simpa using h2)]
    have hb := hv.2.2 h2
    by_cases h0 : n = 0
    · have e : sw s n = [FALSEW] := by unfold sw; rw [if_pos h2, if_pos h0]
      rw [e] at hd ⊢
      obtain ⟨a1, a2, a3⟩ := drop_cons hd
      have t1 := acc_of H a1 [116, 114, 117, 101]
      have t2 := acc_of H a1 [102, 97, 108, 115, 101]
      rw [show (FALSEW == ([116, 114, 117, 101] : Bs)) = false from by decide] at t1
      rw [show (FALSEW == ([102, 97, 108, 115, 101] : Bs)) = true from by decide] at t2
      rw [t1, t2, if_neg (by simp), if_pos rfl, if_pos (by omega), h0]
      exact ⟨rfl, a2⟩
    · have h1 : n = 1 := by omega
      have e : sw s n = [TRUEW] := by unfold sw; rw [if_pos h2, if_neg h0]
      rw [e] at hd ⊢
      obtain ⟨a1, a2, a3⟩ := drop_cons hd
      have t1 := acc_of H a1 [116, 114, 117, 101]
      rw [show (TRUEW == ([116, 114, 117, 101] : Bs)) = true from by decide] at t1
      rw [t1, if_pos rfl, if_pos (by omega), h1]
      exact ⟨rfl, a2⟩
  · rw [if_neg (by simpa using h2)]
    obtain ⟨v1, v2, _⟩ := hv
    have e : sw s n = numW n := by unfold sw; rw [if_neg h2]
    rw [e] at hd ⊢
    by_cases hn : n < 0
    · have e2 : numW n = [[45], digL (-n).toNat] := by unfold numW; rw [if_pos hn]
      rw [e2] at hd ⊢
      obtain ⟨a1, a2, a3⟩ := drop_cons hd
      obtain ⟨b1, b2, b3⟩ := drop_cons a2
      have t1 := acc_of H a1 [45]
      rw [show (([45] : Bs) == [45]) = true from by decide] at t1
      have hdg := digs (-n).toNat (by omega)
      rw [t1, if_pos rfl, (H.get _ _ b1).1, hdg.2.2.2.1]
      have hw : wrap64 (-(((-n).toNat : Nat) : Int)) = n := by unfold wrap64; omega
      simp only [hw]
      rw [if_pos ⟨by omega, hin⟩]
      exact ⟨rfl, b2⟩
    · have e2 : numW n = [digL n.toNat] := by unfold numW; rw [if_neg hn]
      rw [e2] at hd ⊢
      obtain ⟨a1, a2, a3⟩ := drop_cons hd
      have hdg := digs n.toNat (by omega)
      have t1 := acc_of H a1 [45]
      rw [beq_eq_false_iff_ne.mpr hdg.2.2.2.2] at t1
      rw [t1, if_neg (by simp), (H.get _ _ a1).1, hdg.2.2.2.1]
      have hw : ((n.toNat : Nat) : Int) = n := by omega
      simp only [hw]
      rw [if_pos ⟨by omega, hin⟩]
      exact ⟨rfl, a2⟩
theorem lp_of {W : List Bs} {ws : List ByteArray} {ts : List S74} (H : Lx W ws ts) (wd : Int) : ∀ (sc : List S39) (l : List Int) (first : Bool) (i : Nat) (tail : List Bs), allV sc l → (∀ n ∈ l, value_isInt.f wd n = some true) → W.drop i = bodyW sc l first ++ tail →
    lpStep wd ws ts sc first i = some (l, i + (bodyW sc l first).length) ∧ W.drop (i + (bodyW sc l first).length) = tail
  | [], [], first, i, tail, _, _, hd => by simpa [lpStep, bodyW] using hd
  | s :: r, n :: l, first, i, tail, hv, hin, hd => by
    have hl := H.len1
    have hin1 := hin n (List.mem_cons_self ..)
    have hin2 : ∀ m ∈ l, value_isInt.f wd m = some true := fun m hm => hin m (List.mem_cons_of_mem _ hm)
    cases first
    · simp only [bodyW, Bool.false_eq_true, if_false, List.cons_append, List.nil_append, List.append_assoc] at hd
      obtain ⟨a1, a2, a3⟩ := drop_cons hd
      have t1 := acc_of H a1 [44]
      rw [show (([44] : Bs) == [44]) = true from by decide] at t1
      obtain ⟨s1, s2⟩ := sc_of H wd s n (i + 1) (bodyW r l false ++ tail) hv.1 hin1 a2
      have hlt : i + 1 < W.length := by
        rcases sw_cases s n hv.1 with ⟨w, e, _⟩ | ⟨d, e, _⟩ <;> rw [e] at a2 <;> exact (drop_cons a2).2.2
      obtain ⟨l1, l2⟩ := lp_of H wd r l false _ tail hv.2 hin2 s2
      have hlen : (bodyW (s :: r) (n :: l) false).length = 1 + (sw s n).length + (bodyW r l false).length := by simp [bodyW]; omega
      refine ⟨?_, ?_⟩
      · unfold lpStep
        rw [if_neg (by simp), if_pos ⟨t1, by omega⟩]
        simp only [s1, l1]
        rw [hlen]
        congr 2; omega
      · rw [hlen, ← l2]; congr 1; omega
    · simp only [bodyW, if_true, List.nil_append, List.append_assoc] at hd
      obtain ⟨s1, s2⟩ := sc_of H wd s n i (bodyW r l false ++ tail) hv.1 hin1 hd
      obtain ⟨l1, l2⟩ := lp_of H wd r l false _ tail hv.2 hin2 s2
      have hlen : (bodyW (s :: r) (n :: l) true).length = (sw s n).length + (bodyW r l false).length := by simp [bodyW]
      refine ⟨?_, ?_⟩
      · unfold lpStep
        rw [if_pos rfl]
        simp only [s1, l1]
        rw [hlen]
        congr 2; omega
      · rw [hlen, ← l2]; congr 1; omega
  | [], _ :: _, _, _, _, h, _, _ => h.elim
  | _ :: _, [], _, _, _, h, _, _ => h.elim
theorem parse_of {W : List Bs} {ws : List ByteArray} {ts : List S74} (H : Lx W ws ts) (wd k : Int) (rec : ByteArray) (sc : List S39) (l : List Int) (hW : W = allW k rec.toList sc l) (hv : allV sc l) (hin : ∀ n ∈ l, value_isInt.f wd n = some true) :
    parseW wd ws ts k rec sc = some l := by
  have hl := H.len1
  have hlast := H.last
  unfold parseW opStep clStep
  by_cases h4 : k = 4
  · have hd0 : W.drop 0 = rec.toList :: [40] :: (bodyW sc l true ++ [[41]]) := by rw [List.drop_zero, hW]; unfold allW; rw [if_pos h4]
    obtain ⟨a1, a2, a3⟩ := drop_cons hd0
    obtain ⟨b1, b2, b3⟩ := drop_cons a2
    obtain ⟨l1, l2⟩ := lp_of H wd sc l true 2 [[41]] hv hin b2
    obtain ⟨c1, c2, c3⟩ := drop_cons l2
    have t1 := acc_of H a1 rec.toList
    have t2 := acc_of H b1 [40]
    have t3 := acc_of H c1 [41]
    rw [beq_self_eq_true] at t1 t2 t3
    have hend : 2 + (bodyW sc l true).length + 1 = W.length := by
      rcases Nat.lt_or_ge (2 + (bodyW sc l true).length + 1) W.length with h | h
      · rw [List.drop_eq_getElem_cons h] at c2; cases c2
      · omega
    rw [if_pos h4, if_pos ⟨t1, t2, by omega⟩]
    simp only [l1]
    have hcl : accB ws ts (2 + (bodyW sc l true).length) [41] && (decide (2 + (bodyW sc l true).length + 1 < ws.length) && ((rd_T74 ts ((2 + (bodyW sc l true).length + 1 : Nat) : Int)).f0 == 5)) := by rw [t3, hend, hlast, decide_eq_true (by omega)]; rfl
    rw [if_pos ⟨by omega, by rw [if_pos h4]; exact hcl⟩]
  · by_cases h3 : k = 3
    · have hd0 : W.drop 0 = [91] :: (bodyW sc l true ++ [[93]]) := by rw [List.drop_zero, hW]; unfold allW; rw [if_neg h4, if_pos h3]
      obtain ⟨a1, a2, a3⟩ := drop_cons hd0
      obtain ⟨l1, l2⟩ := lp_of H wd sc l true 1 [[93]] hv hin a2
      obtain ⟨c1, c2, c3⟩ := drop_cons l2
      have t1 := acc_of H a1 [91]
      have t3 := acc_of H c1 [93]
      rw [beq_self_eq_true] at t1 t3
      have hend : 1 + (bodyW sc l true).length + 1 = W.length := by
        rcases Nat.lt_or_ge (1 + (bodyW sc l true).length + 1) W.length with h | h
        · rw [List.drop_eq_getElem_cons h] at c2; cases c2
        · omega
      rw [if_neg h4, if_pos h3, if_pos ⟨t1, by omega⟩]
      simp only [l1]
      have hcl : accB ws ts (1 + (bodyW sc l true).length) [93] && (decide (1 + (bodyW sc l true).length + 1 < ws.length) && ((rd_T74 ts ((1 + (bodyW sc l true).length + 1 : Nat) : Int)).f0 == 5)) := by rw [t3, hend, hlast, decide_eq_true (by omega)]; rfl
      rw [if_pos ⟨by omega, by rw [if_neg h4, if_pos h3]; exact hcl⟩]
    · have hd0 : W.drop 0 = bodyW sc l true ++ [] := by rw [List.drop_zero, hW, List.append_nil]; unfold allW; rw [if_neg h4, if_neg h3]
      obtain ⟨l1, l2⟩ := lp_of H wd sc l true 0 [] hv hin hd0
      have hend : (bodyW sc l true).length = W.length := by rw [hW]; unfold allW; rw [if_neg h4, if_neg h3]
      rw [Nat.zero_add] at l1
      rw [if_neg h4, if_neg h3]
      simp only [l1]
      rw [if_pos ⟨by omega, by rw [if_neg h4, if_neg h3, hend, hlast]; rfl⟩]
theorem parse_text (wd k n : Int) (rec : ByteArray) (l2 : List S57) (l : List Int) (s : ByteArray) (ps : Pcs) (e : Bs) (hw : 2 ≤ wd ∧ wd ≤ 8) (hk : (Lit.int .i64 k).wf = true) (hva : validT k n rec l2 = true) (hf : (rd_T57 l2 (recIx l2 rec : Int)).f1.length ≤ 1000000) (hs : s.size ≤ 4096)
    (hok : okP ps e) (h : s.data.toList = flat ps ++ e) (hW : ps.map (fun p => p.2) = allW k rec.toList (scalarsT k n rec l2) l) (hv : allV (scalarsT k n rec l2) l) (hin : ∀ m ∈ l, value_isInt.f wd m = some true) :
    value_Parse.f wd k n rec l2 s = some (l, 0) := by
  have H := lx_of s ps e hok h
  unfold value_Parse.f
  rw [if_pos ⟨hw, hk, hva, hf, hs, by rw [H.len2]; omega⟩, parse_of H wd k rec _ l hW hv hin]
end Go.Proofs.Ytogknojocodhgaa.P
end
