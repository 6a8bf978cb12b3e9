-- Texts of this claim, put together and cut down to what is used (trim.py, a program of this session).
import Derived.Test.YtogknojocodhgaaZ3
import Derived.Test.YtogknojocodhgaaZ15
import Derived.Test.YtogknojocodhgaaZ23
import Derived.Test.YtogknojocodhgaaZ25
import Derived.Test.YtogknojocodhgaaZ45
section
namespace Go.Proofs.Ytogknojocodhgaa.P
open Go.RowKit Go.Proofs.YtogknojocodhgaaW.PrintWords Go.Proofs.YtogknojocodhgaaW.PrintLast Go.Proofs.YtogknojocodhgaaW.PrintMore
set_option linter.unusedVariables false
set_option linter.unusedSimpArgs false
theorem ba_ext {a b : ByteArray} (h : a.data.toList = b.data.toList) : a = b := data_ext' h
theorem decimal_eq (n : Int) (h : -128 ≤ n ∧ n ≤ 127) : value_decimal.f n = some ⟨(numW n).flatten.toArray⟩ := by
  unfold value_decimal.f numW
  by_cases hn : n < 0
  · have hd := digs (-n).toNat (by omega)
    have e : IntKind.u64.wrap ((IntKind.u64.wrap (wrap64 (-(wrap64 (n + 1))))) + 1) = (((-n).toNat : Nat) : Int) := by
      rw [IntKind.wrap_u64, IntKind.wrap_u64]; unfold wrap64; omega
    rw [if_pos hn, if_pos hn, e]
    unfold value_digits.f
    rw [if_pos (by omega), Int.toNat_natCast, Option.bind_some]
    have hs : (⟨(digL (-n).toNat).toArray⟩ : ByteArray).size = (digL (-n).toNat).length := by show (digL (-n).toNat).toArray.size = _; simp
    rw [if_pos (by rw [hs]; omega)]
    congr 1
    apply ba_ext
    simp
  · have hd := digs n.toNat (by omega)
    have e : IntKind.u64.wrap n = ((n.toNat : Nat) : Int) := by rw [IntKind.wrap_u64]; omega
    rw [if_neg hn, if_neg hn, e]
    unfold value_digits.f
    rw [if_pos (by omega), Int.toNat_natCast, Option.bind_some]
    simp
def fw (s : S39) (n : Int) : Bs := (sw s n).flatten
def FW : List S39 → List Int → List ByteArray
  | s :: r, n :: l => ⟨(fw s n).toArray⟩ :: FW r l
  | _, _ => []
theorem allV_len : ∀ sc l, allV sc l → sc.length = l.length
  | [], [], _ => rfl
  | _ :: r, _ :: l, h => by simp [allV_len r l h.2]
  | [], _ :: _, h => h.elim
  | _ :: _, [], h => h.elim
theorem allV_drop : ∀ (i : Nat) sc l, allV sc l → allV (sc.drop i) (l.drop i)
  | 0, _, _, h => h
  | i + 1, [], [], h => by simpa using h
  | i + 1, _ :: r, _ :: l, h => by simpa using allV_drop i r l h.2
  | _ + 1, [], _ :: _, h => h.elim
  | _ + 1, _ :: _, [], h => h.elim
theorem drop_rd (l : List Int) (i : Nat) (h : i < l.length) : l.drop i = rd l (i : Int) :: l.drop (i + 1) := by
  rw [List.drop_eq_getElem_cons h]
  simp [rd, List.getD_eq_getElem?_getD, List.getElem?_eq_getElem h]
theorem drop_rd39 (l : List S39) (i : Nat) (h : i < l.length) : l.drop i = rd_T39 l (i : Int) :: l.drop (i + 1) := by
  rw [List.drop_eq_getElem_cons h]
  simp [rd_T39, List.getD_eq_getElem?_getD, List.getElem?_eq_getElem h]
theorem pc_flat (g : Bs) : ∀ (w : Bs) (r : List Bs), flat (pc g (w :: r)) = g ++ (w :: r).flatten
  | w, [] => by simp [pc, flat]
  | w, x :: r => by
    have ih := pc_flat [] x r
    simp only [pc, List.map_cons, flat, List.nil_append, List.flatten_cons] at ih ⊢
    rw [ih]
theorem pc_flat_sw (g : Bs) (s : S39) (n : Int) (h : vOK s n) : flat (pc g (sw s n)) = g ++ fw s n := by
  unfold fw
  rcases sw_cases s n h with ⟨w, e, _⟩ | ⟨d, e, _⟩ <;> rw [e] <;> exact pc_flat _ _ _
theorem join_tail : ∀ sc l, allV sc l → Lib.joinTail [44, 32] ((FW sc l).map (·.data.toList)) = flat (bodyP sc l false)
  | [], [], _ => rfl
  | s :: r, n :: l, h => by
    have ih := join_tail r l h.2
    simp only [FW, bodyP, List.map_cons, Lib.joinTail, List.flatten_cons] at ih ⊢
    rw [ih, flat_append]
    simp only [Bool.false_eq_true, if_false, flat, pc_flat_sw [32] s n h.1]
    simp
  | [], _ :: _, h => h.elim
  | _ :: _, [], h => h.elim
theorem join_body : ∀ sc l, allV sc l → Lib.join ((FW sc l).map (·.data.toList)) [44, 32] = flat (bodyP sc l true)
  | [], [], _ => rfl
  | s :: r, n :: l, h => by
    have ht := join_tail r l h.2
    simp only [FW, bodyP, List.map_cons]
    rw [Lib.join_cons, ht, flat_append]
    simp only [if_true, pc_flat_sw [] s n h.1]
    simp
  | [], _ :: _, h => h.elim
  | _ :: _, [], h => h.elim
theorem FW_len : ∀ sc l, (FW sc l).length ≤ l.length
  | [], _ => by simp [FW]
  | _ :: _, [] => by simp [FW]
  | _ :: r, _ :: l => by simpa [FW] using FW_len r l
theorem okP_bound : ∀ ps e, okP ps e → (∀ w ∈ ps.map (fun p => p.2), w.length ≤ 16) → ∀ p ∈ ps, p.1.length ≤ 5 ∧ p.2.length ≤ 16
  | [], _, _, _, p, hp => by simp at hp
  | (g, w) :: r, e, h, hw, p, hp => by
    rcases List.mem_cons.mp hp with rfl | hp
    · refine ⟨?_, hw _ (by simp)⟩
      rcases h.1 with rfl | rfl | rfl <;> simp [SEP]
    · exact okP_bound r e h.2.2 (fun x hx => hw x (by simp at hx ⊢; exact .inr hx)) p hp
theorem all_flat_len (k : Int) (rec : Bs) (sc : List S39) (l : List Int) (hv : allV sc l) (hrec : k = 4 → isNm rec ∧ rec.length ≤ 16) (hsc : sc.length ≤ 20) : (flat (allP k rec sc l)).length ≤ 1323 := by
  have h1 := flat_len (allP k rec sc l) (okP_bound _ _ (all_ok k rec sc l hv (fun h => (hrec h).1)) (fun w hw => by rw [allP_words] at hw; exact (all_ww k rec sc l hv hrec w hw).2))
  have h2 := all_len k rec sc l hv
  have h3 : (allP k rec sc l).length = (allW k rec sc l).length := by rw [← allP_words, List.length_map]
  omega
def fmtR (k : Int) (rec t : ByteArray) : ByteArray := if k = 3 then ((⟨#[91]⟩ : ByteArray) ++ t) ++ (⟨#[93]⟩ : ByteArray) else if k = 4 then ((rec ++ (⟨#[40]⟩ : ByteArray)) ++ t) ++ (⟨#[41]⟩ : ByteArray) else t
theorem fmtR_3 {k : Int} {rec t : ByteArray} (h : k = 3) : fmtR k rec t = ((⟨#[91]⟩ : ByteArray) ++ t) ++ (⟨#[93]⟩ : ByteArray) := if_pos h
theorem fmtR_4 {k : Int} {rec t : ByteArray} (h : k = 4) : fmtR k rec t = ((rec ++ (⟨#[40]⟩ : ByteArray)) ++ t) ++ (⟨#[41]⟩ : ByteArray) := by unfold fmtR; rw [if_neg (by omega), if_pos h]
theorem fmtR_0 {k : Int} {rec t : ByteArray} (h3 : k ≠ 3) (h4 : k ≠ 4) : fmtR k rec t = t := by unfold fmtR; rw [if_neg h3, if_neg h4]
theorem fmt_from (k n : Int) (rec : ByteArray) (sc : List S39) (l : List Int) (hv : allV sc l) (hl : l.length ≤ 20) (hr : k = 4 → rec.size ≤ 16) (hj : (Lib.join ((FW sc l).map (·.data.toList)) [44, 32]).length ≤ 1323) :
    ∀ (m i : Nat) (words : List ByteArray), i + m = l.length → words.length = i → words ++ FW (sc.drop i) (l.drop i) = FW sc l →
      Ev (fun kk => value_Format.l0 kk sc words l (l.length : Int) (i : Int) k n rec) (fmtR k rec (joinB (FW sc l) (⟨#[44, 32]⟩ : ByteArray)))
  | 0, i, words, hm, hw, hc => by
    have hlen := allV_len sc l hv
    rw [List.drop_eq_nil_of_le (show l.length ≤ i by omega), List.drop_eq_nil_of_le (show sc.length ≤ i by omega)] at hc
    have hc2 : words = FW sc l := by simpa [FW] using hc
    subst hc2
    have hfl := FW_len sc l
    refine Ev.step (fun kk => value_Format.l0.eq_2 sc _ l _ _ k n rec kk) (ev_ifn (by omega) ?_)
    rw [show strings_Join.f (FW sc l) (⟨#[44, 32]⟩ : ByteArray) = some (joinB (FW sc l) (⟨#[44, 32]⟩ : ByteArray)) from by unfold strings_Join.f; exact if_pos ⟨by omega, by exact Nat.le_trans hj (by omega)⟩]
    refine ev_bs (f := fun kk t => _) ?_
    have hts : (joinB (FW sc l) (⟨#[44, 32]⟩ : ByteArray)).size ≤ 1323 := by
      show (Lib.join _ _).toArray.size ≤ 1323
      rw [List.size_toArray]; exact hj
    by_cases h3 : k = 3
    · rw [fmtR_3 h3]
      exact ev_ifp h3 (ev_ifp (by omega) (ev_ifp (by rw [ByteArray.size_append]; show 1 + _ + 1 ≤ _; omega) (ev_some rfl)))
    · refine ev_ifn h3 ?_
      by_cases h4 : k = 4
      · have hr4 := hr h4
        rw [fmtR_4 h4]
        refine ev_ifp h4 (ev_ifp (by omega) (ev_ifp ?_ (ev_ifp ?_ (ev_some rfl))))
        · rw [ByteArray.size_append]; show rec.size + 1 + _ ≤ _; omega
        · rw [ByteArray.size_append, ByteArray.size_append]; show rec.size + 1 + _ + 1 ≤ _; omega
      · rw [fmtR_0 h3 h4]
        exact ev_ifn h4 (ev_some rfl)
  | m + 1, i, words, hm, hw, hc => by
    have hlen := allV_len sc l hv
    have hi : i < l.length := by omega
    have hvi := allV_drop i sc l hv
    rw [drop_rd l i hi, drop_rd39 sc i (by omega)] at hvi hc
    have hv0 := hvi.1
    have hw64 : wrap64 ((i : Int) + 1) = ((i + 1 : Nat) : Int) := by unfold wrap64; omega
    have go : ∀ x : ByteArray, x = ⟨(fw (rd_T39 sc (i : Int)) (rd l (i : Int))).toArray⟩ → Ev (fun kk => value_Format.l0 kk sc (words ++ [x]) l (l.length : Int) (wrap64 ((i : Int) + 1)) k n rec) (fmtR k rec (joinB (FW sc l) (⟨#[44, 32]⟩ : ByteArray))) := by
      intro x hx
      rw [hw64]
      exact fmt_from k n rec sc l hv hl hr hj m (i + 1) (words ++ [x]) (by omega) (by simp [hw]) (by rw [List.append_assoc, ← hc, hx]; rfl)
    refine Ev.step (fun kk => value_Format.l0.eq_2 sc words l _ _ k n rec kk) (ev_ifp (by omega) (ev_ifp (by omega) (ev_ifp (by omega) (ev_ifp (by omega) ?_))))
    by_cases h2 : (rd_T39 sc (i : Int)).f0 = 2
    · refine ev_ifp h2 ?_
      by_cases h0 : rd l (i : Int) = 0
      · exact ev_ifp h0 (ev_ifp (by omega) (go _ (by unfold fw sw; rw [if_pos h2, if_pos h0]; rfl)))
      · exact ev_ifn h0 (ev_ifp (by omega) (go _ (by unfold fw sw; rw [if_pos h2, if_neg h0]; rfl)))
    · refine ev_ifn h2 ?_
      rw [decimal_eq _ ⟨hv0.1, hv0.2.1⟩]
      exact ev_bs (f := fun kk t => _) (ev_ifp (by omega) (go _ (by unfold fw sw; rw [if_neg h2])))
theorem fmt_ev (k n : Int) (rec : ByteArray) (l2 : List S57) (l : List Int) (hk : (Lit.int .i64 k).wf = true) (hva : validT k n rec l2 = true) (hf : (rd_T57 l2 (recIx l2 rec : Int)).f1.length ≤ 20) (hv : allV (scalarsT k n rec l2) l) (hl : l.length ≤ 20) (hrec : k = 4 → isNm rec.toList ∧ rec.toList.length ≤ 16) :
    ∃ s : ByteArray, Ev (fun kk => value_Format.f kk k n rec l2 l) s ∧ s.data.toList = flat (allP k rec.toList (scalarsT k n rec l2) l) := by
  have hlen := allV_len _ l hv
  have hj := join_body _ l hv
  have hbody : (flat (bodyP (scalarsT k n rec l2) l true)).length ≤ 1323 := by
    have h := all_flat_len 0 [] (scalarsT k n rec l2) l hv (fun h => by omega) (by omega)
    simpa [allP] using h
  have hrs : rec.toList.length = rec.size := by rw [Lib.toList_data]; exact data_size rec
  refine ⟨fmtR k rec (joinB (FW (scalarsT k n rec l2) l) (⟨#[44, 32]⟩ : ByteArray)), ?_, ?_⟩
  · unfold value_Format.f
    rw [show types_Scalars.f l2 [(⟨k, n, rec⟩ : S39)] = some (scalarsT k n rec l2) from by unfold types_Scalars.f; exact if_pos ⟨hva, by show (rd_T57 l2 (recIx l2 rec : Int)).f1.length ≤ 1000000; omega⟩]
    refine ev_bs (f := fun kk t => _) ?_
    rw [show types_Valid.f k n rec l2 = some true from by unfold types_Valid.f; rw [if_pos hk, hva]]
    refine ev_bs (f := fun kk t => _) (ev_ifp rfl (Ev.step (fun kk => value_Format.j0.eq_2 _ _ _ k n rec kk) (ev_ifn (by simp [hlen]) ?_)))
    exact fmt_from k n rec _ l hv hl (fun h => by have := (hrec h).2; omega) (by rw [hj]; exact hbody) l.length 0 [] (by omega) rfl (by simp)
  · unfold fmtR allP
    by_cases h3 : k = 3
    · rw [if_pos h3, if_neg (by omega), if_pos h3]
      simp [joinB, hj, flat, flat_append]
    · rw [if_neg h3]
      by_cases h4 : k = 4
      · rw [if_pos h4, if_pos h4]
        simp [joinB, hj, flat, flat_append, Lib.toList_data]
      · rw [if_neg h4, if_neg h4, if_neg h3]
        simp [joinB, hj]
def fewB (l : List S57) : Bool := l.all (fun x => decide (x.f1.length ≤ 20)) && decide (l.length ≤ 20)
theorem few_from (l : List S57) (hl : l.length ≤ maxLen) : ∀ (m i : Nat), i + m = l.length → Ev (fun k => assessorref08_Few.l0 k l (i : Int)) ((l.drop i).all (fun x => decide (x.f1.length ≤ 20)) && decide (l.length ≤ 20))
  | 0, i, h => by
    refine Ev.step (fun k => assessorref08_Few.l0.eq_2 l i k) (ev_ifn (by omega) (ev_some ?_))
    rw [List.drop_eq_nil_of_le (by omega)]
    simp only [List.all_nil, Bool.true_and]
    exact decide_eq_decide.mpr (by omega)
  | m + 1, i, h => by
    have hi : i < l.length := by omega
    have hd : l.drop i = rd_T57 l (i : Int) :: l.drop (i + 1) := by
      rw [List.drop_eq_getElem_cons hi]
      simp [rd_T57, List.getD_eq_getElem?_getD, List.getElem?_eq_getElem hi]
    have hw : wrap64 ((i : Int) + 1) = ((i + 1 : Nat) : Int) := by unfold maxLen at hl; unfold wrap64; omega
    rw [hd, List.all_cons]
    refine Ev.step (fun k => assessorref08_Few.l0.eq_2 l i k) (ev_ifp (by omega) (ev_ifp (by omega) ?_))
    by_cases c : ((rd_T57 l (i : Int)).f1.length : Int) > 20
    · refine ev_ifp c (ev_some ?_)
      rw [decide_eq_false (by omega)]; rfl
    · refine ev_ifn c ?_
      rw [hw, decide_eq_true (by omega), Bool.true_and]
      exact few_from l hl m (i + 1) (by omega)
theorem few_ev (l : List S57) (hl : l.length ≤ maxLen) : Ev (fun k => assessorref08_Few.f k l) (fewB l) := by
  unfold assessorref08_Few.f fewB
  have h := few_from l hl l.length 0 (by omega)
  rwa [List.drop_zero] at h
theorem few_at (l : List S57) (h : fewB l = true) (i : Nat) : (rd_T57 l (i : Int)).f1.length ≤ 20 := by
  unfold rd_T57
  rw [Int.toNat_natCast, List.getD_eq_getElem?_getD]
  simp only [fewB, Bool.and_eq_true, List.all_eq_true, decide_eq_true_eq] at h
  cases hi : l[i]? with
  | none => simp [z57]
  | some x => exact h.1 x (List.mem_of_getElem? hi)
def chk (wd : Int) : List S39 → List Int → Bool
  | s :: r, n :: l => (if s.f0 = 2 then bitB n else true) && (inW wd n && chk wd r l)
  | [], [] => true
  | _, _ => false
theorem valid_from (wd : Int) (hw : 2 ≤ wd ∧ wd ≤ 8) (sc : List S39) (l : List Int) (hl : sc.length = l.length) (hm : l.length ≤ maxLen) : ∀ (m i : Nat), i + m = l.length → Ev (fun k => value_Valid.l0 k wd sc l (l.length : Int) (i : Int)) (chk wd (sc.drop i) (l.drop i))
  | 0, i, h => by
    refine Ev.step (fun k => value_Valid.l0.eq_2 wd sc l _ _ k) (ev_ifn (by omega) (ev_some ?_))
    rw [List.drop_eq_nil_of_le (by omega), List.drop_eq_nil_of_le (by omega)]; rfl
  | m + 1, i, h => by
    have hi : i < l.length := by omega
    have hw64 : wrap64 ((i : Int) + 1) = ((i + 1 : Nat) : Int) := by unfold maxLen at hm; unfold wrap64; omega
    have ih := valid_from wd hw sc l hl hm m (i + 1) (by omega)
    rw [drop_rd l i hi, drop_rd39 sc i (by omega)]
    simp only [chk]
    refine Ev.step (fun k => value_Valid.l0.eq_2 wd sc l _ _ k) (ev_ifp (by omega) (ev_ifp (by omega) (ev_ifp (by omega) (ev_ifp (by omega) ?_))))
    rw [isBool_eq, isInt_eq wd _ hw]
    by_cases h2 : (rd_T39 sc (i : Int)).f0 = 2
    · refine ev_ifp h2 ?_
      rw [if_pos h2]
      refine ev_bs (f := fun k t => _) ?_
      cases hb : bitB (rd l (i : Int))
      · exact ev_ifn (by simp) (ev_some rfl)
      · refine ev_ifp rfl (ev_bs (f := fun k t => _) ?_)
        cases hI : inW wd (rd l (i : Int))
        · exact ev_ifn (by simp) (ev_some rfl)
        · refine ev_ifp rfl ?_
          rw [hw64]; exact ih
    · refine ev_ifn h2 ?_
      rw [if_neg h2]
      refine ev_bs (f := fun k t => _) ?_
      cases hI : inW wd (rd l (i : Int))
      · exact ev_ifn (by simp) (ev_some rfl)
      · refine ev_ifp rfl ?_
        rw [hw64]; exact ih
theorem chk_len (wd : Int) : ∀ sc l, chk wd sc l = true → sc.length = l.length
  | [], [], _ => rfl
  | _ :: r, _ :: l, h => by
    simp only [chk, Bool.and_eq_true] at h
    simp [chk_len wd r l h.2.2]
  | [], _ :: _, h => by simp [chk] at h
  | _ :: _, [], h => by simp [chk] at h
theorem chk_all (wd : Int) (hw : 2 ≤ wd ∧ wd ≤ 8) : ∀ sc l, chk wd sc l = true → allV sc l ∧ ∀ n ∈ l, value_isInt.f wd n = some true
  | [], [], _ => ⟨trivial, by simp⟩
  | s :: r, n :: l, h => by
    simp only [chk, Bool.and_eq_true] at h
    obtain ⟨h1, h2, h3⟩ := h
    obtain ⟨i1, i2⟩ := chk_all wd hw r l h3
    have hb : lo wd ≤ n ∧ n ≤ hi wd := by simpa [inW] using h2
    have hs := in_small wd n hw hb
    refine ⟨⟨⟨hs.1, hs.2, fun e => ?_⟩, i1⟩, fun m hm => ?_⟩
    · rw [if_pos e] at h1; simpa [bitB] using h1
    · rcases List.mem_cons.mp hm with rfl | hm
      · rw [isInt_eq wd _ hw, h2]
      · exact i2 m hm
  | [], _ :: _, h => by simp [chk] at h
  | _ :: _, [], h => by simp [chk] at h
def validB (wd k n : Int) (rec : ByteArray) (l2 : List S57) (l : List Int) : Bool := decide (2 ≤ wd ∧ wd ≤ 8) && (validT k n rec l2 && chk wd (scalarsT k n rec l2) l)
theorem valid_ev (wd k n : Int) (rec : ByteArray) (l2 : List S57) (l : List Int) (hk : (Lit.int .i64 k).wf = true) (hf : (rd_T57 l2 (recIx l2 rec : Int)).f1.length ≤ 20) (hm : l.length ≤ maxLen) : Ev (fun kk => value_Valid.f kk wd k n rec l2 l) (validB wd k n rec l2 l) := by
  unfold value_Valid.f validB
  by_cases hw : 2 ≤ wd ∧ wd ≤ 8
  · rw [isWidth_eq wd hw, decide_eq_true hw, Bool.true_and]
    refine ev_bs (f := fun kk t => _) (ev_ifp rfl ?_)
    rw [show types_Valid.f k n rec l2 = some (validT k n rec l2) from by unfold types_Valid.f; rw [if_pos hk]]
    refine ev_bs (f := fun kk t => _) (Ev.step (fun kk => value_Valid.j0.eq_2 wd l2 l _ k n rec kk) ?_)
    cases hv : validT k n rec l2
    · exact ev_ifp rfl (ev_some rfl)
    · refine ev_ifn (by simp) ?_
      rw [show types_Scalars.f l2 [(⟨k, n, rec⟩ : S39)] = some (scalarsT k n rec l2) from by unfold types_Scalars.f; exact if_pos ⟨hv, by show (rd_T57 l2 (recIx l2 rec : Int)).f1.length ≤ 1000000; omega⟩]
      refine ev_bs (f := fun kk t => _) ?_
      rw [Bool.true_and]
      by_cases hl : (scalarsT k n rec l2).length = l.length
      · have h := valid_from wd hw (scalarsT k n rec l2) l hl hm l.length 0 (by omega)
        exact ev_ifp (by omega) h
      · refine ev_ifn (by omega) (ev_some ?_)
        cases hc : chk wd (scalarsT k n rec l2) l
        · rfl
        · exact absurd (chk_len wd _ _ hc) hl
  · rw [isWidth_no wd hw, decide_eq_false hw, Bool.false_and]
    exact ev_bs (f := fun kk t => _) (ev_ifn (by simp) (Ev.step (fun kk => value_Valid.j0.eq_2 wd l2 l _ k n rec kk) (ev_ifp rfl (ev_some rfl))))
theorem run_all (p : Int → Bool) (s : ByteArray) : ∀ (m : Nat) (i : Int), runP p s m i = i + m → ∀ j : Nat, j < m → p (bt s (i + j)) = true
  | 0, _, _, j, hj => by omega
  | m + 1, i, h, j, hj => by
    simp only [runP] at h
    split at h
    · rename_i hp
      cases j with
      | zero => simpa using hp
      | succ j =>
        have ih := run_all p s m (i + 1) (by omega) j (by omega)
        rw [show i + ((j + 1 : Nat) : Int) = i + 1 + (j : Int) from by omega]
        exact ih
    · omega
theorem name_nm (s : ByteArray) (h : nameB s = true) : isNm s.toList ∧ s.toList.length ≤ 16 := by
  simp only [nameB, Bool.and_eq_true, decide_eq_true_eq] at h
  obtain ⟨⟨h1, h2⟩, h3, h4, h5⟩ := h
  have hr : runP isWord s s.size 0 = (s.size : Int) := by simpa using h5
  have hall := run_all isWord s s.size 0 (by omega)
  have hsz := data_size s
  have hmem : ∀ (A B : Bs) (x : UInt8), s.data.toList = A ++ x :: B → isWord (x.toNat : Int) = true := by
    intro A B x e
    have hlt : A.length < s.size := by rw [← hsz, e]; simp
    have := hall A.length hlt
    rw [Int.zero_add, bt_app e] at this
    exact this
  rw [Lib.toList_data]
  obtain ⟨c, r, e⟩ : ∃ c r, s.data.toList = c :: r := by
    cases hd : s.data.toList with
    | nil => rw [hd] at hsz; simp at hsz; omega
    | cons c r => exact ⟨c, r, rfl⟩
  refine ⟨⟨c, r, e, ?_, ?_⟩, by omega⟩
  · have hb := bt_app (A := []) (B := r) (c := c) (s := s) (by simpa using e)
    rw [← hb]; simpa using h3
  · intro x hx
    obtain ⟨A, B, hab⟩ := List.append_of_mem hx
    exact hmem A B x hab
end Go.Proofs.Ytogknojocodhgaa.P
end
