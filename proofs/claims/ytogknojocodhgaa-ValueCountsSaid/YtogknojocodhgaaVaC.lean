/- Counting lists between two lists: the rank of a list, the list behind it, and what value.Next and slices.Compare tell. -/
import Derived.Test.YtogknojocodhgaaEvA
import Derived.Test.YtogknojocodhgaaPx1
import Derived.Test.YtogknojocodhgaaPx21
namespace Go.Proofs.Ytogknojocodhgaa.P
open Go.RowKit Go.Proofs.YtogknojocodhgaaW.PrintWords Go.Proofs.YtogknojocodhgaaW.PrintLast
def cnt : List Int → List Int → Int
  | a :: l, b :: h => (b - a + 1) * cnt l h
  | _, _ => 1
def rk : List Int → List Int → List Int → Int
  | a :: l, _ :: h, x :: L => (x - a) * cnt l h + rk l h L
  | _, _, _ => 0
def Rng : List Int → List Int → Prop
  | a :: l, b :: h => a ≤ b ∧ -1000 ≤ a ∧ b ≤ 1000 ∧ Rng l h
  | [], [] => True
  | _, _ => False
def Inn : List Int → List Int → List Int → Prop
  | a :: l, b :: h, x :: L => a ≤ x ∧ x ≤ b ∧ Inn l h L
  | [], [], [] => True
  | _, _, _ => False
theorem cnt_pos : ∀ l h, Rng l h → 1 ≤ cnt l h
  | [], [], _ => Int.le_refl _
  | a :: l, b :: h, (r : a ≤ b ∧ _) => by
    obtain ⟨r1, _, _, r2⟩ := r
    have h1 := cnt_pos l h r2
    have h2 : 1 * 1 ≤ (b - a + 1) * cnt l h := Int.mul_le_mul (by omega) h1 (by omega) (by omega)
    simpa [cnt] using h2
  | [], _ :: _, r => r.elim
  | _ :: _, [], r => r.elim
theorem inn_low : ∀ l h, Rng l h → Inn l h l
  | [], [], _ => trivial
  | _ :: l, _ :: h, r => ⟨Int.le_refl _, r.1, inn_low l h r.2.2.2⟩
  | [], _ :: _, r => r.elim
  | _ :: _, [], r => r.elim
theorem rk_low : ∀ l h, Rng l h → rk l h l = 0
  | [], [], _ => rfl
  | _ :: l, _ :: h, r => by simp [rk, rk_low l h r.2.2.2]
  | [], _ :: _, r => r.elim
  | _ :: _, [], r => r.elim
theorem rk_high : ∀ l h, Rng l h → rk l h h = cnt l h - 1
  | [], [], _ => rfl
  | a :: l, b :: h, r => by
    have h1 := rk_high l h r.2.2.2
    simp only [rk, cnt, h1, Int.add_mul]; omega
  | [], _ :: _, r => r.elim
  | _ :: _, [], r => r.elim
theorem rk_lt : ∀ l h L, Rng l h → Inn l h L → 0 ≤ rk l h L ∧ rk l h L ≤ cnt l h - 1
  | [], [], [], _, _ => by simp [rk, cnt]
  | a :: l, b :: h, x :: L, r, i => by
    have h1 := rk_lt l h L r.2.2.2 i.2.2
    have h2 := cnt_pos l h r.2.2.2
    obtain ⟨i1, i2, _⟩ := i
    have h3 : (x - a) * cnt l h ≤ (b - a) * cnt l h := Int.mul_le_mul_of_nonneg_right (by omega) (by omega)
    have h4 : 0 ≤ (x - a) * cnt l h := Int.mul_nonneg (by omega) (by omega)
    simp only [rk, cnt, Int.add_mul]
    omega
  | [], [], _ :: _, _, i => i.elim
  | [], _ :: _, _, r, _ => r.elim
  | _ :: _, [], _, r, _ => r.elim
  | _ :: _, _ :: _, [], _, i => i.elim
theorem inn_len : ∀ l h L, Inn l h L → l.length = L.length ∧ h.length = L.length
  | [], [], [], _ => ⟨rfl, rfl⟩
  | _ :: l, _ :: h, _ :: L, i => by have := inn_len l h L i.2.2; simp [this]
  | [], [], _ :: _, i => i.elim
  | [], _ :: _, _, i => i.elim
  | _ :: _, [], _, i => i.elim
  | _ :: _, _ :: _, [], i => i.elim
theorem inn_at : ∀ l h L, Inn l h L → ∀ i, i < L.length → rd l i ≤ rd L i ∧ rd L i ≤ rd h i
  | [], [], [], _, _, hi => absurd hi (by simp)
  | _ :: l, _ :: h, _ :: L, q, 0, _ => ⟨q.1, q.2.1⟩
  | _ :: l, _ :: h, _ :: L, q, i + 1, hi => by
    have h1 := inn_at l h L q.2.2 i (by simpa using hi)
    simpa [rd] using h1
  | [], [], _ :: _, i, _, _ => i.elim
  | [], _ :: _, _, i, _, _ => i.elim
  | _ :: _, [], _, i, _, _ => i.elim
  | _ :: _, _ :: _, [], i, _, _ => i.elim
theorem rng_at : ∀ l h, Rng l h → ∀ i, i < l.length → -1000 ≤ rd l i ∧ rd h i ≤ 1000
  | [], [], _, _, hi => absurd hi (by simp)
  | _ :: l, _ :: h, q, 0, _ => ⟨q.2.1, q.2.2.1⟩
  | _ :: l, _ :: h, q, i + 1, hi => by
    have h1 := rng_at l h q.2.2.2 i (by simpa using hi)
    simpa [rd] using h1
  | [], _ :: _, r, _, _ => r.elim
  | _ :: _, [], r, _, _ => r.elim
/-- The list behind: one more at place m, and the least list after it. -/
def Step (l h L : List Int) (m : Nat) (L' : List Int) : Prop := m < L.length ∧ L.drop (m + 1) = h.drop (m + 1) ∧ rd L m < rd h m ∧ L' = L.take m ++ (rd L m + 1) :: l.drop (m + 1)
theorem step_facts : ∀ l h L, Rng l h → Inn l h L → ∀ m L', Step l h L m L' → Inn l h L' ∧ rk l h L' = rk l h L + 1
  | [], [], [], _, _, _, _, s => absurd s.1 (by simp)
  | a :: l, b :: h, x :: L, r, i, 0, L', s => by
    obtain ⟨_, s2, s3, rfl⟩ := s
    simp only [Nat.zero_add, List.drop_succ_cons, List.drop_zero] at s2
    subst s2
    have s3 : x < b := s3
    simp only [List.take_zero, List.nil_append, Nat.zero_add, List.drop_succ_cons, List.drop_zero]
    have e : rd (x :: L) ((0 : Nat) : Int) = x := rfl
    rw [e]
    refine ⟨⟨by have := i.1; omega, by omega, inn_low l L r.2.2.2⟩, ?_⟩
    simp only [rk, rk_low l L r.2.2.2, rk_high l L r.2.2.2]
    rw [show x + 1 - a = (x - a) + 1 from by omega, Int.add_mul]; omega
  | a :: l, b :: h, x :: L, r, i, m + 1, L', s => by
    obtain ⟨s1, s2, s3, rfl⟩ := s
    have ih := step_facts l h L r.2.2.2 i.2.2 m (L.take m ++ (rd L m + 1) :: l.drop (m + 1)) ⟨by simpa using s1, by simpa using s2, by simpa [rd] using s3, rfl⟩
    have e : rd (x :: L) ((m + 1 : Nat) : Int) = rd L (m : Int) := by simp [rd]
    rw [e]
    simp only [List.take_succ_cons, List.cons_append, List.drop_succ_cons]
    refine ⟨⟨i.1, i.2.1, ih.1⟩, ?_⟩
    simp only [rk, ih.2]; omega
  | [], [], _ :: _, _, i, _, _, _ => i.elim
  | [], _ :: _, _, r, _, _, _, _ => r.elim
  | _ :: _, [], _, r, _, _, _, _ => r.elim
  | _ :: _, _ :: _, [], _, i, _, _, _ => i.elim
theorem next_down (l h L : List Int) (hl : l.length = L.length) (hh : h.length = L.length) (hn : L.length ≤ 8) (hb : ∀ i, i < L.length → rd h i ≤ 1000 ∧ -1000 ≤ rd L i) (hi : ∀ i, i < L.length → rd L i ≤ rd h i) : ∀ m, m ≤ L.length → L.drop m = h.drop m →
    (L = h ∧ Ev (fun k => value_Next.l1 k l h (L.take m ++ l.drop m) ((m : Int) - 1)) ([], false)) ∨ ∃ p L', Step l h L p L' ∧ Ev (fun k => value_Next.l1 k l h (L.take m ++ l.drop m) ((m : Int) - 1)) (L', true)
  | 0, _, hd => .inl ⟨by simpa using hd, Ev.step (fun k => value_Next.l1.eq_2 l h _ _ k) (ev_ifn (by omega) (ev_some rfl))⟩
  | m + 1, hm, hd => by
    have e1 : ((m + 1 : Nat) : Int) - 1 = (m : Int) := by omega
    rw [e1]
    have hlen : (L.take (m + 1) ++ l.drop (m + 1)).length = L.length := by simp; omega
    have hrd : rd (L.take (m + 1) ++ l.drop (m + 1)) (m : Int) = rd L (m : Int) := by
      simp only [rd, Int.toNat_natCast]
      rw [List.getD_eq_getElem?_getD, List.getD_eq_getElem?_getD, List.getElem?_append_left (by simp; omega), List.getElem?_take_of_lt (by omega)]
    by_cases c : rd L (m : Int) < rd h (m : Int)
    · refine .inr ⟨m, _, ⟨by omega, hd, c, rfl⟩, ?_⟩
      refine Ev.step (fun k => value_Next.l1.eq_2 l h _ _ k) (ev_ifp (by omega) (ev_ifp (by omega) (ev_ifp (by rw [hlen]; omega) (ev_ifp (by omega) ?_))))
      rw [hrd]
      refine ev_ifp c (ev_some ?_)
      have hb1 := hb m (by omega)
      have hw : wrap64 (rd L (m : Int) + 1) = rd L (m : Int) + 1 := by unfold wrap64; omega
      rw [hw, Int.toNat_natCast]
      congr 1
      have ht : L.take (m + 1) = L.take m ++ [rd L (m : Int)] := by
        rw [List.take_add_one, List.getElem?_eq_getElem (show m < L.length by omega)]
        simp [rd, List.getD_eq_getElem?_getD, List.getElem?_eq_getElem (show m < L.length by omega)]
      rw [ht, List.append_assoc, List.set_append_right _ _ (by simp; omega)]
      simp [Nat.min_eq_left (show m ≤ L.length by omega)]
    · have hle := hi m (by omega)
      have heq : rd L (m : Int) = rd h (m : Int) := by omega
      have hd' : L.drop m = h.drop m := by
        rw [List.drop_eq_getElem_cons (show m < L.length by omega), List.drop_eq_getElem_cons (show m < h.length by omega), hd]
        congr 1
        simpa [rd, List.getD_eq_getElem?_getD, List.getElem?_eq_getElem (show m < L.length by omega), List.getElem?_eq_getElem (show m < h.length by omega)] using heq
      have hset : (L.take (m + 1) ++ l.drop (m + 1)).set m (rd l (m : Int)) = L.take m ++ l.drop m := by
        have ht : L.take (m + 1) = L.take m ++ [rd L (m : Int)] := by
          rw [List.take_add_one, List.getElem?_eq_getElem (show m < L.length by omega)]
          simp [rd, List.getD_eq_getElem?_getD, List.getElem?_eq_getElem (show m < L.length by omega)]
        rw [ht, List.append_assoc, List.set_append_right _ _ (by simp; omega)]
        rw [List.drop_eq_getElem_cons (show m < l.length by omega)]
        simp [Nat.min_eq_left (show m ≤ L.length by omega), rd, List.getD_eq_getElem?_getD, List.getElem?_eq_getElem (show m < l.length by omega)]
      have ew : wrap64 ((m : Int) - 1) = (m : Int) - 1 := by unfold wrap64; omega
      have go : ∀ r, Ev (fun k => value_Next.l1 k l h (L.take m ++ l.drop m) ((m : Int) - 1)) r → Ev (fun k => value_Next.l1 k l h (L.take (m + 1) ++ l.drop (m + 1)) (m : Int)) r := by
        intro r er
        refine Ev.step (fun k => value_Next.l1.eq_2 l h _ _ k) (ev_ifp (by omega) (ev_ifp (by omega) (ev_ifp (by rw [hlen]; omega) (ev_ifp (by omega) ?_))))
        rw [hrd]
        refine ev_ifn c (ev_ifp (by omega) ?_)
        rw [Int.toNat_natCast, hset, ew]
        exact er
      rcases next_down l h L hl hh hn hb hi m (by omega) hd' with ⟨q1, q2⟩ | ⟨p, L', q1, q2⟩
      · exact .inl ⟨q1, go _ q2⟩
      · exact .inr ⟨p, L', q1, go _ q2⟩
theorem next_first (l h L : List Int) (hl : l.length = L.length) (hh : h.length = L.length) (hn : L.length ≤ 8) (hi : ∀ i, i < L.length → rd l i ≤ rd L i ∧ rd L i ≤ rd h i) (r : List Int × Bool) (e : Ev (fun k => value_Next.l1 k l h L (L.length - 1)) r) : ∀ m i : Nat, i + m = L.length → Ev (fun k => value_Next.l0 k l h L L (L.length : Int) (i : Int)) r
  | 0, i, hm => by
    have hw : wrap64 ((L.length : Int) - 1) = (L.length : Int) - 1 := by unfold wrap64; omega
    refine Ev.step (fun k => value_Next.l0.eq_2 l h L L _ i k) (ev_ifn (by omega) (ev_bs (f := fun k y => if y.length + L.length < 17592186044416 then (value_Next.l1 k l h (y ++ L) (wrap64 ((L.length : Int) - 1))) else none) (ev_ifp (by simp; omega) ?_)))
    rw [hw]; exact e
  | m + 1, i, hm => by
    have q := hi i (by omega)
    have hw : wrap64 ((i : Int) + 1) = ((i + 1 : Nat) : Int) := by unfold wrap64; omega
    refine Ev.step (fun k => value_Next.l0.eq_2 l h L L _ i k) (ev_ifp (by omega) (ev_ifp (by omega) (ev_ifp (by omega) (ev_ifp (by omega) (ev_ifn (by omega) (ev_ifp (by omega) (ev_ifn (by omega) ?_)))))))
    rw [hw]
    exact next_first l h L hl hh hn hi r e m (i + 1) (by omega)
theorem next_spec (l h L : List Int) (hr : Rng l h) (hi : Inn l h L) (hn : L.length ≤ 8) : (L = h ∧ Ev (fun k => value_Next.f k l h L) ([], false)) ∨ ∃ p L', Step l h L p L' ∧ Ev (fun k => value_Next.f k l h L) (L', true) := by
  have hlen := inn_len l h L hi
  have ha := inn_at l h L hi
  have hb := rng_at l h hr
  have go : ∀ r, Ev (fun k => value_Next.l1 k l h L (L.length - 1)) r → Ev (fun k => value_Next.f k l h L) r := by
    intro r er
    unfold value_Next.f
    exact ev_ifp (by omega) (Ev.step (fun k => value_Next.j0.eq_2 l h L _ k) (ev_ifn (by simp [hlen.2]) (next_first l h L hlen.1 hlen.2 hn ha r er L.length 0 (by omega))))
  have hd := next_down l h L hlen.1 hlen.2 hn (fun i hi2 => by have := ha i hi2; have := hb i (by omega); omega) (fun i hi2 => (ha i hi2).2) L.length (Nat.le_refl _) (by rw [List.drop_length, List.drop_eq_nil_of_le (by omega)])
  rw [List.take_length, List.drop_eq_nil_of_le (by omega), List.append_nil] at hd
  rcases hd with ⟨q1, q2⟩ | ⟨p, L', q1, q2⟩
  · exact .inl ⟨q1, go _ q2⟩
  · exact .inr ⟨p, L', q1, go _ q2⟩
theorem step_len (l h L L' : List Int) (m : Nat) (hl : l.length = L.length) (s : Step l h L m L') : L'.length = L.length := by
  obtain ⟨s1, _, _, rfl⟩ := s
  simp; omega
theorem step_eq (l h L L' : List Int) (m : Nat) (s : Step l h L m L') : ∀ i, i < m → rd L' i = rd L i := by
  obtain ⟨s1, _, _, rfl⟩ := s
  intro i hi
  simp only [rd, Int.toNat_natCast]
  rw [List.getD_eq_getElem?_getD, List.getD_eq_getElem?_getD, List.getElem?_append_left (by simp; omega), List.getElem?_take_of_lt hi]
  rw [List.getD_eq_getElem?_getD]
theorem step_more (l h L L' : List Int) (m : Nat) (s : Step l h L m L') : rd L' m = rd L m + 1 := by
  obtain ⟨s1, _, _, rfl⟩ := s
  have h2 : (L.take m).length = m := by simp; omega
  simp only [rd, Int.toNat_natCast]
  rw [List.getD_eq_getElem?_getD, List.getElem?_append_right (by omega), h2]
  simp
theorem cmp_eq (a b : Int) : cmp_Compare_int.f a b = some (if a < b then -1 else if a > b then 1 else 0) := by
  unfold cmp_Compare_int.f cmp_isNaN_int.f
  simp
  split <;> (try split) <;> rfl
theorem compare_less (L L' : List Int) (p : Nat) (hn : L.length ≤ 8) (hp : p < L.length) (hl : L'.length = L.length) (he : ∀ i, i < p → rd L' i = rd L i) (hm : rd L' p = rd L p + 1) : ∀ m i : Nat, i + m = p → Ev (fun k => slices_Compare_int_int.l0 k L L' L (L.length : Int) (i : Int)) (-1)
  | 0, i, h => by
    obtain rfl : i = p := by omega
    refine Ev.step (fun k => slices_Compare_int_int.l0.eq_2 L L' L _ _ k) (ev_ifp (by omega) (ev_ifp (by omega) (ev_ifp (by omega) (ev_ifn (by omega) (ev_ifp (by omega) ?_)))))
    rw [cmp_eq, if_pos (by omega)]
    exact ev_bs (f := fun k t => _) (ev_ifn (by decide) (ev_some rfl))
  | m + 1, i, h => by
    have q := he i (by omega)
    have hw : wrap64 ((i : Int) + 1) = ((i + 1 : Nat) : Int) := by unfold wrap64; omega
    refine Ev.step (fun k => slices_Compare_int_int.l0.eq_2 L L' L _ _ k) (ev_ifp (by omega) (ev_ifp (by omega) (ev_ifp (by omega) (ev_ifn (by omega) (ev_ifp (by omega) ?_)))))
    rw [cmp_eq, if_neg (by omega), if_neg (by omega)]
    refine ev_bs (f := fun k t => if t = 0 then slices_Compare_int_int.l0 k L L' L (L.length : Int) (wrap64 ((i : Int) + 1)) else some t) (ev_ifp rfl ?_)
    rw [hw]
    exact compare_less L L' p hn hp hl he hm m (i + 1) (by omega)
end Go.Proofs.Ytogknojocodhgaa.P
