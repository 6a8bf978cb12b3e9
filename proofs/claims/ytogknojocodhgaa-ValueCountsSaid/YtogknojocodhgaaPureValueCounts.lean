/- From the least list on, Next goes through all lists in increasing order, each once; conditions: none (at most 200 lists of at most 8 numbers by the statement itself). -/
import Derived.Test.YtogknojocodhgaaVaC
import Derived.Test.YtogknojocodhgaaVaAw
import Derived.Test.YtogknojocodhgaaPx22
namespace Go.Proofs.Ytogknojocodhgaa.Pure
open Go.RowKit Go.Proofs.Ytogknojocodhgaa.P Go.Proofs.YtogknojocodhgaaW.PrintWords Go.Proofs.YtogknojocodhgaaW.PrintLast
theorem check_in (l h L : List Int) (c n : Int) (hl : l.length = L.length) (hh : h.length = L.length) (hn : L.length ≤ 8) (hi : ∀ i, i < L.length → rd l i ≤ rd L i ∧ rd L i ≤ rd h i)
    (e : Ev (fun k => assessorlaw11_ValueCounts.l1 k l h c L (wrap64 (n + 1))) true) : ∀ m i : Nat, i + m = L.length → Ev (fun k => assessorlaw11_ValueCounts.l2 k l h c n L L (L.length : Int) (i : Int)) true
  | 0, i, hm => Ev.step (fun k => assessorlaw11_ValueCounts.l2.eq_2 l h c n L L _ _ k) (ev_ifn (by omega) e)
  | m + 1, i, hm => by
    have q := hi i (by omega)
    have hw : wrap64 ((i : Int) + 1) = ((i + 1 : Nat) : Int) := by unfold wrap64; omega
    refine Ev.step (fun k => assessorlaw11_ValueCounts.l2.eq_2 l h c n L L _ _ k) (ev_ifp (by omega) (ev_ifp (by omega) (ev_ifp (by omega) (ev_ifp (by omega) (ev_ifn (by omega) (ev_ifp (by omega) (ev_ifn (by omega) ?_)))))))
    rw [hw]
    exact check_in l h L c n hl hh hn hi e m (i + 1) (by omega)
theorem walk (l h : List Int) (hr : Rng l h) (h8 : l.length ≤ 8) (hc : cnt l h ≤ 200) : ∀ (m : Nat) (L : List Int), Inn l h L → rk l h L + m + 1 = cnt l h → Ev (fun k => assessorlaw11_ValueCounts.l1 k l h (cnt l h) L (rk l h L + 1)) true := by
  intro m
  induction m with
  | zero =>
    intro L i q
    have hlen := inn_len l h L i
    rcases next_spec l h L hr i (by omega) with ⟨q1, q2⟩ | ⟨p, L', q1, q2⟩
    · refine Ev.step (fun k => assessorlaw11_ValueCounts.l1.eq_2 l h _ L _ k) (Ev.bind q2 (ev_ifn (by simp) (ev_ifp (by omega) (ev_ifp rfl awake_some))))
    · have f := step_facts l h L hr i p L' q1
      have g := rk_lt l h L' hr f.1
      omega
  | succ m ih =>
    intro L i q
    have hlen := inn_len l h L i
    have hp := rk_lt l h L hr i
    rcases next_spec l h L hr i (by omega) with ⟨q1, q2⟩ | ⟨p, L', q1, q2⟩
    · have := rk_high l h hr
      rw [q1] at q
      omega
    · have f := step_facts l h L hr i p L' q1
      have e1 := step_len l h L L' p hlen.1 q1
      have hcmp := compare_less L L' p (by omega) q1.1 e1 (step_eq l h L L' p q1) (step_more l h L L' p q1) p 0 (by omega)
      have hlen' := inn_len l h L' f.1
      have hrest := ih L' f.1 (by omega)
      have hw : wrap64 (rk l h L + 1 + 1) = rk l h L' + 1 := by unfold wrap64; omega
      have hchk := check_in l h L' (cnt l h) (rk l h L + 1) hlen'.1 hlen'.2 (by omega) (inn_at l h L' f.1) (by rw [hw]; exact hrest) L'.length 0 (by omega)
      refine Ev.step (fun k => assessorlaw11_ValueCounts.l1.eq_2 l h _ L _ k) (Ev.bind q2 (ev_ifp rfl (ev_ifn (by omega) (ev_ifp (by show (L'.length : Int) = (L.length : Int); omega) ?_))))
      refine Ev.bind (f := fun k t => assessorlaw11_ValueCounts.j4 k l h (cnt l h) (rk l h L + 1) L' (decide (t ≥ 0))) (r := true) (a := (-1 : Int)) (by unfold slices_Compare_int_int.f; exact hcmp) ?_
      exact Ev.step (fun k => assessorlaw11_ValueCounts.j4.eq_2 l h _ _ L' _ k) (ev_ifn (by decide) hchk)
theorem range_from (l h : List Int) (hl : l.length = h.length) (h8 : l.length ≤ 8) (e : Rng l h → cnt l h ≤ 200 → Ev (fun k => assessorlaw11_ValueCounts.l1 k l h (cnt l h) l 1) true) : ∀ (m i : Nat) (c : Int), i + m = l.length → 1 ≤ c → c ≤ 200 → (Rng (l.drop i) (h.drop i) → Rng l h ∧ c * cnt (l.drop i) (h.drop i) = cnt l h) → Ev (fun k => assessorlaw11_ValueCounts.l0 k l h c (l.length : Int) (i : Int)) true
  | 0, i, c, hm, c1, c2, hg => by
    have hd1 : l.drop i = [] := List.drop_eq_nil_of_le (by omega)
    have hd2 : h.drop i = [] := List.drop_eq_nil_of_le (by omega)
    rw [hd1, hd2] at hg
    obtain ⟨g1, g2⟩ := hg trivial
    have g3 : c = cnt l h := by simpa [cnt] using g2
    refine Ev.step (fun k => assessorlaw11_ValueCounts.l0.eq_2 l h c _ _ k) (ev_ifn (by omega) (ev_bs (f := fun k y => if y.length + l.length < 17592186044416 then (assessorlaw11_ValueCounts.l1 k l h c (y ++ l) 1) else none) (ev_ifp (by simp; omega) ?_)))
    rw [g3]
    exact e g1 (by omega)
  | m + 1, i, c, hm, c1, c2, hg => by
    have hd1 : l.drop i = rd l i :: l.drop (i + 1) := by
      rw [List.drop_eq_getElem_cons (show i < l.length by omega)]
      simp [rd, List.getD_eq_getElem?_getD, List.getElem?_eq_getElem (show i < l.length by omega)]
    have hd2 : h.drop i = rd h i :: h.drop (i + 1) := by
      rw [List.drop_eq_getElem_cons (show i < h.length by omega)]
      simp [rd, List.getD_eq_getElem?_getD, List.getElem?_eq_getElem (show i < h.length by omega)]
    rw [hd1, hd2] at hg
    refine Ev.step (fun k => assessorlaw11_ValueCounts.l0.eq_2 l h c _ _ k) (ev_ifp (by omega) (ev_ifp (by omega) (ev_ifp (by omega) (ev_ifp (by omega) ?_))))
    by_cases b1 : rd l i > rd h i
    · exact ev_ifp b1 (Ev.step (fun k => assessorlaw11_ValueCounts.j2.eq_2 l h c _ _ _ _ k) (ev_ifp rfl awake_some))
    refine ev_ifn b1 ?_
    by_cases b2 : rd l i < -1000
    · exact ev_ifp b2 (Ev.step (fun k => assessorlaw11_ValueCounts.j2.eq_2 l h c _ _ _ _ k) (ev_ifp rfl awake_some))
    refine ev_ifn b2 (Ev.step (fun k => assessorlaw11_ValueCounts.j2.eq_2 l h c _ _ _ _ k) ?_)
    by_cases b3 : rd h i > 1000
    · exact ev_ifp (decide_eq_true b3) awake_some
    refine ev_ifn (by simpa using b3) (ev_ifp (by omega) (ev_ifp (by omega) (ev_ifp (by omega) ?_)))
    have hw1 : wrap64 (wrap64 (rd h i - rd l i) + 1) = rd h i - rd l i + 1 := by unfold wrap64; omega
    have hm1 : 1 * 1 ≤ c * (rd h i - rd l i + 1) := Int.mul_le_mul c1 (by omega) (by omega) (by omega)
    have hm2 : c * (rd h i - rd l i + 1) ≤ 200 * 2001 := Int.mul_le_mul c2 (by omega) (by omega) (by omega)
    have hw2 : wrap64 (c * (rd h i - rd l i + 1)) = c * (rd h i - rd l i + 1) := by
      generalize c * (rd h i - rd l i + 1) = z at *
      unfold wrap64; omega
    rw [hw1, hw2]
    have hw : wrap64 ((i : Int) + 1) = ((i + 1 : Nat) : Int) := by unfold wrap64; omega
    by_cases b4 : c * (rd h i - rd l i + 1) > 200
    · exact ev_ifp b4 awake_some
    refine ev_ifn b4 ?_
    rw [hw]
    refine range_from l h hl h8 e m (i + 1) _ (by omega) (by omega) (by omega) ?_
    intro g
    obtain ⟨g1, g2⟩ := hg ⟨by omega, by omega, by omega, g⟩
    refine ⟨g1, ?_⟩
    rw [← g2]
    simp only [cnt, Int.mul_assoc]
theorem ValueCounts : assessorlaw11_ValueCounts.Pure := by
  intro l h _ _ _ _ _ _
  refine Ev.rounds ?_
  unfold assessorlaw11_ValueCounts.f
  by_cases a : (l.length : Int) = (h.length : Int)
  · refine ev_ifp a (Ev.step (fun k => assessorlaw11_ValueCounts.j0.eq_2 l h _ k) ?_)
    by_cases b : (l.length : Int) > 8
    · exact ev_ifp (decide_eq_true b) awake_some
    · refine ev_ifn (by simpa using b) ?_
      refine range_from l h (by omega) (by omega) ?_ l.length 0 1 (by omega) (by omega) (by omega) ?_
      · intro hr hc
        have h1 := walk l h hr (by omega) hc (cnt l h - 1).toNat l (inn_low l h hr) (by have := rk_low l h hr; have := cnt_pos l h hr; omega)
        rw [rk_low l h hr] at h1
        exact h1
      · simp only [List.drop_zero]
        intro g
        exact ⟨g, by omega⟩
  · exact ev_ifn a (Ev.step (fun k => assessorlaw11_ValueCounts.j0.eq_2 l h _ k) (ev_ifp rfl awake_some))
end Go.Proofs.Ytogknojocodhgaa.Pure
