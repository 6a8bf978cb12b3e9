/- Next and the reference's Next have one result, whatever the lists (lengths bounded); the lists' own comparison is true on equal lists. -/
import Derived.Test.YtogknojocodhgaaEvA
import Derived.Test.YtogknojocodhgaaPx1
import Derived.Test.YtogknojocodhgaaPx2
import Derived.Test.YtogknojocodhgaaPx16
namespace Go.Proofs.Ytogknojocodhgaa.P
open Go.RowKit Go.Proofs.YtogknojocodhgaaW.PrintWords Go.Proofs.YtogknojocodhgaaW.PrintLast
theorem ints_from (l : List Int) (hl : l.length ≤ 1000000) : ∀ (m i : Nat), i + m = l.length → Ev (fun k => assessorref01_Ints.l0 k l l (i : Int)) true
  | 0, i, h => Ev.step (fun k => assessorref01_Ints.l0.eq_2 l l i k) (ev_ifn (by omega) (ev_some rfl))
  | m + 1, i, h => by
    refine Ev.step (fun k => assessorref01_Ints.l0.eq_2 l l i k) (ev_ifp (by omega) (ev_ifp (by omega) (ev_ifp (by omega) (ev_ifp rfl ?_))))
    rw [w1 (by omega) (by omega)]
    exact ints_from l hl m (i + 1) (by omega)
theorem ints_ev (l : List Int) (hl : l.length ≤ 1000000) : Ev (fun k => assessorref01_Ints.f k l l) true := by
  unfold assessorref01_Ints.f
  exact ev_ifp rfl (ints_from l hl l.length 0 (by omega))
def Two (_ _ x2 : List Int) (A B : Nat → Option (List Int × Bool)) : Prop := ∃ r : List Int × Bool, r.1.length ≤ x2.length ∧ Ev A r ∧ Ev B r
theorem next_l1 (x0 x1 x2 : List Int) (h0 : x0.length = x2.length) (h1 : x1.length = x2.length) (hl : x2.length ≤ 1000) : ∀ (m : Nat) (L : List Int), L.length = x2.length → m ≤ x2.length →
    Two x0 x1 x2 (fun k => value_Next.l1 k x0 x1 L ((m : Int) - 1)) (fun k => assessorref11_Next.l1 k x0 x1 L ((m : Int) - 1))
  | 0, L, _, _ => ⟨([], false), Nat.zero_le _, Ev.step (fun k => value_Next.l1.eq_2 x0 x1 L _ k) (ev_ifn (by omega) (ev_some rfl)), Ev.step (fun k => assessorref11_Next.l1.eq_2 x0 x1 L _ k) (ev_ifn (by omega) (ev_some rfl))⟩
  | m + 1, L, hL, hm => by
    rw [show ((m + 1 : Nat) : Int) - 1 = (m : Int) from by omega]
    by_cases c : rd L (m : Int) < rd x1 (m : Int)
    · refine ⟨(L.set (m : Int).toNat (wrap64 (rd L (m : Int) + 1)), true), by simp [hL], ?_, ?_⟩
      · exact Ev.step (fun k => value_Next.l1.eq_2 x0 x1 L _ k) (ev_ifp (by omega) (ev_ifp (by omega) (ev_ifp (by omega) (ev_ifp (by omega) (ev_ifp c (ev_some rfl))))))
      · exact Ev.step (fun k => assessorref11_Next.l1.eq_2 x0 x1 L _ k) (ev_ifp (by omega) (ev_ifp (by omega) (ev_ifp (by omega) (ev_ifp (by omega) (ev_ifp c (ev_some rfl))))))
    · obtain ⟨r, hr, e1, e2⟩ := next_l1 x0 x1 x2 h0 h1 hl m (L.set (m : Int).toNat (rd x0 (m : Int))) (by simp [hL]) (by omega)
      have hw : wrap64 ((m : Int) - 1) = (m : Int) - 1 := by unfold wrap64; omega
      refine ⟨r, hr, ?_, ?_⟩
      · refine Ev.step (fun k => value_Next.l1.eq_2 x0 x1 L _ k) (ev_ifp (by omega) (ev_ifp (by omega) (ev_ifp (by omega) (ev_ifp (by omega) (ev_ifn c (ev_ifp (by omega) ?_))))))
        rw [hw]; exact e1
      · refine Ev.step (fun k => assessorref11_Next.l1.eq_2 x0 x1 L _ k) (ev_ifp (by omega) (ev_ifp (by omega) (ev_ifp (by omega) (ev_ifp (by omega) (ev_ifn c (ev_ifp (by omega) ?_))))))
        rw [hw]; exact e2
theorem next_l0 (x0 x1 x2 : List Int) (h0 : x0.length = x2.length) (h1 : x1.length = x2.length) (hl : x2.length ≤ 1000) : ∀ (m i : Nat), i + m = x2.length →
    Two x0 x1 x2 (fun k => value_Next.l0 k x0 x1 x2 x2 (x2.length : Int) (i : Int)) (fun k => assessorref11_Next.l0 k x0 x1 x2 (i : Int))
  | 0, i, h => by
    obtain ⟨r, hr, e1, e2⟩ := next_l1 x0 x1 x2 h0 h1 hl x2.length x2 rfl (Nat.le_refl _)
    have hw : wrap64 ((x2.length : Int) - 1) = (x2.length : Int) - 1 := by unfold wrap64; omega
    refine ⟨r, hr, ?_, ?_⟩
    · refine Ev.step (fun k => value_Next.l0.eq_2 x0 x1 x2 x2 _ i k) (ev_ifn (by omega) (ev_bs (f := fun k y => if y.length + x2.length < 17592186044416 then (value_Next.l1 k x0 x1 (y ++ x2) (wrap64 ((x2.length : Int) - 1))) else none) (ev_ifp (by simp; omega) ?_)))
      rw [hw]; exact e1
    · refine Ev.step (fun k => assessorref11_Next.l0.eq_2 x0 x1 x2 i k) (ev_ifn (by omega) (ev_bs (f := fun k y => if y.length + x2.length < 17592186044416 then (assessorref11_Next.l1 k x0 x1 (y ++ x2) (wrap64 ((x2.length : Int) - 1))) else none) (ev_ifp (by simp; omega) ?_)))
      rw [hw]; exact e2
  | m + 1, i, h => by
    by_cases c : rd x2 (i : Int) < rd x0 (i : Int)
    · exact ⟨([], false), Nat.zero_le _, Ev.step (fun k => value_Next.l0.eq_2 x0 x1 x2 x2 _ i k) (ev_ifp (by omega) (ev_ifp (by omega) (ev_ifp (by omega) (ev_ifp (by omega) (ev_ifp c (ev_some rfl)))))), Ev.step (fun k => assessorref11_Next.l0.eq_2 x0 x1 x2 i k) (ev_ifp (by omega) (ev_ifp (by omega) (ev_ifp (by omega) (ev_ifp c (ev_some rfl)))))⟩
    · by_cases c2 : rd x2 (i : Int) > rd x1 (i : Int)
      · exact ⟨([], false), Nat.zero_le _, Ev.step (fun k => value_Next.l0.eq_2 x0 x1 x2 x2 _ i k) (ev_ifp (by omega) (ev_ifp (by omega) (ev_ifp (by omega) (ev_ifp (by omega) (ev_ifn c (ev_ifp (by omega) (ev_ifp c2 (ev_some rfl)))))))), Ev.step (fun k => assessorref11_Next.l0.eq_2 x0 x1 x2 i k) (ev_ifp (by omega) (ev_ifp (by omega) (ev_ifp (by omega) (ev_ifn c (ev_ifp (by omega) (ev_ifp c2 (ev_some rfl)))))))⟩
      · obtain ⟨r, hr, e1, e2⟩ := next_l0 x0 x1 x2 h0 h1 hl m (i + 1) (by omega)
        have hw : wrap64 ((i : Int) + 1) = ((i + 1 : Nat) : Int) := by unfold wrap64; omega
        refine ⟨r, hr, ?_, ?_⟩
        · refine Ev.step (fun k => value_Next.l0.eq_2 x0 x1 x2 x2 _ i k) (ev_ifp (by omega) (ev_ifp (by omega) (ev_ifp (by omega) (ev_ifp (by omega) (ev_ifn c (ev_ifp (by omega) (ev_ifn c2 ?_)))))))
          rw [hw]; exact e1
        · refine Ev.step (fun k => assessorref11_Next.l0.eq_2 x0 x1 x2 i k) (ev_ifp (by omega) (ev_ifp (by omega) (ev_ifp (by omega) (ev_ifn c (ev_ifp (by omega) (ev_ifn c2 ?_))))))
          rw [hw]; exact e2
theorem next_two (x0 x1 x2 : List Int) (hl : x2.length ≤ 1000) : Two x0 x1 x2 (fun k => value_Next.f k x0 x1 x2) (fun k => assessorref11_Next.f k x0 x1 x2) := by
  unfold value_Next.f assessorref11_Next.f
  by_cases a : (x0.length : Int) = (x2.length : Int)
  · by_cases b : (x1.length : Int) = (x2.length : Int)
    · obtain ⟨r, hr, e1, e2⟩ := next_l0 x0 x1 x2 (by omega) (by omega) hl x2.length 0 (by omega)
      exact ⟨r, hr, ev_ifp a (Ev.step (fun k => value_Next.j0.eq_2 x0 x1 x2 _ k) (ev_ifn (by simp [b]) e1)), ev_ifp a (Ev.step (fun k => assessorref11_Next.j0.eq_2 x0 x1 x2 _ k) (ev_ifn (by simp [b]) e2))⟩
    · have hb : ((x1.length : Int) != (x2.length : Int)) = true := bne_iff_ne.mpr b
      exact ⟨([], false), Nat.zero_le _, ev_ifp a (Ev.step (fun k => value_Next.j0.eq_2 x0 x1 x2 _ k) (ev_ifp hb (ev_some rfl))), ev_ifp a (Ev.step (fun k => assessorref11_Next.j0.eq_2 x0 x1 x2 _ k) (ev_ifp hb (ev_some rfl)))⟩
  · exact ⟨([], false), Nat.zero_le _, ev_ifn a (Ev.step (fun k => value_Next.j0.eq_2 x0 x1 x2 _ k) (ev_ifp rfl (ev_some rfl))), ev_ifn a (Ev.step (fun k => assessorref11_Next.j0.eq_2 x0 x1 x2 _ k) (ev_ifp rfl (ev_some rfl)))⟩
end Go.Proofs.Ytogknojocodhgaa.P
