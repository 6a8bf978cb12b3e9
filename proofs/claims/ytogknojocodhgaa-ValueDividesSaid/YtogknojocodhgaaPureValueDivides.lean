/- a is (a / b) * b + a % b, the rest is less than b and has the sign of a, for any width and any numbers; conditions: none. -/
import Derived.Test.YtogknojocodhgaaVaR
import Derived.Test.YtogknojocodhgaaVaAw
import Derived.Test.YtogknojocodhgaaPx18
namespace Go.Proofs.Ytogknojocodhgaa.Pure
open Go.RowKit Go.Proofs.Ytogknojocodhgaa.P Go.Proofs.YtogknojocodhgaaW.PrintWords Go.Proofs.YtogknojocodhgaaW.PrintLast Go.Proofs.YtogknojocodhgaaW.PrintMore
theorem divides_sum (w x y : Int) (h : 2 ≤ w ∧ w ≤ 8) (hx : lo w ≤ x ∧ x ≤ hi w) (hy : lo w ≤ y ∧ y ≤ hi w) :
    wrapR w (wrap64 (wrapR w (wrap64 (wrapR w (wrap64 (Int.tdiv x y)) * y)) + Int.tmod x y)) = x := by
  have bx := in_small w x h hx
  have b_y := in_small w y h hy
  have hq : -128 ≤ Int.tdiv x y ∧ Int.tdiv x y ≤ 128 := by
    have := Int.natAbs_tdiv_le_natAbs x y
    omega
  have hw1 : wrap64 (Int.tdiv x y) = Int.tdiv x y := by unfold wrap64; omega
  rw [hw1]
  have bq := in_small w _ h (wr_in w (Int.tdiv x y) h)
  have hm : -16384 ≤ wrapR w (Int.tdiv x y) * y ∧ wrapR w (Int.tdiv x y) * y ≤ 16384 := by
    generalize wrapR w (Int.tdiv x y) = q at *
    have h1 : (q * y).natAbs ≤ 128 * 128 := by
      rw [Int.natAbs_mul]
      exact Nat.mul_le_mul (by omega) (by omega)
    omega
  have hw2 : wrap64 (wrapR w (Int.tdiv x y) * y) = wrapR w (Int.tdiv x y) * y := by unfold wrap64; omega
  rw [hw2]
  have bp := in_small w _ h (wr_in w (wrapR w (Int.tdiv x y) * y) h)
  have ht : -128 ≤ Int.tmod x y ∧ Int.tmod x y ≤ 128 := by
    have h1 := Int.natAbs_tmod x y
    have h2 := Nat.mod_le x.natAbs y.natAbs
    omega
  have hw3 : wrap64 (wrapR w (wrapR w (Int.tdiv x y) * y) + Int.tmod x y) = wrapR w (wrapR w (Int.tdiv x y) * y) + Int.tmod x y := by unfold wrap64; omega
  rw [hw3]
  apply wr_of w _ x h hx
  obtain ⟨k1, e1⟩ := wr_dvd w (Int.tdiv x y) h
  obtain ⟨k2, e2⟩ := wr_dvd w (wrapR w (Int.tdiv x y) * y) h
  have e3 := Int.mul_tdiv_add_tmod x y
  refine ⟨k1 * y + k2, ?_⟩
  rw [e2, e1, Int.mul_add, Int.add_mul, Int.mul_assoc, Int.mul_comm (Int.tdiv x y) y]
  omega
theorem tmod_in (w x y : Int) (h0 : y ≠ 0) (hx : lo w ≤ x ∧ x ≤ hi w) (hy : lo w ≤ y ∧ y ≤ hi w) : lo w ≤ Int.tmod x y ∧ Int.tmod x y ≤ hi w := by
  have h1 := tmod_small x y h0
  unfold lo hi at *
  unfold mx at h1
  split at h1 <;> split at h1 <;> omega
theorem ValueDivides : assessorlaw11_ValueDivides.Pure := by
  intro w a b _ _ _
  refine Ev.rounds ?_
  unfold assessorlaw11_ValueDivides.f
  by_cases h1 : w < 2
  · exact ev_ifp h1 (Ev.step (fun k => assessorlaw11_ValueDivides.j0.eq_2 w a b _ k) (ev_ifp rfl awake_some))
  refine ev_ifn h1 (Ev.step (fun k => assessorlaw11_ValueDivides.j0.eq_2 w a b _ k) ?_)
  by_cases h2 : w > 8
  · exact ev_ifp (decide_eq_true h2) awake_some
  refine ev_ifn (by simpa using h2) ?_
  have h : 2 ≤ w ∧ w ≤ 8 := by omega
  rw [wrap_eq w a h, wrap_eq w b h]
  have hx := wr_in w a h; have hy := wr_in w b h
  have ix := wr_inW w a h; have iy := wr_inW w b h
  generalize wrapR w a = x at *
  generalize wrapR w b = y at *
  refine ev_bs (f := fun k t => _) (ev_bs (f := fun k t => _) ?_)
  rw [bin_47 w x y h ix iy, bin_37 w x y h ix iy]
  by_cases h0 : y = 0
  · subst h0
    rw [if_pos rfl, if_pos rfl]
    refine ev_bs (f := fun k t => _) (ev_bs (f := fun k t => _) ?_)
    refine ev_ifp rfl (ev_ifp rfl (ev_ifn (by decide) ?_))
    refine Ev.step (fun k => assessorlaw11_ValueDivides.j1.eq_2 w x 0 _ _ _ k) (ev_ifn (by simp) (ev_ifp rfl (ev_ifp rfl (ev_ifp rfl awake_some))))
  · rw [if_neg h0, if_neg h0]
    have hd := divides_sum w x y h hx hy
    have ht := tmod_in w x y h0 hx hy
    have hs := tmod_small x y h0
    have hg := tmod_sign x y h0
    have iq := wr_inW w (wrap64 (Int.tdiv x y)) h
    have ip := wr_inW w (wrap64 (wrapR w (wrap64 (Int.tdiv x y)) * y)) h
    rw [wr_id w _ h ht]
    have ir : inW w (Int.tmod x y) = true := by unfold inW; rw [decide_eq_true ht.1, decide_eq_true ht.2]; rfl
    have hb := in_small w _ h ht
    have hby := in_small w _ h hy
    have w1 : wrap64 (-(Int.tmod x y)) = -(Int.tmod x y) := by unfold wrap64; omega
    have w2 : wrap64 (-y) = -y := by unfold wrap64; omega
    refine ev_bs (f := fun k t => _) (ev_bs (f := fun k t => _) ?_)
    refine ev_ifp rfl (ev_ifp rfl (ev_ifn (by simp [h0]) ?_))
    refine Ev.step (fun k => assessorlaw11_ValueDivides.j1.eq_2 w x y _ _ _ k) (ev_ifn (by simp) (ev_ifn h0 ?_))
    rw [bin_42 w _ y h iq iy]
    refine ev_bs (f := fun k t => _) ?_
    rw [bin_43 w _ _ h ip ir]
    refine ev_bs (f := fun k t => _) ?_
    refine ev_ifp hd ?_
    refine ev_ifp (by rw [w1, w2]; exact hs) ?_
    by_cases hz : Int.tmod x y = 0
    · exact ev_ifp hz awake_some
    · refine ev_ifn hz (ev_ifp ?_ awake_some)
      rcases hg with hg | hg
      · exact absurd hg hz
      · simp [hg]
end Go.Proofs.Ytogknojocodhgaa.Pure
