/- Wrapping makes sums and products as those of numbers; - is the sum with the negative number; comparisons are those of numbers; conditions: none (numbers of at most 20 bits by the statement itself). -/
import Derived.Test.YtogknojocodhgaaVaR
import Derived.Test.YtogknojocodhgaaVaAw
import Derived.Test.YtogknojocodhgaaPx19
namespace Go.Proofs.Ytogknojocodhgaa.Pure
open Go.RowKit Go.Proofs.Ytogknojocodhgaa.P Go.Proofs.YtogknojocodhgaaW.PrintWords Go.Proofs.YtogknojocodhgaaW.PrintLast Go.Proofs.YtogknojocodhgaaW.PrintMore
theorem tl45 : (⟨#[45]⟩ : ByteArray).toList = [45] := by kernel_rfl
theorem un_45 (w b : Int) (h : 2 ≤ w ∧ w ≤ 8) (hb : inW w b = true) : Ev (fun k => value_Unary.f k w (⟨#[45]⟩ : ByteArray) b) (wrapR w (wrap64 (-b)), 0) := by
  unfold value_Unary.f
  rw [isWidth_eq w h]
  refine ev_bs (f := fun k t => _) (ev_ifp rfl (ev_ifp (by kernel_rfl) ?_))
  refine Ev.step (fun k => value_Unary.j0.eq_2 w _ b _ k) (ev_ifn (by decide) (ev_ifn (by rw [tl45]; decide) ?_))
  rw [isInt_eq w b h, hb]
  refine ev_bs (f := fun k t => _) (Ev.step (fun k => value_Unary.j1.eq_2 w _ b _ k) (ev_ifn (by decide) (ev_ifn (by rw [tl45]; decide) ?_)))
  rw [wrap_eq w _ h]
  exact ev_bs (f := fun k t => _) (ev_some rfl)
theorem ring_pow (w : Int) (h : 2 ≤ w ∧ w ≤ 8) : shl .i64 1 w = pw w := by
  unfold shl pw
  rcases seven w h with rfl | rfl | rfl | rfl | rfl | rfl | rfl <;> decide +kernel
theorem wrap_cong (w m n : Int) (h : 2 ≤ w ∧ w ≤ 8) (k : Int) (e : m = n + pw w * k) : wrapR w m = wrapR w n :=
  wr_cong w m n h (by rw [e, show n + pw w * k - n = pw w * k from by omega]; exact Int.mul_emod_right _ _)
theorem ValueRing : assessorlaw11_ValueRing.Pure := by
  intro w a b wa wb wc
  refine Ev.rounds ?_
  unfold assessorlaw11_ValueRing.f
  by_cases h1 : w < 2
  · exact ev_ifp h1 (Ev.step (fun k => assessorlaw11_ValueRing.j0.eq_2 w a b _ k) (ev_ifp rfl awake_some))
  refine ev_ifn h1 ?_
  by_cases h2 : w > 8
  · exact ev_ifp h2 (Ev.step (fun k => assessorlaw11_ValueRing.j0.eq_2 w a b _ k) (ev_ifp rfl awake_some))
  refine ev_ifn h2 ?_
  by_cases h3 : mx a (wrap64 (-a)) > 1048576
  · exact ev_ifp h3 (Ev.step (fun k => assessorlaw11_ValueRing.j0.eq_2 w a b _ k) (ev_ifp rfl awake_some))
  refine ev_ifn h3 ?_
  by_cases h4 : mx b (wrap64 (-b)) > 1048576
  · exact ev_ifp h4 (Ev.step (fun k => assessorlaw11_ValueRing.j0.eq_2 w a b _ k) (ev_ifp rfl awake_some))
  refine ev_ifn h4 ?_
  by_cases h5 : a = -9223372036854775808
  · exact ev_ifp h5 (Ev.step (fun k => assessorlaw11_ValueRing.j0.eq_2 w a b _ k) (ev_ifp rfl awake_some))
  refine ev_ifn h5 (Ev.step (fun k => assessorlaw11_ValueRing.j0.eq_2 w a b _ k) ?_)
  by_cases h6 : b = -9223372036854775808
  · exact ev_ifp (by simpa using h6) awake_some
  refine ev_ifn (by simpa using h6) ?_
  have h : 2 ≤ w ∧ w ≤ 8 := by omega
  have ra : -9223372036854775808 ≤ a ∧ a ≤ 9223372036854775807 := by simpa [Lit.wf, IntKind.min, IntKind.max, IntKind.bits, IntKind.signed] using wb
  have rb : -9223372036854775808 ≤ b ∧ b ≤ 9223372036854775807 := by simpa [Lit.wf, IntKind.min, IntKind.max, IntKind.bits, IntKind.signed] using wc
  have ba : -1048576 ≤ a ∧ a ≤ 1048576 := by
    unfold mx wrap64 at h3; split at h3 <;> omega
  have bb : -1048576 ≤ b ∧ b ≤ 1048576 := by
    unfold mx wrap64 at h4; split at h4 <;> omega
  rw [wrap_eq w a h, wrap_eq w b h]
  have hx := wr_in w a h; have hy := wr_in w b h
  have ix := wr_inW w a h; have iy := wr_inW w b h
  obtain ⟨ka, ea⟩ := wr_dvd w a h
  obtain ⟨kb, eb⟩ := wr_dvd w b h
  generalize wrapR w a = x at *
  generalize wrapR w b = y at *
  have sx := in_small w x h hx
  have sy := in_small w y h hy
  have hn := wr_in w (wrap64 (-y)) h
  have im := wr_inW w (wrap64 (-y)) h
  obtain ⟨km, em⟩ := wr_dvd w (wrap64 (-y)) h
  have em2 : wrap64 (-y) = -y := by unfold wrap64; omega
  rw [em2] at hn im em
  have sm := in_small w _ h hn
  have mxy : -16384 ≤ x * y ∧ x * y ≤ 16384 := by
    have h1 : (x * y).natAbs ≤ 128 * 128 := by
      rw [Int.natAbs_mul]
      exact Nat.mul_le_mul (by omega) (by omega)
    omega
  have mab : -1099511627776 ≤ a * b ∧ a * b ≤ 1099511627776 := by
    have h1 : (a * b).natAbs ≤ 1048576 * 1048576 := by
      rw [Int.natAbs_mul]
      exact Nat.mul_le_mul (by omega) (by omega)
    omega
  refine ev_bs (f := fun k t => _) (ev_bs (f := fun k t => _) ?_)
  rw [bin_43 w x y h ix iy, bin_42 w x y h ix iy, bin_45 w x y h ix iy, bin_60' w x y h ix iy]
  refine ev_bs (f := fun k t => _) (ev_bs (f := fun k t => _) (Ev.bind (un_45 w y h iy) (ev_bs (f := fun k t => _) ?_)))
  rw [em2]
  rw [bin_43 w x _ h ix im]
  refine ev_bs (f := fun k t => _) (ev_bs (f := fun k t => _) ?_)
  refine ev_ifp rfl (ev_ifp rfl (ev_ifp rfl (ev_ifp rfl (ev_ifp rfl ?_))))
  refine Ev.step (fun k => assessorlaw11_ValueRing.j1.eq_2 w a b x y _ _ _ _ _ _ k) (ev_ifn (by simp) ?_)
  rw [least_eq w h, greatest_eq w h]
  refine ev_bs (f := fun k t => _) (ev_ifp hx.1 (ev_bs (f := fun k t => _) (ev_ifp hx.2 (ev_ifp (by omega) ?_))))
  rw [ring_pow w h]
  have hp : pw w ≠ 0 := by have := pw_two w h; have := half_b w h; omega
  refine ev_ifn hp ?_
  have w1 : wrap64 (a - x) = a - x := by unfold wrap64; omega
  refine ev_ifp (by rw [w1, ea, show a - (a + pw w * ka) = pw w * (-ka) from by rw [Int.mul_neg]; omega]; exact Int.mul_tmod_right _ _) ?_
  rw [wrap_eq w _ h, wrap_eq w _ h]
  have w2 : wrap64 (x + y) = x + y := by unfold wrap64; omega
  have w3 : wrap64 (a + b) = a + b := by unfold wrap64; omega
  have w4 : wrap64 (x * y) = x * y := by unfold wrap64; omega
  have w5 : wrap64 (a * b) = a * b := by unfold wrap64; omega
  have w6 : wrap64 (x - y) = x - y := by unfold wrap64; omega
  have w7 : wrap64 (x + wrapR w (-y)) = x + wrapR w (-y) := by unfold wrap64; omega
  refine ev_bs (f := fun k t => _) (ev_ifp ?_ ?_)
  · show wrapR w (wrap64 (x + y)) = wrapR w (wrap64 (a + b))
    rw [w2, w3]
    exact wrap_cong w _ _ h (ka + kb) (by rw [ea, eb, Int.mul_add]; omega)
  refine ev_bs (f := fun k t => _) (ev_ifp ?_ ?_)
  · show wrapR w (wrap64 (x * y)) = wrapR w (wrap64 (a * b))
    rw [w4, w5]
    refine wrap_cong w _ _ h (ka * b + a * kb + ka * (pw w * kb)) ?_
    rw [ea, eb, Int.add_mul, Int.mul_add, Int.mul_add, Int.mul_add, Int.mul_add, Int.mul_assoc, Int.mul_assoc, Int.mul_left_comm a (pw w) kb]
    omega
  refine ev_ifp ?_ ?_
  · show wrapR w (wrap64 (x - y)) = wrapR w (wrap64 (x + wrapR w (-y)))
    rw [w6, w7]
    exact (wrap_cong w _ _ h km (by rw [em]; omega)).symm
  refine ev_ifp ?_ awake_some
  by_cases c : x < y <;> simp [c]
end Go.Proofs.Ytogknojocodhgaa.Pure
