/- The reference and value agree on Binary, Unary, Wrap, Least and Greatest, for any width, operator and numbers. -/
import Derived.Test.YtogknojocodhgaaEvA
import Derived.Test.YtogknojocodhgaaBin
import Derived.Test.YtogknojocodhgaaPx6
import Derived.Test.YtogknojocodhgaaPx7
import Derived.Test.YtogknojocodhgaaPx8
import Derived.Test.YtogknojocodhgaaPx9
import Derived.Test.YtogknojocodhgaaPx10
import Derived.Test.YtogknojocodhgaaPx13
import Derived.Test.YtogknojocodhgaaPx14
import Derived.Test.YtogknojocodhgaaPx5
namespace Go.Proofs.Ytogknojocodhgaa.P
open Go.RowKit Go.Proofs.YtogknojocodhgaaW.PrintWords Go.Proofs.YtogknojocodhgaaW.PrintLast Go.Proofs.YtogknojocodhgaaW.PrintMore
def pw (w : Int) : Int := 2 ^ w.toNat
theorem wr_eq (w n : Int) (h : 2 ≤ w ∧ w ≤ 8) : wrapR w n = (n + 2 ^ (w - 1).toNat) % pw w - 2 ^ (w - 1).toNat := by
  unfold wrapR shr shl pw
  rcases seven w h with rfl | rfl | rfl | rfl | rfl | rfl | rfl <;>
    simp [wrap64, IntKind.wrap, IntKind.bits, IntKind.signed] <;> omega
theorem lo_eq (w : Int) : lo w = -(2 ^ (w - 1).toNat) := rfl
theorem pw_two (w : Int) (h : 2 ≤ w ∧ w ≤ 8) : pw w = 2 * 2 ^ (w - 1).toNat := by
  unfold pw
  rcases seven w h with rfl | rfl | rfl | rfl | rfl | rfl | rfl <;> decide +kernel
theorem half_b (w : Int) (h : 2 ≤ w ∧ w ≤ 8) : 2 ≤ (2 : Int) ^ (w - 1).toNat ∧ (2 : Int) ^ (w - 1).toNat ≤ 128 := by
  rcases seven w h with rfl | rfl | rfl | rfl | rfl | rfl | rfl <;> decide +kernel
theorem wr_in (w n : Int) (h : 2 ≤ w ∧ w ≤ 8) : lo w ≤ wrapR w n ∧ wrapR w n ≤ hi w := by
  have h1 := pw_two w h
  have h2 := half_b w h
  rw [wr_eq w n h]
  unfold lo hi
  have h3 := Int.emod_nonneg (n + 2 ^ (w - 1).toNat) (show pw w ≠ 0 by omega)
  have h4 := Int.emod_lt_of_pos (n + 2 ^ (w - 1).toNat) (show 0 < pw w by omega)
  omega
theorem wr_inW (w n : Int) (h : 2 ≤ w ∧ w ≤ 8) : inW w (wrapR w n) = true := by
  have h1 := wr_in w n h
  unfold inW; rw [decide_eq_true h1.1, decide_eq_true h1.2]; rfl
theorem wr_mod (w n : Int) (h : 2 ≤ w ∧ w ≤ 8) : (wrapR w n - n) % pw w = 0 := by
  have h2 := half_b w h
  have h1 := pw_two w h
  rw [wr_eq w n h]
  have h3 := Int.emod_add_mul_ediv (n + 2 ^ (w - 1).toNat) (pw w)
  have : (n + 2 ^ (w - 1).toNat) % pw w - 2 ^ (w - 1).toNat - n = pw w * (-((n + 2 ^ (w - 1).toNat) / pw w)) := by
    rw [Int.mul_neg]; omega
  rw [this]; exact Int.mul_emod_right _ _
theorem wr_id (w n : Int) (h : 2 ≤ w ∧ w ≤ 8) (hn : lo w ≤ n ∧ n ≤ hi w) : wrapR w n = n := by
  have h1 := pw_two w h
  rw [wr_eq w n h]
  unfold lo hi at hn
  rw [Int.emod_eq_of_lt (by omega) (by omega)]; omega
theorem wr_cong (w m n : Int) (h : 2 ≤ w ∧ w ≤ 8) (e : (m - n) % pw w = 0) : wrapR w m = wrapR w n := by
  rw [wr_eq w m h, wr_eq w n h]
  have : (m + 2 ^ (w - 1).toNat) % pw w = (n + 2 ^ (w - 1).toNat) % pw w := by
    apply Int.emod_eq_emod_iff_emod_sub_eq_zero.mpr
    rw [show m + 2 ^ (w - 1).toNat - (n + 2 ^ (w - 1).toNat) = m - n from by omega]; exact e
  rw [this]
theorem wr_of (w m n : Int) (h : 2 ≤ w ∧ w ≤ 8) (hn : lo w ≤ n ∧ n ≤ hi w) (e : pw w ∣ (m - n)) : wrapR w m = n := by
  rw [wr_cong w m n h (Int.emod_eq_zero_of_dvd e), wr_id w n h hn]
theorem wr_dvd (w n : Int) (h : 2 ≤ w ∧ w ≤ 8) : ∃ k, wrapR w n = n + pw w * k := by
  obtain ⟨k, hk⟩ := Int.dvd_of_emod_eq_zero (wr_mod w n h)
  exact ⟨k, by omega⟩
theorem in_small (w n : Int) (h : 2 ≤ w ∧ w ≤ 8) (hn : lo w ≤ n ∧ n ≤ hi w) : -128 ≤ n ∧ n ≤ 127 := by
  have h1 := half_b w h
  unfold lo hi at hn
  omega
set_option maxRecDepth 100000 in
theorem bin_43 (w a b : Int) (h : 2 ≤ w ∧ w ≤ 8) (ha : inW w a = true) (hb : inW w b = true) : value_Binary.f w (⟨#[43]⟩ : ByteArray) a b = some (wrapR w (wrap64 (a + b)), 0, 0) := by
  unfold value_Binary.f; rw [if_pos (by decide)]
  unfold binR; rw [if_pos h, show opNo ⟨#[43]⟩ = 60 from by kernel_rfl, if_neg (by decide), show isLogic ⟨#[43]⟩ = false from by kernel_rfl, show isDiv ⟨#[43]⟩ = false from by kernel_rfl, show isArith ⟨#[43]⟩ = true from by kernel_rfl]
  simp [binOp, ha, hb, opVal]
set_option maxRecDepth 100000 in
theorem bin_45 (w a b : Int) (h : 2 ≤ w ∧ w ≤ 8) (ha : inW w a = true) (hb : inW w b = true) : value_Binary.f w (⟨#[45]⟩ : ByteArray) a b = some (wrapR w (wrap64 (a - b)), 0, 0) := by
  unfold value_Binary.f; rw [if_pos (by decide)]
  unfold binR; rw [if_pos h, show opNo ⟨#[45]⟩ = 61 from by kernel_rfl, if_neg (by decide), show isLogic ⟨#[45]⟩ = false from by kernel_rfl, show isDiv ⟨#[45]⟩ = false from by kernel_rfl, show isArith ⟨#[45]⟩ = true from by kernel_rfl]
  simp [binOp, ha, hb, opVal]
set_option maxRecDepth 100000 in
theorem bin_42 (w a b : Int) (h : 2 ≤ w ∧ w ≤ 8) (ha : inW w a = true) (hb : inW w b = true) : value_Binary.f w (⟨#[42]⟩ : ByteArray) a b = some (wrapR w (wrap64 (a * b)), 0, 0) := by
  unfold value_Binary.f; rw [if_pos (by decide)]
  unfold binR; rw [if_pos h, show opNo ⟨#[42]⟩ = 62 from by kernel_rfl, if_neg (by decide), show isLogic ⟨#[42]⟩ = false from by kernel_rfl, show isDiv ⟨#[42]⟩ = false from by kernel_rfl, show isArith ⟨#[42]⟩ = true from by kernel_rfl]
  simp [binOp, ha, hb, opVal]
set_option maxRecDepth 100000 in
theorem bin_47 (w a b : Int) (h : 2 ≤ w ∧ w ≤ 8) (ha : inW w a = true) (hb : inW w b = true) : value_Binary.f w (⟨#[47]⟩ : ByteArray) a b = some (if b = 0 then (0, 1, 0) else (wrapR w (wrap64 (Int.tdiv a b)), 0, 0)) := by
  unfold value_Binary.f; rw [if_pos (by decide)]
  unfold binR; rw [if_pos h, show opNo ⟨#[47]⟩ = 63 from by kernel_rfl, if_neg (by decide), show isLogic ⟨#[47]⟩ = false from by kernel_rfl, show isDiv ⟨#[47]⟩ = true from by kernel_rfl, show isArith ⟨#[47]⟩ = true from by kernel_rfl]
  simp [binOp, ha, hb, opVal]
set_option maxRecDepth 100000 in
theorem bin_37 (w a b : Int) (h : 2 ≤ w ∧ w ≤ 8) (ha : inW w a = true) (hb : inW w b = true) : value_Binary.f w (⟨#[37]⟩ : ByteArray) a b = some (if b = 0 then (0, 1, 0) else (wrapR w (Int.tmod a b), 0, 0)) := by
  unfold value_Binary.f; rw [if_pos (by decide)]
  unfold binR; rw [if_pos h, show opNo ⟨#[37]⟩ = 64 from by kernel_rfl, if_neg (by decide), show isLogic ⟨#[37]⟩ = false from by kernel_rfl, show isDiv ⟨#[37]⟩ = true from by kernel_rfl, show isArith ⟨#[37]⟩ = true from by kernel_rfl]
  simp [binOp, ha, hb, opVal]
set_option maxRecDepth 100000 in
theorem bin_60' (w a b : Int) (h : 2 ≤ w ∧ w ≤ 8) (ha : inW w a = true) (hb : inW w b = true) : value_Binary.f w (⟨#[60]⟩ : ByteArray) a b = some (if a < b then 1 else 0, 0, 0) := by
  unfold value_Binary.f; rw [if_pos (by decide)]
  unfold binR; rw [if_pos h, show opNo ⟨#[60]⟩ = 68 from by kernel_rfl, if_neg (by decide), show isLogic ⟨#[60]⟩ = false from by kernel_rfl, show isDiv ⟨#[60]⟩ = false from by kernel_rfl, show isArith ⟨#[60]⟩ = false from by kernel_rfl]
  simp [binOp, ha, hb, opVal]
theorem tmod_small (x y : Int) (hy : y ≠ 0) : mx (Int.tmod x y) (-(Int.tmod x y)) < mx y (-y) := by
  have h1 := Int.tmod_eq_emod (a := x) (b := y)
  have h2 := Int.emod_nonneg x hy
  have h3 := Int.emod_lt x hy
  have h4 : (y ∣ x) → x % y = 0 := fun h => Int.emod_eq_zero_of_dvd h
  have h5 : ¬ (y ∣ x) → x % y ≠ 0 := fun h e => h (Int.dvd_of_emod_eq_zero e)
  unfold mx
  split at h1
  · split <;> split <;> omega
  · rename_i hc
    have h6 := h5 (fun h => hc (.inr h))
    split <;> split <;> omega
theorem tmod_sign (x y : Int) (hy : y ≠ 0) : Int.tmod x y = 0 ∨ (Int.tmod x y < 0 ↔ x < 0) := by
  have h1 := Int.tmod_eq_emod (a := x) (b := y)
  have h2 := Int.emod_nonneg x hy
  have h3 := Int.emod_lt x hy
  have h4 : (y ∣ x) → x % y = 0 := fun h => Int.emod_eq_zero_of_dvd h
  split at h1
  · rename_i hc
    rcases hc with hc | hc
    · right; omega
    · left; have := h4 hc; omega
  · rename_i hc
    right
    have : ¬ (0 ≤ x) := fun h => hc (.inl h)
    omega
end Go.Proofs.Ytogknojocodhgaa.P
namespace Go.Proofs.Ytogknojocodhgaa.P
open Go.RowKit Go.Proofs.YtogknojocodhgaaW.PrintWords Go.Proofs.YtogknojocodhgaaW.PrintLast Go.Proofs.YtogknojocodhgaaW.PrintMore
theorem rWidth_eq (w : Int) (h : 2 ≤ w ∧ w ≤ 8) : assessorref11_Width.f w = some true := by
  unfold assessorref11_Width.f; rw [if_pos h.1, decide_eq_true h.2]
theorem rWidth_no (w : Int) (h : ¬ (2 ≤ w ∧ w ≤ 8)) : assessorref11_Width.f w = some false := by
  unfold assessorref11_Width.f
  by_cases h1 : w ≥ 2
  · rw [if_pos h1, decide_eq_false (by omega)]
  · rw [if_neg h1]
theorem rpow_ev (w : Int) (h : 2 ≤ w ∧ w ≤ 8) : Ev (fun k => assessorref11_power.f k w) (pw w) := by
  rcases seven w h with rfl | rfl | rfl | rfl | rfl | rfl | rfl <;> exact Ev.of (k := 12) (fun k => assessorref11_power.mono _ k) (by decide +kernel)
theorem rpow1_ev (w : Int) (h : 2 ≤ w ∧ w ≤ 8) : Ev (fun k => assessorref11_power.f k (wrap64 (w - 1))) (2 ^ (w - 1).toNat) := by
  rcases seven w h with rfl | rfl | rfl | rfl | rfl | rfl | rfl <;> exact Ev.of (k := 12) (fun k => assessorref11_power.mono _ k) (by decide +kernel)
theorem rLeast_ev (w : Int) (h : 2 ≤ w ∧ w ≤ 8) : Ev (fun k => assessorref11_Least.f k w) (lo w) := by
  unfold assessorref11_Least.f
  rw [rWidth_eq w h]
  refine ev_bs (f := fun k t => _) (ev_ifp rfl (Ev.bind (rpow1_ev w h) (ev_some ?_)))
  have := half_b w h; unfold wrap64 lo; omega
theorem rGreatest_ev (w : Int) (h : 2 ≤ w ∧ w ≤ 8) : Ev (fun k => assessorref11_Greatest.f k w) (hi w) := by
  unfold assessorref11_Greatest.f
  rw [rWidth_eq w h]
  refine ev_bs (f := fun k t => _) (ev_ifp rfl (Ev.bind (rpow1_ev w h) (ev_some ?_)))
  have := half_b w h; unfold wrap64 hi; omega
theorem rLeast_no (w : Int) (h : ¬ (2 ≤ w ∧ w ≤ 8)) : Ev (fun k => assessorref11_Least.f k w) 0 := by
  unfold assessorref11_Least.f
  rw [rWidth_no w h]
  exact ev_bs (f := fun k t => _) (ev_ifn (by simp) (ev_some rfl))
theorem rGreatest_no (w : Int) (h : ¬ (2 ≤ w ∧ w ≤ 8)) : Ev (fun k => assessorref11_Greatest.f k w) 0 := by
  unfold assessorref11_Greatest.f
  rw [rWidth_no w h]
  exact ev_bs (f := fun k t => _) (ev_ifn (by simp) (ev_some rfl))
theorem rWrap_no (w n : Int) (h : ¬ (2 ≤ w ∧ w ≤ 8)) : Ev (fun k => assessorref11_Wrap.f k w n) 0 := by
  unfold assessorref11_Wrap.f
  rw [rWidth_no w h]
  exact ev_bs (f := fun k t => _) (ev_ifn (by simp) (ev_some rfl))
theorem rWrap_ev (w n : Int) (h : 2 ≤ w ∧ w ≤ 8) : Ev (fun k => assessorref11_Wrap.f k w n) (wrapR w n) := by
  unfold assessorref11_Wrap.f
  have h1 := pw_two w h
  have h2 := half_b w h
  have h3 := Int.tmod_eq_emod (a := n) (b := pw w)
  have h4 := Int.emod_nonneg n (show pw w ≠ 0 by omega)
  have h5 := Int.emod_lt_of_pos n (show 0 < pw w by omega)
  have ht : -(pw w) < Int.tmod n (pw w) ∧ Int.tmod n (pw w) < pw w := by
    have h6 := tmod_small n (pw w) (by omega)
    unfold mx at h6; split at h6 <;> split at h6 <;> omega
  have e3 := Int.mul_tdiv_add_tmod n (pw w)
  rw [rWidth_eq w h]
  refine ev_bs (f := fun k t => _) (ev_ifp rfl (Ev.bind (rpow_ev w h) (ev_ifn (by omega) (Ev.bind (rLeast_ev w h) ?_))))
  generalize Int.tmod n (pw w) = r at *
  by_cases c1 : r < lo w
  · refine ev_ifp c1 (Ev.bind (rpow_ev w h) (ev_some ?_))
    have hr : lo w ≤ r + pw w ∧ r + pw w ≤ hi w := by unfold lo hi at *; omega
    rw [wr_of w n (r + pw w) h hr ⟨Int.tdiv n (pw w) - 1, by rw [Int.mul_sub]; omega⟩]
    unfold wrap64; omega
  · refine ev_ifn c1 (Ev.bind (rGreatest_ev w h) ?_)
    by_cases c2 : r > hi w
    · refine ev_ifp c2 (Ev.bind (rpow_ev w h) (ev_some ?_))
      have hr : lo w ≤ r - pw w ∧ r - pw w ≤ hi w := by unfold lo hi at *; omega
      rw [wr_of w n (r - pw w) h hr ⟨Int.tdiv n (pw w) + 1, by rw [Int.mul_add]; omega⟩]
      unfold wrap64; omega
    · refine ev_ifn c2 (ev_some ?_)
      exact (wr_of w n r h ⟨by omega, by omega⟩ ⟨Int.tdiv n (pw w), by omega⟩).symm
theorem rInt_ev (w a : Int) (h : 2 ≤ w ∧ w ≤ 8) : Ev (fun k => assessorref11_isInt.f k w a) (inW w a) := by
  unfold assessorref11_isInt.f inW
  refine Ev.bind (rLeast_ev w h) ?_
  by_cases c : a ≥ lo w
  · exact ev_ifp c (Ev.bind (rGreatest_ev w h) (ev_some (by rw [decide_eq_true (show lo w ≤ a from c), Bool.true_and])))
  · exact ev_ifn c (ev_some (by rw [decide_eq_false (show ¬ lo w ≤ a from c), Bool.false_and]))
theorem rBit_eq (a : Int) : assessorref11_isBit.f a = some (bitB a) := by
  unfold assessorref11_isBit.f bitB
  by_cases h : a = 0
  · rw [if_pos h, decide_eq_true h]; rfl
  · rw [if_neg h, decide_eq_false h]; rfl
theorem bit_in (w a : Int) (h : 2 ≤ w ∧ w ≤ 8) (hb : bitB a = true) : inW w a = true := by
  have h2 := half_b w h
  have : a = 0 ∨ a = 1 := by simpa [bitB] using hb
  unfold inW lo hi
  rw [decide_eq_true (show -(2 ^ (w - 1).toNat) ≤ a by omega), decide_eq_true (show a ≤ 2 ^ (w - 1).toNat - 1 by omega)]; rfl
theorem wrap_no (w n : Int) (h : ¬ (2 ≤ w ∧ w ≤ 8)) : value_Wrap.f w n = some 0 := by
  unfold value_Wrap.f; rw [isWidth_no w h]; rfl
theorem least_no (w : Int) (h : ¬ (2 ≤ w ∧ w ≤ 8)) : value_Least.f w = some 0 := by
  unfold value_Least.f; rw [isWidth_no w h]; rfl
theorem greatest_no (w : Int) (h : ¬ (2 ≤ w ∧ w ≤ 8)) : value_Greatest.f w = some 0 := by
  unfold value_Greatest.f; rw [isWidth_no w h]; rfl
theorem has_from (l : List ByteArray) (s : ByteArray) (hl : l.length ≤ 1000000) : ∀ (m i : Nat), i + m = l.length → Ev (fun k => assessorref02_Has.l0 k l s (i : Int)) ((l.drop i).any fun y => decide (y.toList = s.toList))
  | 0, i, h => Ev.step (fun k => assessorref02_Has.l0.eq_2 l s i k) (ev_ifn (by omega) (ev_some (by rw [List.drop_eq_nil_of_le (by omega)]; simp)))
  | m + 1, i, h => by
    refine Ev.step (fun k => assessorref02_Has.l0.eq_2 l s i k) (ev_ifp (by omega) (ev_ifp (by omega) ?_))
    have hi : i < l.length := by omega
    have hd : l.drop i = l[i] :: l.drop (i + 1) := List.drop_eq_getElem_cons hi
    have hr : rdOf ByteArray.empty l (i : Int) = l[i] := by simp [rdOf, hi]
    rw [hr, hd, List.any_cons]
    by_cases c : l[i].toList = s.toList
    · exact ev_ifp c (ev_some (by rw [decide_eq_true c, Bool.true_or]))
    · refine ev_ifn c ?_
      rw [w1 (by omega) (by omega), decide_eq_false c, Bool.false_or]
      exact has_from l s hl m (i + 1) (by omega)
end Go.Proofs.Ytogknojocodhgaa.P
namespace Go.Proofs.Ytogknojocodhgaa.P
open Go.RowKit Go.Proofs.YtogknojocodhgaaW.PrintWords Go.Proofs.YtogknojocodhgaaW.PrintLast Go.Proofs.YtogknojocodhgaaW.PrintMore
set_option linter.unusedVariables false
set_option linter.unusedSimpArgs false
def thirteen : List ByteArray := [(⟨#[43]⟩ : ByteArray), (⟨#[45]⟩ : ByteArray), (⟨#[42]⟩ : ByteArray), (⟨#[47]⟩ : ByteArray), (⟨#[37]⟩ : ByteArray), (⟨#[61, 61]⟩ : ByteArray), (⟨#[33, 61]⟩ : ByteArray), (⟨#[60]⟩ : ByteArray), (⟨#[60, 61]⟩ : ByteArray), (⟨#[62]⟩ : ByteArray), (⟨#[62, 61]⟩ : ByteArray), (⟨#[97, 110, 100]⟩ : ByteArray), (⟨#[111, 114]⟩ : ByteArray)]
theorem bit_is (c : Bool) : assessorref11_bit.f c = some (if c = true then 1 else 0) := by cases c <;> rfl
theorem tmod_in' (w x y : Int) (h0 : y ≠ 0) (hx : inW w x = true) (hy : inW w y = true) (h : 2 ≤ w ∧ w ≤ 8) : wrapR w (Int.tmod x y) = Int.tmod x y := by
  have h1 := tmod_small x y h0
  have hx : lo w ≤ x ∧ x ≤ hi w := by simpa [inW] using hx
  have hy : lo w ≤ y ∧ y ≤ hi w := by simpa [inW] using hy
  apply wr_id w _ h
  unfold lo hi at *
  unfold mx at h1
  split at h1 <;> split at h1 <;> omega
set_option maxRecDepth 100000 in
theorem ra_60 (w a b : Int) (h : 2 ≤ w ∧ w ≤ 8) : Ev (fun k => assessorref11_Binary.f k w (⟨#[43]⟩ : ByteArray) a b) (binR w (⟨#[43]⟩ : ByteArray) a b) := by
  have tl : (⟨#[43]⟩ : ByteArray).toList = [43] := by kernel_rfl
  have hb : binR w (⟨#[43]⟩ : ByteArray) a b = binOp 60 false false true w a b := by
    unfold binR
    rw [if_pos h, show opNo (⟨#[43]⟩ : ByteArray) = 60 from by kernel_rfl, if_neg (by decide), show isLogic (⟨#[43]⟩ : ByteArray) = false from by kernel_rfl, show isDiv (⟨#[43]⟩ : ByteArray) = false from by kernel_rfl, show isArith (⟨#[43]⟩ : ByteArray) = true from by kernel_rfl]
    rfl
  rw [hb]; clear hb
  have hhas : Ev (fun k => assessorref02_Has.f k thirteen (⟨#[43]⟩ : ByteArray)) true := Ev.of (k := 20) (fun k => assessorref02_Has.mono _ _ k) (by decide +kernel)
  unfold assessorref11_Binary.f
  rw [rWidth_eq w h]
  refine ev_bs (f := fun k t => _) (ev_ifp rfl (Ev.bind hhas (ev_ifp rfl ?_)))
  generalize (⟨#[43]⟩ : ByteArray) = s at tl
  refine ev_ifn (by rw [tl]; decide) ?_
  rw [show (s.toList == ([111, 114] : List UInt8)) = false from by rw [tl]; decide]
  refine Ev.step (fun k => assessorref11_Binary.j0.eq_2 w s a b _ k) (ev_ifn (by simp) ?_)
  refine Ev.bind (rInt_ev w a h) ?_
  cases iA : inW w a
  · exact ev_ifn (by simp) (Ev.step (fun k => assessorref11_Binary.j1.eq_2 w s a b _ k) (ev_ifp rfl (ev_some (by simp [binOp, iA]))))
  refine ev_ifp rfl (Ev.bind (rInt_ev w b h) ?_)
  cases iB : inW w b
  · exact ev_ifn (by simp) (Ev.step (fun k => assessorref11_Binary.j1.eq_2 w s a b _ k) (ev_ifp rfl (ev_some (by simp [binOp, iA, iB]))))
  refine ev_ifp rfl ?_
  refine Ev.step (fun k => assessorref11_Binary.j1.eq_2 w s a b _ k) (ev_ifn (by simp) ?_)
  refine ev_ifn (by rw [tl]; decide) (ev_ifn (by rw [tl]; decide) ?_)
  refine Ev.step (fun k => assessorref11_Binary.j2.eq_2 w s a b _ k) (ev_ifn (by simp) ?_)
  refine ev_ifp tl ?_
  refine Ev.bind (rWrap_ev w _ h) (ev_some ?_)
  simp [binOp, iA, iB, opVal]
set_option maxRecDepth 100000 in
theorem ra_61 (w a b : Int) (h : 2 ≤ w ∧ w ≤ 8) : Ev (fun k => assessorref11_Binary.f k w (⟨#[45]⟩ : ByteArray) a b) (binR w (⟨#[45]⟩ : ByteArray) a b) := by
  have tl : (⟨#[45]⟩ : ByteArray).toList = [45] := by kernel_rfl
  have hb : binR w (⟨#[45]⟩ : ByteArray) a b = binOp 61 false false true w a b := by
    unfold binR
    rw [if_pos h, show opNo (⟨#[45]⟩ : ByteArray) = 61 from by kernel_rfl, if_neg (by decide), show isLogic (⟨#[45]⟩ : ByteArray) = false from by kernel_rfl, show isDiv (⟨#[45]⟩ : ByteArray) = false from by kernel_rfl, show isArith (⟨#[45]⟩ : ByteArray) = true from by kernel_rfl]
    rfl
  rw [hb]; clear hb
  have hhas : Ev (fun k => assessorref02_Has.f k thirteen (⟨#[45]⟩ : ByteArray)) true := Ev.of (k := 20) (fun k => assessorref02_Has.mono _ _ k) (by decide +kernel)
  unfold assessorref11_Binary.f
  rw [rWidth_eq w h]
  refine ev_bs (f := fun k t => _) (ev_ifp rfl (Ev.bind hhas (ev_ifp rfl ?_)))
  generalize (⟨#[45]⟩ : ByteArray) = s at tl
  refine ev_ifn (by rw [tl]; decide) ?_
  rw [show (s.toList == ([111, 114] : List UInt8)) = false from by rw [tl]; decide]
  refine Ev.step (fun k => assessorref11_Binary.j0.eq_2 w s a b _ k) (ev_ifn (by simp) ?_)
  refine Ev.bind (rInt_ev w a h) ?_
  cases iA : inW w a
  · exact ev_ifn (by simp) (Ev.step (fun k => assessorref11_Binary.j1.eq_2 w s a b _ k) (ev_ifp rfl (ev_some (by simp [binOp, iA]))))
  refine ev_ifp rfl (Ev.bind (rInt_ev w b h) ?_)
  cases iB : inW w b
  · exact ev_ifn (by simp) (Ev.step (fun k => assessorref11_Binary.j1.eq_2 w s a b _ k) (ev_ifp rfl (ev_some (by simp [binOp, iA, iB]))))
  refine ev_ifp rfl ?_
  refine Ev.step (fun k => assessorref11_Binary.j1.eq_2 w s a b _ k) (ev_ifn (by simp) ?_)
  refine ev_ifn (by rw [tl]; decide) (ev_ifn (by rw [tl]; decide) ?_)
  refine Ev.step (fun k => assessorref11_Binary.j2.eq_2 w s a b _ k) (ev_ifn (by simp) ?_)
  refine ev_ifn (by rw [tl]; decide) ?_
  refine ev_ifp tl ?_
  refine Ev.bind (rWrap_ev w _ h) (ev_some ?_)
  simp [binOp, iA, iB, opVal]
set_option maxRecDepth 100000 in
theorem ra_62 (w a b : Int) (h : 2 ≤ w ∧ w ≤ 8) : Ev (fun k => assessorref11_Binary.f k w (⟨#[42]⟩ : ByteArray) a b) (binR w (⟨#[42]⟩ : ByteArray) a b) := by
  have tl : (⟨#[42]⟩ : ByteArray).toList = [42] := by kernel_rfl
  have hb : binR w (⟨#[42]⟩ : ByteArray) a b = binOp 62 false false true w a b := by
    unfold binR
    rw [if_pos h, show opNo (⟨#[42]⟩ : ByteArray) = 62 from by kernel_rfl, if_neg (by decide), show isLogic (⟨#[42]⟩ : ByteArray) = false from by kernel_rfl, show isDiv (⟨#[42]⟩ : ByteArray) = false from by kernel_rfl, show isArith (⟨#[42]⟩ : ByteArray) = true from by kernel_rfl]
    rfl
  rw [hb]; clear hb
  have hhas : Ev (fun k => assessorref02_Has.f k thirteen (⟨#[42]⟩ : ByteArray)) true := Ev.of (k := 20) (fun k => assessorref02_Has.mono _ _ k) (by decide +kernel)
  unfold assessorref11_Binary.f
  rw [rWidth_eq w h]
  refine ev_bs (f := fun k t => _) (ev_ifp rfl (Ev.bind hhas (ev_ifp rfl ?_)))
  generalize (⟨#[42]⟩ : ByteArray) = s at tl
  refine ev_ifn (by rw [tl]; decide) ?_
  rw [show (s.toList == ([111, 114] : List UInt8)) = false from by rw [tl]; decide]
  refine Ev.step (fun k => assessorref11_Binary.j0.eq_2 w s a b _ k) (ev_ifn (by simp) ?_)
  refine Ev.bind (rInt_ev w a h) ?_
  cases iA : inW w a
  · exact ev_ifn (by simp) (Ev.step (fun k => assessorref11_Binary.j1.eq_2 w s a b _ k) (ev_ifp rfl (ev_some (by simp [binOp, iA]))))
  refine ev_ifp rfl (Ev.bind (rInt_ev w b h) ?_)
  cases iB : inW w b
  · exact ev_ifn (by simp) (Ev.step (fun k => assessorref11_Binary.j1.eq_2 w s a b _ k) (ev_ifp rfl (ev_some (by simp [binOp, iA, iB]))))
  refine ev_ifp rfl ?_
  refine Ev.step (fun k => assessorref11_Binary.j1.eq_2 w s a b _ k) (ev_ifn (by simp) ?_)
  refine ev_ifn (by rw [tl]; decide) (ev_ifn (by rw [tl]; decide) ?_)
  refine Ev.step (fun k => assessorref11_Binary.j2.eq_2 w s a b _ k) (ev_ifn (by simp) ?_)
  refine ev_ifn (by rw [tl]; decide) ?_
  refine ev_ifn (by rw [tl]; decide) ?_
  refine ev_ifp tl ?_
  refine Ev.bind (rWrap_ev w _ h) (ev_some ?_)
  simp [binOp, iA, iB, opVal]
set_option maxRecDepth 100000 in
theorem ra_63 (w a b : Int) (h : 2 ≤ w ∧ w ≤ 8) : Ev (fun k => assessorref11_Binary.f k w (⟨#[47]⟩ : ByteArray) a b) (binR w (⟨#[47]⟩ : ByteArray) a b) := by
  have tl : (⟨#[47]⟩ : ByteArray).toList = [47] := by kernel_rfl
  have hb : binR w (⟨#[47]⟩ : ByteArray) a b = binOp 63 false true true w a b := by
    unfold binR
    rw [if_pos h, show opNo (⟨#[47]⟩ : ByteArray) = 63 from by kernel_rfl, if_neg (by decide), show isLogic (⟨#[47]⟩ : ByteArray) = false from by kernel_rfl, show isDiv (⟨#[47]⟩ : ByteArray) = true from by kernel_rfl, show isArith (⟨#[47]⟩ : ByteArray) = true from by kernel_rfl]
    rfl
  rw [hb]; clear hb
  have hhas : Ev (fun k => assessorref02_Has.f k thirteen (⟨#[47]⟩ : ByteArray)) true := Ev.of (k := 20) (fun k => assessorref02_Has.mono _ _ k) (by decide +kernel)
  unfold assessorref11_Binary.f
  rw [rWidth_eq w h]
  refine ev_bs (f := fun k t => _) (ev_ifp rfl (Ev.bind hhas (ev_ifp rfl ?_)))
  generalize (⟨#[47]⟩ : ByteArray) = s at tl
  refine ev_ifn (by rw [tl]; decide) ?_
  rw [show (s.toList == ([111, 114] : List UInt8)) = false from by rw [tl]; decide]
  refine Ev.step (fun k => assessorref11_Binary.j0.eq_2 w s a b _ k) (ev_ifn (by simp) ?_)
  refine Ev.bind (rInt_ev w a h) ?_
  cases iA : inW w a
  · exact ev_ifn (by simp) (Ev.step (fun k => assessorref11_Binary.j1.eq_2 w s a b _ k) (ev_ifp rfl (ev_some (by simp [binOp, iA]))))
  refine ev_ifp rfl (Ev.bind (rInt_ev w b h) ?_)
  cases iB : inW w b
  · exact ev_ifn (by simp) (Ev.step (fun k => assessorref11_Binary.j1.eq_2 w s a b _ k) (ev_ifp rfl (ev_some (by simp [binOp, iA, iB]))))
  refine ev_ifp rfl ?_
  refine Ev.step (fun k => assessorref11_Binary.j1.eq_2 w s a b _ k) (ev_ifn (by simp) ?_)
  refine ev_ifp tl ?_
  by_cases z : b = 0
  · subst z
    exact Ev.step (fun k => assessorref11_Binary.j2.eq_2 w s a 0 _ k) (ev_ifp rfl (ev_some (by simp [binOp, iA, iB])))
  refine Ev.step (fun k => assessorref11_Binary.j2.eq_2 w s a b _ k) (ev_ifn (by simp [z]) ?_)
  refine ev_ifn (by rw [tl]; decide) ?_
  refine ev_ifn (by rw [tl]; decide) ?_
  refine ev_ifn (by rw [tl]; decide) ?_
  refine ev_ifp tl ?_
  refine ev_ifn z (Ev.bind (rWrap_ev w _ h) (ev_some ?_))
  simp [binOp, iA, iB, opVal, z]
set_option maxRecDepth 100000 in
theorem ra_64 (w a b : Int) (h : 2 ≤ w ∧ w ≤ 8) : Ev (fun k => assessorref11_Binary.f k w (⟨#[37]⟩ : ByteArray) a b) (binR w (⟨#[37]⟩ : ByteArray) a b) := by
  have tl : (⟨#[37]⟩ : ByteArray).toList = [37] := by kernel_rfl
  have hb : binR w (⟨#[37]⟩ : ByteArray) a b = binOp 64 false true true w a b := by
    unfold binR
    rw [if_pos h, show opNo (⟨#[37]⟩ : ByteArray) = 64 from by kernel_rfl, if_neg (by decide), show isLogic (⟨#[37]⟩ : ByteArray) = false from by kernel_rfl, show isDiv (⟨#[37]⟩ : ByteArray) = true from by kernel_rfl, show isArith (⟨#[37]⟩ : ByteArray) = true from by kernel_rfl]
    rfl
  rw [hb]; clear hb
  have hhas : Ev (fun k => assessorref02_Has.f k thirteen (⟨#[37]⟩ : ByteArray)) true := Ev.of (k := 20) (fun k => assessorref02_Has.mono _ _ k) (by decide +kernel)
  unfold assessorref11_Binary.f
  rw [rWidth_eq w h]
  refine ev_bs (f := fun k t => _) (ev_ifp rfl (Ev.bind hhas (ev_ifp rfl ?_)))
  generalize (⟨#[37]⟩ : ByteArray) = s at tl
  refine ev_ifn (by rw [tl]; decide) ?_
  rw [show (s.toList == ([111, 114] : List UInt8)) = false from by rw [tl]; decide]
  refine Ev.step (fun k => assessorref11_Binary.j0.eq_2 w s a b _ k) (ev_ifn (by simp) ?_)
  refine Ev.bind (rInt_ev w a h) ?_
  cases iA : inW w a
  · exact ev_ifn (by simp) (Ev.step (fun k => assessorref11_Binary.j1.eq_2 w s a b _ k) (ev_ifp rfl (ev_some (by simp [binOp, iA]))))
  refine ev_ifp rfl (Ev.bind (rInt_ev w b h) ?_)
  cases iB : inW w b
  · exact ev_ifn (by simp) (Ev.step (fun k => assessorref11_Binary.j1.eq_2 w s a b _ k) (ev_ifp rfl (ev_some (by simp [binOp, iA, iB]))))
  refine ev_ifp rfl ?_
  refine Ev.step (fun k => assessorref11_Binary.j1.eq_2 w s a b _ k) (ev_ifn (by simp) ?_)
  refine ev_ifn (by rw [tl]; decide) (ev_ifp tl ?_)
  by_cases z : b = 0
  · subst z
    exact Ev.step (fun k => assessorref11_Binary.j2.eq_2 w s a 0 _ k) (ev_ifp rfl (ev_some (by simp [binOp, iA, iB])))
  refine Ev.step (fun k => assessorref11_Binary.j2.eq_2 w s a b _ k) (ev_ifn (by simp [z]) ?_)
  refine ev_ifn (by rw [tl]; decide) ?_
  refine ev_ifn (by rw [tl]; decide) ?_
  refine ev_ifn (by rw [tl]; decide) ?_
  refine ev_ifn (by rw [tl]; decide) ?_
  refine ev_ifp tl ?_
  refine ev_ifn z (ev_some ?_)
  simp [binOp, iA, iB, opVal, z, tmod_in' w a b z iA iB h]
set_option maxRecDepth 100000 in
theorem ra_65 (w a b : Int) (h : 2 ≤ w ∧ w ≤ 8) : Ev (fun k => assessorref11_Binary.f k w (⟨#[61, 61]⟩ : ByteArray) a b) (binR w (⟨#[61, 61]⟩ : ByteArray) a b) := by
  have tl : (⟨#[61, 61]⟩ : ByteArray).toList = [61, 61] := by kernel_rfl
  have hb : binR w (⟨#[61, 61]⟩ : ByteArray) a b = binOp 65 false false false w a b := by
    unfold binR
    rw [if_pos h, show opNo (⟨#[61, 61]⟩ : ByteArray) = 65 from by kernel_rfl, if_neg (by decide), show isLogic (⟨#[61, 61]⟩ : ByteArray) = false from by kernel_rfl, show isDiv (⟨#[61, 61]⟩ : ByteArray) = false from by kernel_rfl, show isArith (⟨#[61, 61]⟩ : ByteArray) = false from by kernel_rfl]
    rfl
  rw [hb]; clear hb
  have hhas : Ev (fun k => assessorref02_Has.f k thirteen (⟨#[61, 61]⟩ : ByteArray)) true := Ev.of (k := 20) (fun k => assessorref02_Has.mono _ _ k) (by decide +kernel)
  unfold assessorref11_Binary.f
  rw [rWidth_eq w h]
  refine ev_bs (f := fun k t => _) (ev_ifp rfl (Ev.bind hhas (ev_ifp rfl ?_)))
  generalize (⟨#[61, 61]⟩ : ByteArray) = s at tl
  refine ev_ifn (by rw [tl]; decide) ?_
  rw [show (s.toList == ([111, 114] : List UInt8)) = false from by rw [tl]; decide]
  refine Ev.step (fun k => assessorref11_Binary.j0.eq_2 w s a b _ k) (ev_ifn (by simp) ?_)
  refine Ev.bind (rInt_ev w a h) ?_
  cases iA : inW w a
  · exact ev_ifn (by simp) (Ev.step (fun k => assessorref11_Binary.j1.eq_2 w s a b _ k) (ev_ifp rfl (ev_some (by simp [binOp, iA]))))
  refine ev_ifp rfl (Ev.bind (rInt_ev w b h) ?_)
  cases iB : inW w b
  · exact ev_ifn (by simp) (Ev.step (fun k => assessorref11_Binary.j1.eq_2 w s a b _ k) (ev_ifp rfl (ev_some (by simp [binOp, iA, iB]))))
  refine ev_ifp rfl ?_
  refine Ev.step (fun k => assessorref11_Binary.j1.eq_2 w s a b _ k) (ev_ifn (by simp) ?_)
  refine ev_ifn (by rw [tl]; decide) (ev_ifn (by rw [tl]; decide) ?_)
  refine Ev.step (fun k => assessorref11_Binary.j2.eq_2 w s a b _ k) (ev_ifn (by simp) ?_)
  refine ev_ifn (by rw [tl]; decide) ?_
  refine ev_ifn (by rw [tl]; decide) ?_
  refine ev_ifn (by rw [tl]; decide) ?_
  refine ev_ifn (by rw [tl]; decide) ?_
  refine ev_ifn (by rw [tl]; decide) ?_
  refine ev_ifp tl ?_
  rw [bit_is]
  refine ev_bs (f := fun k t => _) (ev_some ?_)
  by_cases c : a = b <;> simp [binOp, iA, iB, opVal, c]
set_option maxRecDepth 100000 in
theorem ra_67 (w a b : Int) (h : 2 ≤ w ∧ w ≤ 8) : Ev (fun k => assessorref11_Binary.f k w (⟨#[33, 61]⟩ : ByteArray) a b) (binR w (⟨#[33, 61]⟩ : ByteArray) a b) := by
  have tl : (⟨#[33, 61]⟩ : ByteArray).toList = [33, 61] := by kernel_rfl
  have hb : binR w (⟨#[33, 61]⟩ : ByteArray) a b = binOp 67 false false false w a b := by
    unfold binR
    rw [if_pos h, show opNo (⟨#[33, 61]⟩ : ByteArray) = 67 from by kernel_rfl, if_neg (by decide), show isLogic (⟨#[33, 61]⟩ : ByteArray) = false from by kernel_rfl, show isDiv (⟨#[33, 61]⟩ : ByteArray) = false from by kernel_rfl, show isArith (⟨#[33, 61]⟩ : ByteArray) = false from by kernel_rfl]
    rfl
  rw [hb]; clear hb
  have hhas : Ev (fun k => assessorref02_Has.f k thirteen (⟨#[33, 61]⟩ : ByteArray)) true := Ev.of (k := 20) (fun k => assessorref02_Has.mono _ _ k) (by decide +kernel)
  unfold assessorref11_Binary.f
  rw [rWidth_eq w h]
  refine ev_bs (f := fun k t => _) (ev_ifp rfl (Ev.bind hhas (ev_ifp rfl ?_)))
  generalize (⟨#[33, 61]⟩ : ByteArray) = s at tl
  refine ev_ifn (by rw [tl]; decide) ?_
  rw [show (s.toList == ([111, 114] : List UInt8)) = false from by rw [tl]; decide]
  refine Ev.step (fun k => assessorref11_Binary.j0.eq_2 w s a b _ k) (ev_ifn (by simp) ?_)
  refine Ev.bind (rInt_ev w a h) ?_
  cases iA : inW w a
  · exact ev_ifn (by simp) (Ev.step (fun k => assessorref11_Binary.j1.eq_2 w s a b _ k) (ev_ifp rfl (ev_some (by simp [binOp, iA]))))
  refine ev_ifp rfl (Ev.bind (rInt_ev w b h) ?_)
  cases iB : inW w b
  · exact ev_ifn (by simp) (Ev.step (fun k => assessorref11_Binary.j1.eq_2 w s a b _ k) (ev_ifp rfl (ev_some (by simp [binOp, iA, iB]))))
  refine ev_ifp rfl ?_
  refine Ev.step (fun k => assessorref11_Binary.j1.eq_2 w s a b _ k) (ev_ifn (by simp) ?_)
  refine ev_ifn (by rw [tl]; decide) (ev_ifn (by rw [tl]; decide) ?_)
  refine Ev.step (fun k => assessorref11_Binary.j2.eq_2 w s a b _ k) (ev_ifn (by simp) ?_)
  refine ev_ifn (by rw [tl]; decide) ?_
  refine ev_ifn (by rw [tl]; decide) ?_
  refine ev_ifn (by rw [tl]; decide) ?_
  refine ev_ifn (by rw [tl]; decide) ?_
  refine ev_ifn (by rw [tl]; decide) ?_
  refine ev_ifn (by rw [tl]; decide) ?_
  refine ev_ifp tl ?_
  rw [bit_is]
  refine ev_bs (f := fun k t => _) (ev_some ?_)
  by_cases c : a = b <;> simp [binOp, iA, iB, opVal, c]
set_option maxRecDepth 100000 in
theorem ra_68 (w a b : Int) (h : 2 ≤ w ∧ w ≤ 8) : Ev (fun k => assessorref11_Binary.f k w (⟨#[60]⟩ : ByteArray) a b) (binR w (⟨#[60]⟩ : ByteArray) a b) := by
  have tl : (⟨#[60]⟩ : ByteArray).toList = [60] := by kernel_rfl
  have hb : binR w (⟨#[60]⟩ : ByteArray) a b = binOp 68 false false false w a b := by
    unfold binR
    rw [if_pos h, show opNo (⟨#[60]⟩ : ByteArray) = 68 from by kernel_rfl, if_neg (by decide), show isLogic (⟨#[60]⟩ : ByteArray) = false from by kernel_rfl, show isDiv (⟨#[60]⟩ : ByteArray) = false from by kernel_rfl, show isArith (⟨#[60]⟩ : ByteArray) = false from by kernel_rfl]
    rfl
  rw [hb]; clear hb
  have hhas : Ev (fun k => assessorref02_Has.f k thirteen (⟨#[60]⟩ : ByteArray)) true := Ev.of (k := 20) (fun k => assessorref02_Has.mono _ _ k) (by decide +kernel)
  unfold assessorref11_Binary.f
  rw [rWidth_eq w h]
  refine ev_bs (f := fun k t => _) (ev_ifp rfl (Ev.bind hhas (ev_ifp rfl ?_)))
  generalize (⟨#[60]⟩ : ByteArray) = s at tl
  refine ev_ifn (by rw [tl]; decide) ?_
  rw [show (s.toList == ([111, 114] : List UInt8)) = false from by rw [tl]; decide]
  refine Ev.step (fun k => assessorref11_Binary.j0.eq_2 w s a b _ k) (ev_ifn (by simp) ?_)
  refine Ev.bind (rInt_ev w a h) ?_
  cases iA : inW w a
  · exact ev_ifn (by simp) (Ev.step (fun k => assessorref11_Binary.j1.eq_2 w s a b _ k) (ev_ifp rfl (ev_some (by simp [binOp, iA]))))
  refine ev_ifp rfl (Ev.bind (rInt_ev w b h) ?_)
  cases iB : inW w b
  · exact ev_ifn (by simp) (Ev.step (fun k => assessorref11_Binary.j1.eq_2 w s a b _ k) (ev_ifp rfl (ev_some (by simp [binOp, iA, iB]))))
  refine ev_ifp rfl ?_
  refine Ev.step (fun k => assessorref11_Binary.j1.eq_2 w s a b _ k) (ev_ifn (by simp) ?_)
  refine ev_ifn (by rw [tl]; decide) (ev_ifn (by rw [tl]; decide) ?_)
  refine Ev.step (fun k => assessorref11_Binary.j2.eq_2 w s a b _ k) (ev_ifn (by simp) ?_)
  refine ev_ifn (by rw [tl]; decide) ?_
  refine ev_ifn (by rw [tl]; decide) ?_
  refine ev_ifn (by rw [tl]; decide) ?_
  refine ev_ifn (by rw [tl]; decide) ?_
  refine ev_ifn (by rw [tl]; decide) ?_
  refine ev_ifn (by rw [tl]; decide) ?_
  refine ev_ifn (by rw [tl]; decide) ?_
  refine ev_ifp tl ?_
  rw [bit_is]
  refine ev_bs (f := fun k t => _) (ev_some ?_)
  by_cases c : a < b <;> simp [binOp, iA, iB, opVal, c]
set_option maxRecDepth 100000 in
theorem ra_69 (w a b : Int) (h : 2 ≤ w ∧ w ≤ 8) : Ev (fun k => assessorref11_Binary.f k w (⟨#[60, 61]⟩ : ByteArray) a b) (binR w (⟨#[60, 61]⟩ : ByteArray) a b) := by
  have tl : (⟨#[60, 61]⟩ : ByteArray).toList = [60, 61] := by kernel_rfl
  have hb : binR w (⟨#[60, 61]⟩ : ByteArray) a b = binOp 69 false false false w a b := by
    unfold binR
    rw [if_pos h, show opNo (⟨#[60, 61]⟩ : ByteArray) = 69 from by kernel_rfl, if_neg (by decide), show isLogic (⟨#[60, 61]⟩ : ByteArray) = false from by kernel_rfl, show isDiv (⟨#[60, 61]⟩ : ByteArray) = false from by kernel_rfl, show isArith (⟨#[60, 61]⟩ : ByteArray) = false from by kernel_rfl]
    rfl
  rw [hb]; clear hb
  have hhas : Ev (fun k => assessorref02_Has.f k thirteen (⟨#[60, 61]⟩ : ByteArray)) true := Ev.of (k := 20) (fun k => assessorref02_Has.mono _ _ k) (by decide +kernel)
  unfold assessorref11_Binary.f
  rw [rWidth_eq w h]
  refine ev_bs (f := fun k t => _) (ev_ifp rfl (Ev.bind hhas (ev_ifp rfl ?_)))
  generalize (⟨#[60, 61]⟩ : ByteArray) = s at tl
  refine ev_ifn (by rw [tl]; decide) ?_
  rw [show (s.toList == ([111, 114] : List UInt8)) = false from by rw [tl]; decide]
  refine Ev.step (fun k => assessorref11_Binary.j0.eq_2 w s a b _ k) (ev_ifn (by simp) ?_)
  refine Ev.bind (rInt_ev w a h) ?_
  cases iA : inW w a
  · exact ev_ifn (by simp) (Ev.step (fun k => assessorref11_Binary.j1.eq_2 w s a b _ k) (ev_ifp rfl (ev_some (by simp [binOp, iA]))))
  refine ev_ifp rfl (Ev.bind (rInt_ev w b h) ?_)
  cases iB : inW w b
  · exact ev_ifn (by simp) (Ev.step (fun k => assessorref11_Binary.j1.eq_2 w s a b _ k) (ev_ifp rfl (ev_some (by simp [binOp, iA, iB]))))
  refine ev_ifp rfl ?_
  refine Ev.step (fun k => assessorref11_Binary.j1.eq_2 w s a b _ k) (ev_ifn (by simp) ?_)
  refine ev_ifn (by rw [tl]; decide) (ev_ifn (by rw [tl]; decide) ?_)
  refine Ev.step (fun k => assessorref11_Binary.j2.eq_2 w s a b _ k) (ev_ifn (by simp) ?_)
  refine ev_ifn (by rw [tl]; decide) ?_
  refine ev_ifn (by rw [tl]; decide) ?_
  refine ev_ifn (by rw [tl]; decide) ?_
  refine ev_ifn (by rw [tl]; decide) ?_
  refine ev_ifn (by rw [tl]; decide) ?_
  refine ev_ifn (by rw [tl]; decide) ?_
  refine ev_ifn (by rw [tl]; decide) ?_
  refine ev_ifn (by rw [tl]; decide) ?_
  refine ev_ifp tl ?_
  rw [bit_is]
  refine ev_bs (f := fun k t => _) (ev_some ?_)
  by_cases c : a ≤ b <;> simp [binOp, iA, iB, opVal, c]
set_option maxRecDepth 100000 in
theorem ra_70 (w a b : Int) (h : 2 ≤ w ∧ w ≤ 8) : Ev (fun k => assessorref11_Binary.f k w (⟨#[62]⟩ : ByteArray) a b) (binR w (⟨#[62]⟩ : ByteArray) a b) := by
  have tl : (⟨#[62]⟩ : ByteArray).toList = [62] := by kernel_rfl
  have hb : binR w (⟨#[62]⟩ : ByteArray) a b = binOp 70 false false false w a b := by
    unfold binR
    rw [if_pos h, show opNo (⟨#[62]⟩ : ByteArray) = 70 from by kernel_rfl, if_neg (by decide), show isLogic (⟨#[62]⟩ : ByteArray) = false from by kernel_rfl, show isDiv (⟨#[62]⟩ : ByteArray) = false from by kernel_rfl, show isArith (⟨#[62]⟩ : ByteArray) = false from by kernel_rfl]
    rfl
  rw [hb]; clear hb
  have hhas : Ev (fun k => assessorref02_Has.f k thirteen (⟨#[62]⟩ : ByteArray)) true := Ev.of (k := 20) (fun k => assessorref02_Has.mono _ _ k) (by decide +kernel)
  unfold assessorref11_Binary.f
  rw [rWidth_eq w h]
  refine ev_bs (f := fun k t => _) (ev_ifp rfl (Ev.bind hhas (ev_ifp rfl ?_)))
  generalize (⟨#[62]⟩ : ByteArray) = s at tl
  refine ev_ifn (by rw [tl]; decide) ?_
  rw [show (s.toList == ([111, 114] : List UInt8)) = false from by rw [tl]; decide]
  refine Ev.step (fun k => assessorref11_Binary.j0.eq_2 w s a b _ k) (ev_ifn (by simp) ?_)
  refine Ev.bind (rInt_ev w a h) ?_
  cases iA : inW w a
  · exact ev_ifn (by simp) (Ev.step (fun k => assessorref11_Binary.j1.eq_2 w s a b _ k) (ev_ifp rfl (ev_some (by simp [binOp, iA]))))
  refine ev_ifp rfl (Ev.bind (rInt_ev w b h) ?_)
  cases iB : inW w b
  · exact ev_ifn (by simp) (Ev.step (fun k => assessorref11_Binary.j1.eq_2 w s a b _ k) (ev_ifp rfl (ev_some (by simp [binOp, iA, iB]))))
  refine ev_ifp rfl ?_
  refine Ev.step (fun k => assessorref11_Binary.j1.eq_2 w s a b _ k) (ev_ifn (by simp) ?_)
  refine ev_ifn (by rw [tl]; decide) (ev_ifn (by rw [tl]; decide) ?_)
  refine Ev.step (fun k => assessorref11_Binary.j2.eq_2 w s a b _ k) (ev_ifn (by simp) ?_)
  refine ev_ifn (by rw [tl]; decide) ?_
  refine ev_ifn (by rw [tl]; decide) ?_
  refine ev_ifn (by rw [tl]; decide) ?_
  refine ev_ifn (by rw [tl]; decide) ?_
  refine ev_ifn (by rw [tl]; decide) ?_
  refine ev_ifn (by rw [tl]; decide) ?_
  refine ev_ifn (by rw [tl]; decide) ?_
  refine ev_ifn (by rw [tl]; decide) ?_
  refine ev_ifn (by rw [tl]; decide) ?_
  refine ev_ifp tl ?_
  rw [bit_is]
  refine ev_bs (f := fun k t => _) (ev_some ?_)
  by_cases c : b < a <;> simp [binOp, iA, iB, opVal, c]
set_option maxRecDepth 100000 in
theorem ra_71 (w a b : Int) (h : 2 ≤ w ∧ w ≤ 8) : Ev (fun k => assessorref11_Binary.f k w (⟨#[62, 61]⟩ : ByteArray) a b) (binR w (⟨#[62, 61]⟩ : ByteArray) a b) := by
  have tl : (⟨#[62, 61]⟩ : ByteArray).toList = [62, 61] := by kernel_rfl
  have hb : binR w (⟨#[62, 61]⟩ : ByteArray) a b = binOp 71 false false false w a b := by
    unfold binR
    rw [if_pos h, show opNo (⟨#[62, 61]⟩ : ByteArray) = 71 from by kernel_rfl, if_neg (by decide), show isLogic (⟨#[62, 61]⟩ : ByteArray) = false from by kernel_rfl, show isDiv (⟨#[62, 61]⟩ : ByteArray) = false from by kernel_rfl, show isArith (⟨#[62, 61]⟩ : ByteArray) = false from by kernel_rfl]
    rfl
  rw [hb]; clear hb
  have hhas : Ev (fun k => assessorref02_Has.f k thirteen (⟨#[62, 61]⟩ : ByteArray)) true := Ev.of (k := 20) (fun k => assessorref02_Has.mono _ _ k) (by decide +kernel)
  unfold assessorref11_Binary.f
  rw [rWidth_eq w h]
  refine ev_bs (f := fun k t => _) (ev_ifp rfl (Ev.bind hhas (ev_ifp rfl ?_)))
  generalize (⟨#[62, 61]⟩ : ByteArray) = s at tl
  refine ev_ifn (by rw [tl]; decide) ?_
  rw [show (s.toList == ([111, 114] : List UInt8)) = false from by rw [tl]; decide]
  refine Ev.step (fun k => assessorref11_Binary.j0.eq_2 w s a b _ k) (ev_ifn (by simp) ?_)
  refine Ev.bind (rInt_ev w a h) ?_
  cases iA : inW w a
  · exact ev_ifn (by simp) (Ev.step (fun k => assessorref11_Binary.j1.eq_2 w s a b _ k) (ev_ifp rfl (ev_some (by simp [binOp, iA]))))
  refine ev_ifp rfl (Ev.bind (rInt_ev w b h) ?_)
  cases iB : inW w b
  · exact ev_ifn (by simp) (Ev.step (fun k => assessorref11_Binary.j1.eq_2 w s a b _ k) (ev_ifp rfl (ev_some (by simp [binOp, iA, iB]))))
  refine ev_ifp rfl ?_
  refine Ev.step (fun k => assessorref11_Binary.j1.eq_2 w s a b _ k) (ev_ifn (by simp) ?_)
  refine ev_ifn (by rw [tl]; decide) (ev_ifn (by rw [tl]; decide) ?_)
  refine Ev.step (fun k => assessorref11_Binary.j2.eq_2 w s a b _ k) (ev_ifn (by simp) ?_)
  refine ev_ifn (by rw [tl]; decide) ?_
  refine ev_ifn (by rw [tl]; decide) ?_
  refine ev_ifn (by rw [tl]; decide) ?_
  refine ev_ifn (by rw [tl]; decide) ?_
  refine ev_ifn (by rw [tl]; decide) ?_
  refine ev_ifn (by rw [tl]; decide) ?_
  refine ev_ifn (by rw [tl]; decide) ?_
  refine ev_ifn (by rw [tl]; decide) ?_
  refine ev_ifn (by rw [tl]; decide) ?_
  refine ev_ifn (by rw [tl]; decide) ?_
  refine ev_ifp tl ?_
  rw [bit_is]
  refine ev_bs (f := fun k t => _) (ev_some ?_)
  by_cases c : b ≤ a <;> simp [binOp, iA, iB, opVal, c]
set_option maxRecDepth 100000 in
theorem ra_72 (w a b : Int) (h : 2 ≤ w ∧ w ≤ 8) : Ev (fun k => assessorref11_Binary.f k w (⟨#[97, 110, 100]⟩ : ByteArray) a b) (binR w (⟨#[97, 110, 100]⟩ : ByteArray) a b) := by
  have tl : (⟨#[97, 110, 100]⟩ : ByteArray).toList = [97, 110, 100] := by kernel_rfl
  have hb : binR w (⟨#[97, 110, 100]⟩ : ByteArray) a b = binOp 72 true false false w a b := by
    unfold binR
    rw [if_pos h, show opNo (⟨#[97, 110, 100]⟩ : ByteArray) = 72 from by kernel_rfl, if_neg (by decide), show isLogic (⟨#[97, 110, 100]⟩ : ByteArray) = true from by kernel_rfl, show isDiv (⟨#[97, 110, 100]⟩ : ByteArray) = false from by kernel_rfl, show isArith (⟨#[97, 110, 100]⟩ : ByteArray) = false from by kernel_rfl]
    rfl
  rw [hb]; clear hb
  have hhas : Ev (fun k => assessorref02_Has.f k thirteen (⟨#[97, 110, 100]⟩ : ByteArray)) true := Ev.of (k := 20) (fun k => assessorref02_Has.mono _ _ k) (by decide +kernel)
  unfold assessorref11_Binary.f
  rw [rWidth_eq w h]
  refine ev_bs (f := fun k t => _) (ev_ifp rfl (Ev.bind hhas (ev_ifp rfl ?_)))
  generalize (⟨#[97, 110, 100]⟩ : ByteArray) = s at tl
  refine ev_ifp tl ?_
  refine Ev.step (fun k => assessorref11_Binary.j0.eq_2 w s a b _ k) (ev_ifp rfl ?_)
  rw [rBit_eq a, rBit_eq b]
  refine ev_bs (f := fun k t => _) ?_
  cases hA : bitB a
  · exact ev_ifn (by simp) (Ev.step (fun k => assessorref11_Binary.j1.eq_2 w s a b _ k) (ev_ifp rfl (ev_some (by simp [binOp, hA]))))
  refine ev_ifp rfl (ev_bs (f := fun k t => _) ?_)
  cases hB : bitB b
  · exact ev_ifn (by simp) (Ev.step (fun k => assessorref11_Binary.j1.eq_2 w s a b _ k) (ev_ifp rfl (ev_some (by simp [binOp, hA, hB]))))
  have iA := bit_in w a h hA
  have iB := bit_in w b h hB
  refine ev_ifp rfl (Ev.bind (rInt_ev w a h) (ev_ifp iA (Ev.bind (rInt_ev w b h) (ev_ifp iB ?_))))
  refine Ev.step (fun k => assessorref11_Binary.j1.eq_2 w s a b _ k) (ev_ifn (by simp) ?_)
  refine ev_ifn (by rw [tl]; decide) (ev_ifn (by rw [tl]; decide) ?_)
  refine Ev.step (fun k => assessorref11_Binary.j2.eq_2 w s a b _ k) (ev_ifn (by simp) ?_)
  refine ev_ifn (by rw [tl]; decide) ?_
  refine ev_ifn (by rw [tl]; decide) ?_
  refine ev_ifn (by rw [tl]; decide) ?_
  refine ev_ifn (by rw [tl]; decide) ?_
  refine ev_ifn (by rw [tl]; decide) ?_
  refine ev_ifn (by rw [tl]; decide) ?_
  refine ev_ifn (by rw [tl]; decide) ?_
  refine ev_ifn (by rw [tl]; decide) ?_
  refine ev_ifn (by rw [tl]; decide) ?_
  refine ev_ifn (by rw [tl]; decide) ?_
  refine ev_ifn (by rw [tl]; decide) ?_
  refine ev_ifp tl ?_
  refine ev_some ?_
  simp [binOp, iA, iB, hA, hB, opVal]
set_option maxRecDepth 100000 in
theorem ra_73 (w a b : Int) (h : 2 ≤ w ∧ w ≤ 8) : Ev (fun k => assessorref11_Binary.f k w (⟨#[111, 114]⟩ : ByteArray) a b) (binR w (⟨#[111, 114]⟩ : ByteArray) a b) := by
  have tl : (⟨#[111, 114]⟩ : ByteArray).toList = [111, 114] := by kernel_rfl
  have hb : binR w (⟨#[111, 114]⟩ : ByteArray) a b = binOp 73 true false false w a b := by
    unfold binR
    rw [if_pos h, show opNo (⟨#[111, 114]⟩ : ByteArray) = 73 from by kernel_rfl, if_neg (by decide), show isLogic (⟨#[111, 114]⟩ : ByteArray) = true from by kernel_rfl, show isDiv (⟨#[111, 114]⟩ : ByteArray) = false from by kernel_rfl, show isArith (⟨#[111, 114]⟩ : ByteArray) = false from by kernel_rfl]
    rfl
  rw [hb]; clear hb
  have hhas : Ev (fun k => assessorref02_Has.f k thirteen (⟨#[111, 114]⟩ : ByteArray)) true := Ev.of (k := 20) (fun k => assessorref02_Has.mono _ _ k) (by decide +kernel)
  unfold assessorref11_Binary.f
  rw [rWidth_eq w h]
  refine ev_bs (f := fun k t => _) (ev_ifp rfl (Ev.bind hhas (ev_ifp rfl ?_)))
  generalize (⟨#[111, 114]⟩ : ByteArray) = s at tl
  refine ev_ifn (by rw [tl]; decide) ?_
  rw [show (s.toList == ([111, 114] : List UInt8)) = true from by rw [tl]; decide]
  refine Ev.step (fun k => assessorref11_Binary.j0.eq_2 w s a b _ k) (ev_ifp rfl ?_)
  rw [rBit_eq a, rBit_eq b]
  refine ev_bs (f := fun k t => _) ?_
  cases hA : bitB a
  · exact ev_ifn (by simp) (Ev.step (fun k => assessorref11_Binary.j1.eq_2 w s a b _ k) (ev_ifp rfl (ev_some (by simp [binOp, hA]))))
  refine ev_ifp rfl (ev_bs (f := fun k t => _) ?_)
  cases hB : bitB b
  · exact ev_ifn (by simp) (Ev.step (fun k => assessorref11_Binary.j1.eq_2 w s a b _ k) (ev_ifp rfl (ev_some (by simp [binOp, hA, hB]))))
  have iA := bit_in w a h hA
  have iB := bit_in w b h hB
  refine ev_ifp rfl (Ev.bind (rInt_ev w a h) (ev_ifp iA (Ev.bind (rInt_ev w b h) (ev_ifp iB ?_))))
  refine Ev.step (fun k => assessorref11_Binary.j1.eq_2 w s a b _ k) (ev_ifn (by simp) ?_)
  refine ev_ifn (by rw [tl]; decide) (ev_ifn (by rw [tl]; decide) ?_)
  refine Ev.step (fun k => assessorref11_Binary.j2.eq_2 w s a b _ k) (ev_ifn (by simp) ?_)
  refine ev_ifn (by rw [tl]; decide) ?_
  refine ev_ifn (by rw [tl]; decide) ?_
  refine ev_ifn (by rw [tl]; decide) ?_
  refine ev_ifn (by rw [tl]; decide) ?_
  refine ev_ifn (by rw [tl]; decide) ?_
  refine ev_ifn (by rw [tl]; decide) ?_
  refine ev_ifn (by rw [tl]; decide) ?_
  refine ev_ifn (by rw [tl]; decide) ?_
  refine ev_ifn (by rw [tl]; decide) ?_
  refine ev_ifn (by rw [tl]; decide) ?_
  refine ev_ifn (by rw [tl]; decide) ?_
  refine ev_ifn (by rw [tl]; decide) ?_
  refine ev_ifp tl ?_
  refine ev_some ?_
  simp [binOp, iA, iB, hA, hB, opVal]
theorem has_no (s : ByteArray) (hs : ∀ t ∈ thirteen, ¬ t.toList = s.toList) : Ev (fun k => assessorref02_Has.f k thirteen s) false := by
  have h1 := has_from thirteen s (by decide) thirteen.length 0 (by decide)
  have h2 : ((thirteen.drop 0).any fun y => decide (y.toList = s.toList)) = false := by
    rw [List.drop_zero, List.any_eq_false]
    intro t ht
    simpa using hs t ht
  rw [h2] at h1
  exact h1
theorem binary_ev (w : Int) (s : ByteArray) (a b : Int) : Ev (fun k => assessorref11_Binary.f k w s a b) (binR w s a b) := by
  by_cases h : 2 ≤ w ∧ w ≤ 8
  case neg =>
    rw [binR_no w s a b h]
    unfold assessorref11_Binary.f
    rw [rWidth_no w h]
    exact ev_bs (f := fun k t => _) (ev_ifn (by simp) (ev_some rfl))
  by_cases e60 : (⟨#[43]⟩ : ByteArray).toList = s.toList
  · obtain rfl := data_ext e60
    exact ra_60 w a b h
  by_cases e61 : (⟨#[45]⟩ : ByteArray).toList = s.toList
  · obtain rfl := data_ext e61
    exact ra_61 w a b h
  by_cases e62 : (⟨#[42]⟩ : ByteArray).toList = s.toList
  · obtain rfl := data_ext e62
    exact ra_62 w a b h
  by_cases e63 : (⟨#[47]⟩ : ByteArray).toList = s.toList
  · obtain rfl := data_ext e63
    exact ra_63 w a b h
  by_cases e64 : (⟨#[37]⟩ : ByteArray).toList = s.toList
  · obtain rfl := data_ext e64
    exact ra_64 w a b h
  by_cases e65 : (⟨#[61, 61]⟩ : ByteArray).toList = s.toList
  · obtain rfl := data_ext e65
    exact ra_65 w a b h
  by_cases e67 : (⟨#[33, 61]⟩ : ByteArray).toList = s.toList
  · obtain rfl := data_ext e67
    exact ra_67 w a b h
  by_cases e68 : (⟨#[60]⟩ : ByteArray).toList = s.toList
  · obtain rfl := data_ext e68
    exact ra_68 w a b h
  by_cases e69 : (⟨#[60, 61]⟩ : ByteArray).toList = s.toList
  · obtain rfl := data_ext e69
    exact ra_69 w a b h
  by_cases e70 : (⟨#[62]⟩ : ByteArray).toList = s.toList
  · obtain rfl := data_ext e70
    exact ra_70 w a b h
  by_cases e71 : (⟨#[62, 61]⟩ : ByteArray).toList = s.toList
  · obtain rfl := data_ext e71
    exact ra_71 w a b h
  by_cases e72 : (⟨#[97, 110, 100]⟩ : ByteArray).toList = s.toList
  · obtain rfl := data_ext e72
    exact ra_72 w a b h
  by_cases e73 : (⟨#[111, 114]⟩ : ByteArray).toList = s.toList
  · obtain rfl := data_ext e73
    exact ra_73 w a b h
  have hno : ∀ t ∈ thirteen, ¬ t.toList = s.toList := by
    intro t ht
    simp only [thirteen, List.mem_cons, List.not_mem_nil, or_false] at ht
    rcases ht with rfl | rfl | rfl | rfl | rfl | rfl | rfl | rfl | rfl | rfl | rfl | rfl | rfl <;> assumption
  have hop : opNo s = -1 := by
    rcases lastOf_mem opTab s.data.toList (.int .i64 (-1)) with h2 | ⟨p, hp, h3, h4⟩
    · unfold opNo; rw [h2]
    · exfalso
      simp only [opTab, List.mem_cons, List.not_mem_nil, or_false] at hp
      rcases hp with rfl | rfl | rfl | rfl | rfl | rfl | rfl | rfl | rfl | rfl | rfl | rfl | rfl
      · exact e60 (by rw [Lib.toList_data, Lib.toList_data]; exact h3)
      · exact e61 (by rw [Lib.toList_data, Lib.toList_data]; exact h3)
      · exact e62 (by rw [Lib.toList_data, Lib.toList_data]; exact h3)
      · exact e63 (by rw [Lib.toList_data, Lib.toList_data]; exact h3)
      · exact e64 (by rw [Lib.toList_data, Lib.toList_data]; exact h3)
      · exact e65 (by rw [Lib.toList_data, Lib.toList_data]; exact h3)
      · exact e67 (by rw [Lib.toList_data, Lib.toList_data]; exact h3)
      · exact e68 (by rw [Lib.toList_data, Lib.toList_data]; exact h3)
      · exact e69 (by rw [Lib.toList_data, Lib.toList_data]; exact h3)
      · exact e70 (by rw [Lib.toList_data, Lib.toList_data]; exact h3)
      · exact e71 (by rw [Lib.toList_data, Lib.toList_data]; exact h3)
      · exact e72 (by rw [Lib.toList_data, Lib.toList_data]; exact h3)
      · exact e73 (by rw [Lib.toList_data, Lib.toList_data]; exact h3)
  have hb : binR w s a b = (0, 0, 1) := by unfold binR; rw [if_pos h, if_pos hop]
  rw [hb]
  unfold assessorref11_Binary.f
  rw [rWidth_eq w h]
  exact ev_bs (f := fun k t => _) (ev_ifp rfl (Ev.bind (has_no s hno) (ev_ifn (by simp) (ev_some rfl))))
def unR (w : Int) (s : ByteArray) (a : Int) : Int × Int :=
  if 2 ≤ w ∧ w ≤ 8 then (if s.toList = [45] then (if inW w a = true then (wrapR w (wrap64 (-a)), 0) else (0, 2)) else if s.toList = [110, 111, 116] then (if bitB a = true then (wrap64 (1 - a), 0) else (0, 2)) else (0, 1)) else (0, 2)
theorem unary_ref (w : Int) (s : ByteArray) (a : Int) : Ev (fun k => assessorref11_Unary.f k w s a) (unR w s a) := by
  unfold assessorref11_Unary.f unR
  by_cases h : 2 ≤ w ∧ w ≤ 8
  case neg =>
    rw [rWidth_no w h, if_neg h]
    exact ev_bs (f := fun k t => _) (ev_ifn (by simp) (ev_some rfl))
  rw [rWidth_eq w h, if_pos h]
  refine ev_bs (f := fun k t => _) (ev_ifp rfl ?_)
  by_cases c1 : s.toList = [45]
  · rw [show (if s.toList = [45] then (if inW w a = true then (wrapR w (wrap64 (-a)), (0 : Int)) else (0, 2)) else if s.toList = [110, 111, 116] then (if bitB a = true then (wrap64 (1 - a), 0) else (0, 2)) else (0, 1)) = (if inW w a = true then (wrapR w (wrap64 (-a)), (0 : Int)) else (0, 2)) from if_pos c1]
    refine ev_ifp c1 (Ev.bind (rInt_ev w a h) ?_)
    cases iA : inW w a
    · exact ev_ifn (by simp) (ev_some rfl)
    · exact ev_ifp rfl (Ev.bind (rWrap_ev w _ h) (ev_some rfl))
  · rw [show (if s.toList = [45] then (if inW w a = true then (wrapR w (wrap64 (-a)), (0 : Int)) else (0, 2)) else if s.toList = [110, 111, 116] then (if bitB a = true then (wrap64 (1 - a), 0) else (0, 2)) else (0, 1)) = (if s.toList = [110, 111, 116] then (if bitB a = true then (wrap64 (1 - a), (0 : Int)) else (0, 2)) else (0, 1)) from if_neg c1]
    refine ev_ifn c1 ?_
    by_cases c2 : s.toList = [110, 111, 116]
    · rw [show (if s.toList = [110, 111, 116] then (if bitB a = true then (wrap64 (1 - a), (0 : Int)) else (0, 2)) else (0, 1)) = (if bitB a = true then (wrap64 (1 - a), (0 : Int)) else (0, 2)) from if_pos c2]
      refine ev_ifp c2 ?_
      rw [rBit_eq a]
      refine ev_bs (f := fun k t => _) ?_
      cases hA : bitB a
      · exact ev_ifn (by simp) (ev_some rfl)
      · exact ev_ifp rfl (ev_some rfl)
    · rw [show (if s.toList = [110, 111, 116] then (if bitB a = true then (wrap64 (1 - a), (0 : Int)) else (0, 2)) else (0, 1)) = (0, 1) from if_neg c2]
      exact ev_ifn c2 (ev_some rfl)
theorem unary_ev (w : Int) (s : ByteArray) (a : Int) : Ev (fun k => value_Unary.f k w s a) (unR w s a) := by
  unfold value_Unary.f unR
  by_cases h : 2 ≤ w ∧ w ≤ 8
  case neg =>
    rw [isWidth_no w h, if_neg h]
    exact ev_bs (f := fun k t => _) (ev_ifn (by simp) (ev_some rfl))
  rw [isWidth_eq w h, if_pos h]
  refine ev_bs (f := fun k t => _) (ev_ifp rfl ?_)
  by_cases c1 : s.toList = [45]
  · rw [show (if s.toList = [45] then (if inW w a = true then (wrapR w (wrap64 (-a)), (0 : Int)) else (0, 2)) else if s.toList = [110, 111, 116] then (if bitB a = true then (wrap64 (1 - a), 0) else (0, 2)) else (0, 1)) = (if inW w a = true then (wrapR w (wrap64 (-a)), (0 : Int)) else (0, 2)) from if_pos c1]
    have c2 : ¬ s.toList = [110, 111, 116] := by rw [c1]; decide
    refine ev_ifp c1 (Ev.step (fun k => value_Unary.j0.eq_2 w s a _ k) (ev_ifn (by simp) (ev_ifn c2 ?_)))
    rw [isInt_eq w a h]
    refine ev_bs (f := fun k t => _) (Ev.step (fun k => value_Unary.j1.eq_2 w s a _ k) ?_)
    cases iA : inW w a
    · exact ev_ifp rfl (ev_some rfl)
    · refine ev_ifn (by simp) (ev_ifn c2 ?_)
      rw [wrap_eq w _ h]
      exact ev_bs (f := fun k t => _) (ev_some rfl)
  · rw [show (if s.toList = [45] then (if inW w a = true then (wrapR w (wrap64 (-a)), (0 : Int)) else (0, 2)) else if s.toList = [110, 111, 116] then (if bitB a = true then (wrap64 (1 - a), 0) else (0, 2)) else (0, 1)) = (if s.toList = [110, 111, 116] then (if bitB a = true then (wrap64 (1 - a), (0 : Int)) else (0, 2)) else (0, 1)) from if_neg c1]
    refine ev_ifn c1 ?_
    by_cases c2 : s.toList = [110, 111, 116]
    · rw [show (if s.toList = [110, 111, 116] then (if bitB a = true then (wrap64 (1 - a), (0 : Int)) else (0, 2)) else (0, 1)) = (if bitB a = true then (wrap64 (1 - a), (0 : Int)) else (0, 2)) from if_pos c2]
      refine Ev.step (fun k => value_Unary.j0.eq_2 w s a _ k) (ev_ifn (by rw [c2]; decide) (ev_ifp c2 ?_))
      rw [isBool_eq a]
      refine ev_bs (f := fun k t => _) ?_
      cases hA : bitB a
      · exact ev_ifn (by simp) (Ev.step (fun k => value_Unary.j1.eq_2 w s a _ k) (ev_ifp rfl (ev_some rfl)))
      · refine ev_ifp rfl ?_
        rw [isInt_eq w a h, bit_in w a h hA]
        exact ev_bs (f := fun k t => _) (Ev.step (fun k => value_Unary.j1.eq_2 w s a _ k) (ev_ifn (by simp) (ev_ifp c2 (ev_some rfl))))
    · rw [show (if s.toList = [110, 111, 116] then (if bitB a = true then (wrap64 (1 - a), (0 : Int)) else (0, 2)) else (0, 1)) = (0, 1) from if_neg c2]
      exact Ev.step (fun k => value_Unary.j0.eq_2 w s a _ k) (ev_ifp (bne_iff_ne.mpr c2) (ev_some rfl))
end Go.Proofs.Ytogknojocodhgaa.P
namespace Go.Proofs.Ytogknojocodhgaa.P
open Go.RowKit Go.Proofs.YtogknojocodhgaaW.PrintWords
theorem awake_ev : Ev (fun k => assessorlaw11_awake.f k) true := Ev.of (k := 60) (fun k => assessorlaw11_awake.mono k) (by decide +kernel)
theorem awake_some : Ev (fun k => (assessorlaw11_awake.f k).bind fun t => some t) true := Ev.bind (f := fun _ t => some t) awake_ev (ev_some rfl)
end Go.Proofs.Ytogknojocodhgaa.P
