/- Wrapping to a width is the remainder between the least and the greatest number; the operators of value.Binary over wrapped numbers. -/
import Derived.Test.YtogknojocodhgaaEvA
import Derived.Test.YtogknojocodhgaaBin
namespace Go.Proofs.Ytogknojocodhgaa.P
open Go.RowKit Go.Proofs.YtogknojocodhgaaW.PrintWords Go.Proofs.YtogknojocodhgaaW.PrintLast Go.Proofs.YtogknojocodhgaaW.PrintMore
def pw (w : Int) : Int := 2 ^ w.toNat
theorem wr_eq (w n : Int) (h : 2 ≤ w ∧ w ≤ 8) : wrapR w n = (n + 2 ^ (w - 1).toNat) % pw w - 2 ^ (w - 1).toNat := by
  unfold wrapR shr shl pw
  rcases seven w h with rfl | rfl | rfl | rfl | rfl | rfl | rfl <;>
    simp [wrap64, IntKind.wrap, IntKind.bits, IntKind.signed] <;> omega
theorem lo_eq (w : Int) : lo w = -(2 ^ (w - 1).toNat) := rfl
theorem pw_two (w : Int) (h : 2 ≤ w ∧ w ≤ 8) : pw w = 2 * 2 ^ (w - 1).toNat := by
  unfold pw
  rcases seven w h with rfl | rfl | rfl | rfl | rfl | rfl | rfl <;> decide +kernel
theorem half_b (w : Int) (h : 2 ≤ w ∧ w ≤ 8) : 2 ≤ (2 : Int) ^ (w - 1).toNat ∧ (2 : Int) ^ (w - 1).toNat ≤ 128 := by
  rcases seven w h with rfl | rfl | rfl | rfl | rfl | rfl | rfl <;> decide +kernel
theorem wr_in (w n : Int) (h : 2 ≤ w ∧ w ≤ 8) : lo w ≤ wrapR w n ∧ wrapR w n ≤ hi w := by
  have h1 := pw_two w h
  have h2 := half_b w h
  rw [wr_eq w n h]
  unfold lo hi
  have h3 := Int.emod_nonneg (n + 2 ^ (w - 1).toNat) (show pw w ≠ 0 by omega)
  have h4 := Int.emod_lt_of_pos (n + 2 ^ (w - 1).toNat) (show 0 < pw w by omega)
  omega
theorem wr_inW (w n : Int) (h : 2 ≤ w ∧ w ≤ 8) : inW w (wrapR w n) = true := by
  have h1 := wr_in w n h
  unfold inW; rw [decide_eq_true h1.1, decide_eq_true h1.2]; rfl
theorem wr_mod (w n : Int) (h : 2 ≤ w ∧ w ≤ 8) : (wrapR w n - n) % pw w = 0 := by
  have h2 := half_b w h
  have h1 := pw_two w h
  rw [wr_eq w n h]
  have h3 := Int.emod_add_mul_ediv (n + 2 ^ (w - 1).toNat) (pw w)
  have : (n + 2 ^ (w - 1).toNat) % pw w - 2 ^ (w - 1).toNat - n = pw w * (-((n + 2 ^ (w - 1).toNat) / pw w)) := by
    rw [Int.mul_neg]; omega
  rw [this]; exact Int.mul_emod_right _ _
theorem wr_id (w n : Int) (h : 2 ≤ w ∧ w ≤ 8) (hn : lo w ≤ n ∧ n ≤ hi w) : wrapR w n = n := by
  have h1 := pw_two w h
  rw [wr_eq w n h]
  unfold lo hi at hn
  rw [Int.emod_eq_of_lt (by omega) (by omega)]; omega
theorem wr_cong (w m n : Int) (h : 2 ≤ w ∧ w ≤ 8) (e : (m - n) % pw w = 0) : wrapR w m = wrapR w n := by
  rw [wr_eq w m h, wr_eq w n h]
  have : (m + 2 ^ (w - 1).toNat) % pw w = (n + 2 ^ (w - 1).toNat) % pw w := by
    apply Int.emod_eq_emod_iff_emod_sub_eq_zero.mpr
    rw [show m + 2 ^ (w - 1).toNat - (n + 2 ^ (w - 1).toNat) = m - n from by omega]; exact e
  rw [this]
theorem wr_of (w m n : Int) (h : 2 ≤ w ∧ w ≤ 8) (hn : lo w ≤ n ∧ n ≤ hi w) (e : pw w ∣ (m - n)) : wrapR w m = n := by
  rw [wr_cong w m n h (Int.emod_eq_zero_of_dvd e), wr_id w n h hn]
theorem wr_dvd (w n : Int) (h : 2 ≤ w ∧ w ≤ 8) : ∃ k, wrapR w n = n + pw w * k := by
  obtain ⟨k, hk⟩ := Int.dvd_of_emod_eq_zero (wr_mod w n h)
  exact ⟨k, by omega⟩
theorem in_small (w n : Int) (h : 2 ≤ w ∧ w ≤ 8) (hn : lo w ≤ n ∧ n ≤ hi w) : -128 ≤ n ∧ n ≤ 127 := by
  have h1 := half_b w h
  unfold lo hi at hn
  omega
set_option maxRecDepth 100000 in
theorem bin_43 (w a b : Int) (h : 2 ≤ w ∧ w ≤ 8) (ha : inW w a = true) (hb : inW w b = true) : value_Binary.f w (⟨#[43]⟩ : ByteArray) a b = some (wrapR w (wrap64 (a + b)), 0, 0) := by
  unfold value_Binary.f; rw [if_pos (by decide)]
  unfold binR; rw [if_pos h, show opNo ⟨#[43]⟩ = 60 from by kernel_rfl, if_neg (by decide), show isLogic ⟨#[43]⟩ = false from by kernel_rfl, show isDiv ⟨#[43]⟩ = false from by kernel_rfl, show isArith ⟨#[43]⟩ = true from by kernel_rfl]
  simp [binOp, ha, hb, opVal]
set_option maxRecDepth 100000 in
theorem bin_45 (w a b : Int) (h : 2 ≤ w ∧ w ≤ 8) (ha : inW w a = true) (hb : inW w b = true) : value_Binary.f w (⟨#[45]⟩ : ByteArray) a b = some (wrapR w (wrap64 (a - b)), 0, 0) := by
  unfold value_Binary.f; rw [if_pos (by decide)]
  unfold binR; rw [if_pos h, show opNo ⟨#[45]⟩ = 61 from by kernel_rfl, if_neg (by decide), show isLogic ⟨#[45]⟩ = false from by kernel_rfl, show isDiv ⟨#[45]⟩ = false from by kernel_rfl, show isArith ⟨#[45]⟩ = true from by kernel_rfl]
  simp [binOp, ha, hb, opVal]
set_option maxRecDepth 100000 in
theorem bin_42 (w a b : Int) (h : 2 ≤ w ∧ w ≤ 8) (ha : inW w a = true) (hb : inW w b = true) : value_Binary.f w (⟨#[42]⟩ : ByteArray) a b = some (wrapR w (wrap64 (a * b)), 0, 0) := by
  unfold value_Binary.f; rw [if_pos (by decide)]
  unfold binR; rw [if_pos h, show opNo ⟨#[42]⟩ = 62 from by kernel_rfl, if_neg (by decide), show isLogic ⟨#[42]⟩ = false from by kernel_rfl, show isDiv ⟨#[42]⟩ = false from by kernel_rfl, show isArith ⟨#[42]⟩ = true from by kernel_rfl]
  simp [binOp, ha, hb, opVal]
set_option maxRecDepth 100000 in
theorem bin_47 (w a b : Int) (h : 2 ≤ w ∧ w ≤ 8) (ha : inW w a = true) (hb : inW w b = true) : value_Binary.f w (⟨#[47]⟩ : ByteArray) a b = some (if b = 0 then (0, 1, 0) else (wrapR w (wrap64 (Int.tdiv a b)), 0, 0)) := by
  unfold value_Binary.f; rw [if_pos (by decide)]
  unfold binR; rw [if_pos h, show opNo ⟨#[47]⟩ = 63 from by kernel_rfl, if_neg (by decide), show isLogic ⟨#[47]⟩ = false from by kernel_rfl, show isDiv ⟨#[47]⟩ = true from by kernel_rfl, show isArith ⟨#[47]⟩ = true from by kernel_rfl]
  simp [binOp, ha, hb, opVal]
set_option maxRecDepth 100000 in
theorem bin_37 (w a b : Int) (h : 2 ≤ w ∧ w ≤ 8) (ha : inW w a = true) (hb : inW w b = true) : value_Binary.f w (⟨#[37]⟩ : ByteArray) a b = some (if b = 0 then (0, 1, 0) else (wrapR w (Int.tmod a b), 0, 0)) := by
  unfold value_Binary.f; rw [if_pos (by decide)]
  unfold binR; rw [if_pos h, show opNo ⟨#[37]⟩ = 64 from by kernel_rfl, if_neg (by decide), show isLogic ⟨#[37]⟩ = false from by kernel_rfl, show isDiv ⟨#[37]⟩ = true from by kernel_rfl, show isArith ⟨#[37]⟩ = true from by kernel_rfl]
  simp [binOp, ha, hb, opVal]
set_option maxRecDepth 100000 in
theorem bin_60' (w a b : Int) (h : 2 ≤ w ∧ w ≤ 8) (ha : inW w a = true) (hb : inW w b = true) : value_Binary.f w (⟨#[60]⟩ : ByteArray) a b = some (if a < b then 1 else 0, 0, 0) := by
  unfold value_Binary.f; rw [if_pos (by decide)]
  unfold binR; rw [if_pos h, show opNo ⟨#[60]⟩ = 68 from by kernel_rfl, if_neg (by decide), show isLogic ⟨#[60]⟩ = false from by kernel_rfl, show isDiv ⟨#[60]⟩ = false from by kernel_rfl, show isArith ⟨#[60]⟩ = false from by kernel_rfl]
  simp [binOp, ha, hb, opVal]
theorem tmod_small (x y : Int) (hy : y ≠ 0) : mx (Int.tmod x y) (-(Int.tmod x y)) < mx y (-y) := by
  have h1 := Int.tmod_eq_emod (a := x) (b := y)
  have h2 := Int.emod_nonneg x hy
  have h3 := Int.emod_lt x hy
  have h4 : (y ∣ x) → x % y = 0 := fun h => Int.emod_eq_zero_of_dvd h
  have h5 : ¬ (y ∣ x) → x % y ≠ 0 := fun h e => h (Int.dvd_of_emod_eq_zero e)
  unfold mx
  split at h1
  · split <;> split <;> omega
  · rename_i hc
    have h6 := h5 (fun h => hc (.inr h))
    split <;> split <;> omega
theorem tmod_sign (x y : Int) (hy : y ≠ 0) : Int.tmod x y = 0 ∨ (Int.tmod x y < 0 ↔ x < 0) := by
  have h1 := Int.tmod_eq_emod (a := x) (b := y)
  have h2 := Int.emod_nonneg x hy
  have h3 := Int.emod_lt x hy
  have h4 : (y ∣ x) → x % y = 0 := fun h => Int.emod_eq_zero_of_dvd h
  split at h1
  · rename_i hc
    rcases hc with hc | hc
    · right; omega
    · left; have := h4 hc; omega
  · rename_i hc
    right
    have : ¬ (0 ≤ x) := fun h => hc (.inl h)
    omega
end Go.Proofs.Ytogknojocodhgaa.P
