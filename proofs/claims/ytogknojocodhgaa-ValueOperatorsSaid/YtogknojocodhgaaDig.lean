import Derived.Test.YtogknojocodhgaaPx0
namespace Go.Proofs.Ytogknojocodhgaa.P
open Go.RowKit Go.WideMaps Go.Proofs.YtogknojocodhgaaW.PrintWords Go.Proofs.YtogknojocodhgaaW.PrintLast Go.Proofs.YtogknojocodhgaaW.PrintMore
set_option linter.unusedVariables false
set_option linter.unusedSimpArgs false

def digL (n : Nat) : List UInt8 := if h : n < 10 then [UInt8.ofNat (48 + n)] else digL (n / 10) ++ digL (n % 10)
termination_by n
decreasing_by all_goals omega
theorem digL_small (n : Nat) (h : n < 10) : digL n = [UInt8.ofNat (48 + n)] := by rw [digL]; rw [dif_pos h]
theorem digL_big (n : Nat) (h : ¬ n < 10) : digL n = digL (n / 10) ++ [UInt8.ofNat (48 + n % 10)] := by rw [digL]; rw [dif_neg h, digL_small (n % 10) (by omega)]
theorem digL_len : ∀ (k n : Nat), n < 10 ^ (k + 1) → (digL n).length ≤ k + 1
  | 0, n, h => by rw [digL_small n (by simpa using h)]; simp
  | k + 1, n, h => by
    by_cases c : n < 10
    · rw [digL_small n c]; simp
    · rw [digL_big n c]
      have := digL_len k (n / 10) (by rw [Nat.pow_succ] at h; omega)
      simp; omega
theorem enc_digit (n : Nat) (h : n < 10) : Utf8.encode (48 + (n : Int)) = ⟨#[UInt8.ofNat (48 + n)]⟩ := by
  have : n = 0 ∨ n = 1 ∨ n = 2 ∨ n = 3 ∨ n = 4 ∨ n = 5 ∨ n = 6 ∨ n = 7 ∨ n = 8 ∨ n = 9 := by omega
  rcases this with rfl | rfl | rfl | rfl | rfl | rfl | rfl | rfl | rfl | rfl <;> decide +kernel
set_option maxHeartbeats 2000000 in
set_option maxRecDepth 100000 in
theorem digits_small (n : Nat) (h : n < 10) (w : World) : Calls Try.prog 81 #[.int .u64 (n : Int)] w fun e w' => e = .returned (.string ⟨(digL n).toArray⟩) ∧ Below w.heap.size w w' := by
  have c1 : decide ((n : Int) < 10) = true := decide_eq_true (by omega)
  have he := enc_digit n h
  rw [digL_small n h]
  go_enter Try.func81, Try.ntmps81
  go_wp2
  go_ret
  refine ⟨?_, Below.refl _ _⟩
  rw [show UInt8.ofNat (48 + n) = 48 + UInt8.ofNat n from by simp]
  rfl
set_option maxHeartbeats 2000000 in
set_option maxRecDepth 100000 in
theorem digits_all : ∀ (k n : Nat), n < 10 ^ (k + 1) → n < 18446744073709551616 → ∀ w : World, Calls Try.prog 81 #[.int .u64 (n : Int)] w fun e w' => e = .returned (.string ⟨(digL n).toArray⟩) ∧ Below w.heap.size w w'
  | 0, n, h, _ => fun w => digits_small n (by simpa using h) w
  | k + 1, n, h, hn => fun w => by
    by_cases c : n < 10
    · exact digits_small n c w
    · have c1 : decide ((n : Int) < 10) = false := decide_eq_false (by omega)
      have h10 : n / 10 < 10 ^ (k + 1) := by rw [Nat.pow_succ] at h; omega
      have l1 := digL_len 19 (n / 10) (by omega)
      have l2 := digL_len 0 (n % 10) (by omega)
      have hl : (⟨(digL (n / 10)).toArray⟩ : ByteArray).size + (⟨(digL (n % 10)).toArray⟩ : ByteArray).size ≤ 9223372036854775807 := by
        show (digL (n / 10)).toArray.size + (digL (n % 10)).toArray.size ≤ _
        simp only [List.size_toArray]; omega
      have hcat : (⟨(digL (n / 10)).toArray⟩ : ByteArray) ++ (⟨(digL (n % 10)).toArray⟩ : ByteArray) = ⟨(digL n).toArray⟩ := by
        apply ByteArray.ext
        rw [ByteArray.data_append]
        show (digL (n / 10)).toArray ++ (digL (n % 10)).toArray = _
        rw [digL_big n c, digL_small (n % 10) (by omega)]
        simp
      have HL := Aside0.mk hl
      have ih := digits_all k (n / 10) h10 (by omega)
      have ih2 := digits_small (n % 10) (by omega)
      have IH := Aside0.mk ih
      have IH2 := Aside0.mk ih2
      clear ih ih2 l1 l2 hl
      go_enter Try.func81, Try.ntmps81
      go_wp2_with fail
      refine (IH.out w).mono ?_
      rintro e w1 ⟨rfl, hb1⟩
      have HB1 := Aside0.mk hb1
      clear hb1
      go_wp2_with fail
      refine (IH2.out w1).mono ?_
      rintro e w2 ⟨rfl, hb2⟩
      have HB2 : Aside0 (Below w.heap.size w w2) := ⟨HB1.out.trans (hb2.mono HB1.out.size)⟩
      clear hb2
      have hl := HL.out
      go_wp2
      go_ret
      exact ⟨by rw [← hcat]; rfl, HB2.out⟩
def value_digits.f (a0 : Int) : Option ByteArray := if 0 ≤ a0 ∧ a0 < 18446744073709551616 then some ⟨(digL a0.toNat).toArray⟩ else none
theorem value_digits.calls (a0 : Int) (r : ByteArray) (w : World) (h : value_digits.f a0 = some r) :
    Calls Try.prog 81 #[.int .u64 a0] w fun e w' => e = .returned (.string r) ∧ Below w.heap.size w w' := by
  unfold value_digits.f at h
  split at h
  · rename_i hr
    obtain rfl := Option.some.inj h
    obtain ⟨n, rfl⟩ := Int.eq_ofNat_of_zero_le hr.1
    rw [Int.toNat_natCast]
    exact digits_all 19 n (by omega) (by omega) w
  · cases h

end Go.Proofs.Ytogknojocodhgaa.P
