-- Texts of this claim, put together and cut down to what is used (trim.py, a program of this session).
import Derived.Test.YtogknojocodhgaaZ2
section
namespace Go.Proofs.Ytogknojocodhgaa.P
open Go.RowKit Go.WideMaps Go.Proofs.YtogknojocodhgaaW.PrintWords Go.Proofs.YtogknojocodhgaaW.PrintLast Go.Proofs.YtogknojocodhgaaW.PrintMore
set_option linter.unusedVariables false
set_option linter.unusedSimpArgs false
def digL (n : Nat) : List UInt8 := if h : n < 10 then [UInt8.ofNat (48 + n)] else digL (n / 10) ++ digL (n % 10)
termination_by n
decreasing_by all_goals omega
theorem digL_small (n : Nat) (h : n < 10) : digL n = [UInt8.ofNat (48 + n)] := by rw [digL]; rw [dif_pos h]
theorem digL_big (n : Nat) (h : ¬ n < 10) : digL n = digL (n / 10) ++ [UInt8.ofNat (48 + n % 10)] := by rw [digL]; rw [dif_neg h, digL_small (n % 10) (by omega)]
theorem digL_len : ∀ (k n : Nat), n < 10 ^ (k + 1) → (digL n).length ≤ k + 1
  | 0, n, h => by rw [digL_small n (by simpa using h)]; simp
  | k + 1, n, h => by
    by_cases c : n < 10
    · rw [digL_small n c]; simp
    · rw [digL_big n c]
      have := digL_len k (n / 10) (by rw [Nat.pow_succ] at h; omega)
      simp; omega
theorem enc_digit (n : Nat) (h : n < 10) : Utf8.encode (48 + (n : Int)) = ⟨#[UInt8.ofNat (48 + n)]⟩ := by
  have : n = 0 ∨ n = 1 ∨ n = 2 ∨ n = 3 ∨ n = 4 ∨ n = 5 ∨ n = 6 ∨ n = 7 ∨ n = 8 ∨ n = 9 := by omega
  rcases this with rfl | rfl | rfl | rfl | rfl | rfl | rfl | rfl | rfl | rfl <;> decide +kernel
set_option maxHeartbeats 2000000 in
set_option maxRecDepth 100000 in
theorem digits_small (n : Nat) (h : n < 10) (w : World) : Calls Try.prog 81 #[.int .u64 (n : Int)] w fun e w' => e = .returned (.string ⟨(digL n).toArray⟩) ∧ Below w.heap.size w w' := by
  have c1 : decide ((n : Int) < 10) = true := decide_eq_true (by omega)
  have he := enc_digit n h
  rw [digL_small n h]
  go_enter Try.func81, Try.ntmps81
  go_wp2
  go_ret
  refine ⟨?_, Below.refl _ _⟩
  rw [show UInt8.ofNat (48 + n) = 48 + UInt8.ofNat n from by simp]
  rfl
set_option maxHeartbeats 2000000 in
set_option maxRecDepth 100000 in
theorem digits_all : ∀ (k n : Nat), n < 10 ^ (k + 1) → n < 18446744073709551616 → ∀ w : World, Calls Try.prog 81 #[.int .u64 (n : Int)] w fun e w' => e = .returned (.string ⟨(digL n).toArray⟩) ∧ Below w.heap.size w w'
  | 0, n, h, _ => fun w => digits_small n (by simpa using h) w
  | k + 1, n, h, hn => fun w => by
    by_cases c : n < 10
    · exact digits_small n c w
    · have c1 : decide ((n : Int) < 10) = false := decide_eq_false (by omega)
      have h10 : n / 10 < 10 ^ (k + 1) := by rw [Nat.pow_succ] at h; omega
      have l1 := digL_len 19 (n / 10) (by omega)
      have l2 := digL_len 0 (n % 10) (by omega)
      have hl : (⟨(digL (n / 10)).toArray⟩ : ByteArray).size + (⟨(digL (n % 10)).toArray⟩ : ByteArray).size ≤ 9223372036854775807 := by
        show (digL (n / 10)).toArray.size + (digL (n % 10)).toArray.size ≤ _
        simp only [List.size_toArray]; omega
      have hcat : (⟨(digL (n / 10)).toArray⟩ : ByteArray) ++ (⟨(digL (n % 10)).toArray⟩ : ByteArray) = ⟨(digL n).toArray⟩ := by
        apply ByteArray.ext
        rw [ByteArray.data_append]
        show (digL (n / 10)).toArray ++ (digL (n % 10)).toArray = _
        rw [digL_big n c, digL_small (n % 10) (by omega)]
        simp
      have HL := Aside0.mk hl
      have ih := digits_all k (n / 10) h10 (by omega)
      have ih2 := digits_small (n % 10) (by omega)
      have IH := Aside0.mk ih
      have IH2 := Aside0.mk ih2
      clear ih ih2 l1 l2 hl
      go_enter Try.func81, Try.ntmps81
      go_wp2_with fail
      refine (IH.out w).mono ?_
      rintro e w1 ⟨rfl, hb1⟩
      have HB1 := Aside0.mk hb1
      clear hb1
      go_wp2_with fail
      refine (IH2.out w1).mono ?_
      rintro e w2 ⟨rfl, hb2⟩
      have HB2 : Aside0 (Below w.heap.size w w2) := ⟨HB1.out.trans (hb2.mono HB1.out.size)⟩
      clear hb2
      have hl := HL.out
      go_wp2
      go_ret
      exact ⟨by rw [← hcat]; rfl, HB2.out⟩
def value_digits.f (a0 : Int) : Option ByteArray := if 0 ≤ a0 ∧ a0 < 18446744073709551616 then some ⟨(digL a0.toNat).toArray⟩ else none
theorem value_digits.calls (a0 : Int) (r : ByteArray) (w : World) (h : value_digits.f a0 = some r) :
    Calls Try.prog 81 #[.int .u64 a0] w fun e w' => e = .returned (.string r) ∧ Below w.heap.size w w' := by
  unfold value_digits.f at h
  split at h
  · rename_i hr
    obtain rfl := Option.some.inj h
    obtain ⟨n, rfl⟩ := Int.eq_ofNat_of_zero_le hr.1
    rw [Int.toNat_natCast]
    exact digits_all 19 n (by omega) (by omega) w
  · cases h
end Go.Proofs.Ytogknojocodhgaa.P
end
section
namespace Go.Proofs.Ytogknojocodhgaa.P
open Go.RowKit Go.Proofs.YtogknojocodhgaaW.PrintWords Go.Proofs.YtogknojocodhgaaW.PrintLast Go.Proofs.YtogknojocodhgaaW.PrintMore
attribute [local go_sem] max2_int min2_int max_two min_two max_three min_three max_four min_four   -- for this text's walks alone
set_option linter.unusedVariables false
set_option linter.unusedSimpArgs false
def value_decimal.f (a0 : Int) : Option (ByteArray) := if a0 < 0 then ((value_digits.f (IntKind.u64.wrap ((IntKind.u64.wrap (wrap64 (-(wrap64 (a0 + 1))))) + 1))).bind fun t119 => (if 1 + t119.size ≤ 9223372036854775807 then (some ((⟨#[45]⟩ : ByteArray) ++ t119)) else (none))) else ((value_digits.f (IntKind.u64.wrap (a0))).bind fun t120 => (some t120))
set_option maxHeartbeats 8000000 in
set_option maxRecDepth 100000 in
theorem value_decimal.calls (a0 : Int) (r : ByteArray) (w : World) (h : value_decimal.f a0 = some r) :
    Calls Try.prog 49 #[.int .i64 a0] w fun e w' => e = .returned (.string r) ∧ Below w.heap.size w w' := by
  have HB := Aside0.mk (Below.refl w.heap.size w)
  have H : (if a0 < 0 then ((value_digits.f (IntKind.u64.wrap ((IntKind.u64.wrap (wrap64 (-(wrap64 (a0 + 1))))) + 1))).bind fun t119 => (if 1 + t119.size ≤ 9223372036854775807 then (some ((⟨#[45]⟩ : ByteArray) ++ t119)) else (none))) else ((value_digits.f (IntKind.u64.wrap (a0))).bind fun t120 => (some t120))) = some r := h
  clear h
  by_cases c2 : a0 < 0
  · rw [if_pos c2] at H
    have c2b0 : decide (a0 < 0) = true := decide_eq_true c2
    clear c2
    replace H := Option.bind_eq_some_iff.mp H
    obtain ⟨t119, A30, H⟩ := H
    replace H : (if 1 + t119.size ≤ 9223372036854775807 then (some ((⟨#[45]⟩ : ByteArray) ++ t119)) else (none)) = some r := H
    have A3 := Aside0.mk A30
    clear A30
    by_cases c4 : 1 + t119.size ≤ 9223372036854775807
    · rw [if_pos c4] at H
      have c4b0 := eq_true c4
      have c4b1 : decide (1 + t119.size ≤ 9223372036854775807) = true := decide_eq_true c4
      try have c4b2 : (9223372036854775807 < 1 + t119.size) = False := eq_false (Nat.not_lt.2 c4)
      obtain rfl := Option.some.inj H
      go_enter Try.func49, Try.ntmps49
      go_wp2_with (first | ((with_reducible refine gate_callee (f := 81) rfl ?_); refine goesL_ (some 10) rfl rfl Try.func81 (by kernel_rfl) rfl #[.int .u64 (IntKind.u64.wrap ((IntKind.u64.wrap (wrap64 (-(wrap64 (a0 + 1))))) + 1))] rfl (by (try simp only [List.map_toArray, List.map_cons, List.map_nil]); first | done | rfl | (simp only [List.length_drop, List.length_take]; rfl)) ?_; (with_reducible refine (value_digits.calls (IntKind.u64.wrap ((IntKind.u64.wrap (wrap64 (-(wrap64 (a0 + 1))))) + 1)) t119 _ A3.out).mono ?_); rintro e w5 ⟨rfl, hb⟩; refine ⟨_, rfl, ?_⟩; have n0_ := Aside0.mk (below_step (by repeat (first | (with_reducible first | exact HB.out | apply below_alloc | apply pw_below_drewN | apply below_drew1) | exact HB.out)) hb); clear HB; have HB := n0_; clear n0_; (try clear hb); (try clear hb2); (try clear hk); (try clear hi)))
      go_ret
      exact ⟨by first | rfl | (simp [errW_none, errW_some] <;> rfl) | (simp [*, errW_none, errW_some] <;> rfl), by repeat (first | (with_reducible first | exact HB.out | apply below_alloc | apply pw_below_drewN | apply below_drew1) | exact HB.out)⟩
    · rw [if_neg c4] at H
      exact absurd H (by simp)
  · rw [if_neg c2] at H
    have c2b0 : decide (a0 < 0) = false := decide_eq_false c2
    clear c2
    replace H := Option.bind_eq_some_iff.mp H
    obtain ⟨t120, A60, H⟩ := H
    replace H : (some t120) = some r := H
    have A6 := Aside0.mk A60
    clear A60
    obtain rfl := Option.some.inj H
    go_enter Try.func49, Try.ntmps49
    go_wp2_with (first | ((with_reducible refine gate_callee (f := 81) rfl ?_); refine goesL_ (some 14) rfl rfl Try.func81 (by kernel_rfl) rfl #[.int .u64 (IntKind.u64.wrap (a0))] rfl (by (try simp only [List.map_toArray, List.map_cons, List.map_nil]); first | done | rfl | (simp only [List.length_drop, List.length_take]; rfl)) ?_; (with_reducible refine (value_digits.calls (IntKind.u64.wrap (a0)) t120 _ A6.out).mono ?_); rintro e w7 ⟨rfl, hb⟩; refine ⟨_, rfl, ?_⟩; have n0_ := Aside0.mk (below_step (by repeat (first | (with_reducible first | exact HB.out | apply below_alloc | apply pw_below_drewN | apply below_drew1) | exact HB.out)) hb); clear HB; have HB := n0_; clear n0_; (try clear hb); (try clear hb2); (try clear hk); (try clear hi)))
    go_ret
    exact ⟨by first | rfl | (simp [errW_none, errW_some] <;> rfl) | (simp [*, errW_none, errW_some] <;> rfl), by repeat (first | (with_reducible first | exact HB.out | apply below_alloc | apply pw_below_drewN | apply below_drew1) | exact HB.out)⟩
end Go.Proofs.Ytogknojocodhgaa.P
end
