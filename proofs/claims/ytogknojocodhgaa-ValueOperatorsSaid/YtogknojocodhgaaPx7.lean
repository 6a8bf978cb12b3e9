-- Written by a program of this session (jprint.py over the kit's print), for this claim. Lean checks it.
import Derived.Test.YtogknojocodhgaaPx0
import Derived.Test.YtogknojocodhgaaPx6
namespace Go.Proofs.Ytogknojocodhgaa.P
open Go.RowKit Go.Proofs.YtogknojocodhgaaW.PrintWords Go.Proofs.YtogknojocodhgaaW.PrintLast Go.Proofs.YtogknojocodhgaaW.PrintMore
attribute [local go_sem] max2_int min2_int max_two min_two max_three min_three max_four min_four   -- for this text's walks alone
set_option linter.unusedVariables false
set_option linter.unusedSimpArgs false

/-! ### assessorref11_Greatest: function 22 -/
def assessorref11_Greatest.f (k : Nat) (a0 : Int) : Option (Int) := (assessorref11_Width.f a0).bind fun t184 => (if t184 = true then ((assessorref11_power.f k (wrap64 (a0 - 1))).bind fun t185 => (some (wrap64 (t185 - 1)))) else (some 0))
theorem assessorref11_Greatest.mono : ∀ a0 k, LeO (assessorref11_Greatest.f k a0) (assessorref11_Greatest.f (k + 1) a0) := by
  intro a0 k
  unfold assessorref11_Greatest.f
  repeat' first
      | (with_reducible exact assessorref11_power.mono _ _)
      | (with_reducible exact LeO.refl _)
      | (with_reducible exact LeO.none _)
      | (with_reducible refine LeO.ite ?_ ?_)
      | (with_reducible refine LeO.bind ?_ (fun _ => ?_))
      | exact assessorref11_power.mono _ _
      | exact LeO.none _
      | refine LeO.ite ?_ ?_
      | refine LeO.bind ?_ (fun _ => ?_)
set_option maxHeartbeats 8000000 in
set_option maxRecDepth 100000 in
theorem assessorref11_Greatest.calls (k : Nat) (a0 : Int) (r : Int) (w : World) (h : assessorref11_Greatest.f k a0 = some r) :
    Calls Try.prog 22 #[.int .i64 a0] w fun e w' => e = .returned (.int .i64 r) ∧ Drawn0 w w' := by
  have H : ((assessorref11_Width.f a0).bind fun t184 => (if t184 = true then ((assessorref11_power.f k (wrap64 (a0 - 1))).bind fun t185 => (some (wrap64 (t185 - 1)))) else (some 0))) = some r := h
  clear h
  replace H := Option.bind_eq_some_iff.mp H
  obtain ⟨t184, A20, H⟩ := H
  replace H : (if t184 = true then ((assessorref11_power.f k (wrap64 (a0 - 1))).bind fun t185 => (some (wrap64 (t185 - 1)))) else (some 0)) = some r := H
  have A2 := Aside0.mk A20
  clear A20
  by_cases c3 : t184 = true
  · subst c3
    have H1 : ((assessorref11_power.f k (wrap64 (a0 - 1))).bind fun t185 => (some (wrap64 (t185 - 1)))) = some r := by rw [if_pos rfl] at H; exact H
    clear H
    have H := H1
    clear H1
    replace H := Option.bind_eq_some_iff.mp H
    obtain ⟨t185, A40, H⟩ := H
    replace H : (some (wrap64 (t185 - 1))) = some r := H
    have A4 := Aside0.mk A40
    clear A40
    obtain rfl := Option.some.inj H
    go_enter Try.func22, Try.ntmps22
    go_wp2_with (first | ((with_reducible refine gate_callee (f := 37) rfl ?_); refine goesL_ (some 4) rfl rfl Try.func37 (by kernel_rfl) rfl #[.int .i64 a0] rfl (by (try simp only [List.map_toArray, List.map_cons, List.map_nil]); first | done | rfl | (simp only [List.length_drop, List.length_take]; rfl)) ?_; (with_reducible refine (assessorref11_Width.calls a0 true _ A2.out).mono ?_); rintro e w' ⟨rfl, ⟨nd, rfl⟩⟩; refine ⟨_, rfl, ?_⟩) | ((with_reducible refine gate_callee (f := 42) rfl ?_); refine goesL_ (some 8) rfl rfl Try.func42 (by kernel_rfl) rfl #[.int .i64 (wrap64 (a0 - 1))] rfl (by (try simp only [List.map_toArray, List.map_cons, List.map_nil]); first | done | rfl | (simp only [List.length_drop, List.length_take]; rfl)) ?_; (with_reducible refine (assessorref11_power.calls k (wrap64 (a0 - 1)) t185 _ A4.out).mono ?_); rintro e w' ⟨rfl, ⟨nd, rfl⟩⟩; refine ⟨_, rfl, ?_⟩))
    go_ret
    exact ⟨by first | rfl | (simp; done) | (simp [*]; done), by repeat (first | exact Drawn0.refl _ | apply Drawn0.step)⟩
  · replace c3 := Bool.eq_false_iff.mpr c3
    subst c3
    have H1 : (some 0) = some r := by rw [if_neg (show ¬ (false = true) by decide)] at H; exact H
    clear H
    have H := H1
    clear H1
    obtain rfl := Option.some.inj H
    go_enter Try.func22, Try.ntmps22
    go_wp2_with (first | ((with_reducible refine gate_callee (f := 37) rfl ?_); refine goesL_ (some 4) rfl rfl Try.func37 (by kernel_rfl) rfl #[.int .i64 a0] rfl (by (try simp only [List.map_toArray, List.map_cons, List.map_nil]); first | done | rfl | (simp only [List.length_drop, List.length_take]; rfl)) ?_; (with_reducible refine (assessorref11_Width.calls a0 false _ A2.out).mono ?_); rintro e w' ⟨rfl, ⟨nd, rfl⟩⟩; refine ⟨_, rfl, ?_⟩))
    go_ret
    exact ⟨by first | rfl | (simp; done) | (simp [*]; done), by repeat (first | exact Drawn0.refl _ | apply Drawn0.step)⟩

/-! ### assessorref11_Wrap: function 18 -/
def assessorref11_Wrap.f (k : Nat) (a0 : Int) (a1 : Int) : Option (Int) := (assessorref11_Width.f a0).bind fun t186 => (if t186 = true then ((assessorref11_power.f k a0).bind fun t187 => (if t187 = 0 then (none) else ((assessorref11_Least.f k a0).bind fun t188 => (if (Int.tmod a1 t187) < t188 then ((assessorref11_power.f k a0).bind fun t189 => (some (wrap64 ((Int.tmod a1 t187) + t189)))) else ((assessorref11_Greatest.f k a0).bind fun t190 => (if (Int.tmod a1 t187) > t190 then ((assessorref11_power.f k a0).bind fun t191 => (some (wrap64 ((Int.tmod a1 t187) - t191)))) else (some (Int.tmod a1 t187)))))))) else (some 0))
theorem assessorref11_Wrap.mono : ∀ a0 a1 k, LeO (assessorref11_Wrap.f k a0 a1) (assessorref11_Wrap.f (k + 1) a0 a1) := by
  intro a0 a1 k
  unfold assessorref11_Wrap.f
  repeat' first
      | (with_reducible exact assessorref11_Greatest.mono _ _)
      | (with_reducible exact assessorref11_Least.mono _ _)
      | (with_reducible exact assessorref11_power.mono _ _)
      | (with_reducible exact LeO.refl _)
      | (with_reducible exact LeO.none _)
      | (with_reducible refine LeO.ite ?_ ?_)
      | (with_reducible refine LeO.bind ?_ (fun _ => ?_))
      | exact assessorref11_Greatest.mono _ _
      | exact assessorref11_Least.mono _ _
      | exact assessorref11_power.mono _ _
      | exact LeO.none _
      | refine LeO.ite ?_ ?_
      | refine LeO.bind ?_ (fun _ => ?_)
set_option maxHeartbeats 8000000 in
set_option maxRecDepth 100000 in
theorem assessorref11_Wrap.calls (k : Nat) (a0 : Int) (a1 : Int) (r : Int) (w : World) (h : assessorref11_Wrap.f k a0 a1 = some r) :
    Calls Try.prog 18 #[.int .i64 a0, .int .i64 a1] w fun e w' => e = .returned (.int .i64 r) ∧ Drawn0 w w' := by
  have H : ((assessorref11_Width.f a0).bind fun t186 => (if t186 = true then ((assessorref11_power.f k a0).bind fun t187 => (if t187 = 0 then (none) else ((assessorref11_Least.f k a0).bind fun t188 => (if (Int.tmod a1 t187) < t188 then ((assessorref11_power.f k a0).bind fun t189 => (some (wrap64 ((Int.tmod a1 t187) + t189)))) else ((assessorref11_Greatest.f k a0).bind fun t190 => (if (Int.tmod a1 t187) > t190 then ((assessorref11_power.f k a0).bind fun t191 => (some (wrap64 ((Int.tmod a1 t187) - t191)))) else (some (Int.tmod a1 t187)))))))) else (some 0))) = some r := h
  clear h
  replace H := Option.bind_eq_some_iff.mp H
  obtain ⟨t186, A30, H⟩ := H
  replace H : (if t186 = true then ((assessorref11_power.f k a0).bind fun t187 => (if t187 = 0 then (none) else ((assessorref11_Least.f k a0).bind fun t188 => (if (Int.tmod a1 t187) < t188 then ((assessorref11_power.f k a0).bind fun t189 => (some (wrap64 ((Int.tmod a1 t187) + t189)))) else ((assessorref11_Greatest.f k a0).bind fun t190 => (if (Int.tmod a1 t187) > t190 then ((assessorref11_power.f k a0).bind fun t191 => (some (wrap64 ((Int.tmod a1 t187) - t191)))) else (some (Int.tmod a1 t187)))))))) else (some 0)) = some r := H
  have A3 := Aside0.mk A30
  clear A30
  by_cases c4 : t186 = true
  · subst c4
    have H1 : ((assessorref11_power.f k a0).bind fun t187 => (if t187 = 0 then (none) else ((assessorref11_Least.f k a0).bind fun t188 => (if (Int.tmod a1 t187) < t188 then ((assessorref11_power.f k a0).bind fun t189 => (some (wrap64 ((Int.tmod a1 t187) + t189)))) else ((assessorref11_Greatest.f k a0).bind fun t190 => (if (Int.tmod a1 t187) > t190 then ((assessorref11_power.f k a0).bind fun t191 => (some (wrap64 ((Int.tmod a1 t187) - t191)))) else (some (Int.tmod a1 t187)))))))) = some r := by rw [if_pos rfl] at H; exact H
    clear H
    have H := H1
    clear H1
    replace H := Option.bind_eq_some_iff.mp H
    obtain ⟨t187, A50, H⟩ := H
    replace H : (if t187 = 0 then (none) else ((assessorref11_Least.f k a0).bind fun t188 => (if (Int.tmod a1 t187) < t188 then ((assessorref11_power.f k a0).bind fun t189 => (some (wrap64 ((Int.tmod a1 t187) + t189)))) else ((assessorref11_Greatest.f k a0).bind fun t190 => (if (Int.tmod a1 t187) > t190 then ((assessorref11_power.f k a0).bind fun t191 => (some (wrap64 ((Int.tmod a1 t187) - t191)))) else (some (Int.tmod a1 t187))))))) = some r := H
    have A5 := Aside0.mk A50
    clear A50
    by_cases c6 : t187 = 0
    · rw [if_pos c6] at H
      exact absurd H (by simp)
    · rw [if_neg c6] at H
      have c6b0 : (t187 == 0) = false := beq_eq_false_iff_ne.mpr c6
      have c6b1 : (t187 != 0) = true := bne_iff_ne.mpr c6
      replace H := Option.bind_eq_some_iff.mp H
      obtain ⟨t188, A70, H⟩ := H
      replace H : (if (Int.tmod a1 t187) < t188 then ((assessorref11_power.f k a0).bind fun t189 => (some (wrap64 ((Int.tmod a1 t187) + t189)))) else ((assessorref11_Greatest.f k a0).bind fun t190 => (if (Int.tmod a1 t187) > t190 then ((assessorref11_power.f k a0).bind fun t191 => (some (wrap64 ((Int.tmod a1 t187) - t191)))) else (some (Int.tmod a1 t187))))) = some r := H
      have A7 := Aside0.mk A70
      clear A70
      by_cases c8 : (Int.tmod a1 t187) < t188
      · rw [if_pos c8] at H
        have c8b0 : decide ((Int.tmod a1 t187) < t188) = true := decide_eq_true c8
        clear c8
        replace H := Option.bind_eq_some_iff.mp H
        obtain ⟨t189, A90, H⟩ := H
        replace H : (some (wrap64 ((Int.tmod a1 t187) + t189))) = some r := H
        have A9 := Aside0.mk A90
        clear A90
        obtain rfl := Option.some.inj H
        go_enter Try.func18, Try.ntmps18
        go_wp2_with (first | ((with_reducible refine gate_callee (f := 37) rfl ?_); refine goesL_ (some 6) rfl rfl Try.func37 (by kernel_rfl) rfl #[.int .i64 a0] rfl (by (try simp only [List.map_toArray, List.map_cons, List.map_nil]); first | done | rfl | (simp only [List.length_drop, List.length_take]; rfl)) ?_; (with_reducible refine (assessorref11_Width.calls a0 true _ A3.out).mono ?_); rintro e w' ⟨rfl, ⟨nd, rfl⟩⟩; refine ⟨_, rfl, ?_⟩) | ((with_reducible refine gate_callee (f := 42) rfl ?_); refine goesL_ (some 10) rfl rfl Try.func42 (by kernel_rfl) rfl #[.int .i64 a0] rfl (by (try simp only [List.map_toArray, List.map_cons, List.map_nil]); first | done | rfl | (simp only [List.length_drop, List.length_take]; rfl)) ?_; (with_reducible refine (assessorref11_power.calls k a0 t187 _ A5.out).mono ?_); rintro e w' ⟨rfl, ⟨nd, rfl⟩⟩; refine ⟨_, rfl, ?_⟩) | ((with_reducible refine gate_callee (f := 20) rfl ?_); refine goesL_ (some 14) rfl rfl Try.func20 (by kernel_rfl) rfl #[.int .i64 a0] rfl (by (try simp only [List.map_toArray, List.map_cons, List.map_nil]); first | done | rfl | (simp only [List.length_drop, List.length_take]; rfl)) ?_; (with_reducible refine (assessorref11_Least.calls k a0 t188 _ A7.out).mono ?_); rintro e w' ⟨rfl, ⟨nd, rfl⟩⟩; refine ⟨_, rfl, ?_⟩) | ((with_reducible refine gate_callee (f := 42) rfl ?_); refine goesL_ (some 18) rfl rfl Try.func42 (by kernel_rfl) rfl #[.int .i64 a0] rfl (by (try simp only [List.map_toArray, List.map_cons, List.map_nil]); first | done | rfl | (simp only [List.length_drop, List.length_take]; rfl)) ?_; (with_reducible refine (assessorref11_power.calls k a0 t189 _ A9.out).mono ?_); rintro e w' ⟨rfl, ⟨nd, rfl⟩⟩; refine ⟨_, rfl, ?_⟩))
        go_ret
        exact ⟨by first | rfl | (simp; done) | (simp [*]; done), by repeat (first | exact Drawn0.refl _ | apply Drawn0.step)⟩
      · rw [if_neg c8] at H
        have c8b0 : decide ((Int.tmod a1 t187) < t188) = false := decide_eq_false c8
        clear c8
        replace H := Option.bind_eq_some_iff.mp H
        obtain ⟨t190, A100, H⟩ := H
        replace H : (if (Int.tmod a1 t187) > t190 then ((assessorref11_power.f k a0).bind fun t191 => (some (wrap64 ((Int.tmod a1 t187) - t191)))) else (some (Int.tmod a1 t187))) = some r := H
        have A10 := Aside0.mk A100
        clear A100
        by_cases c11 : (Int.tmod a1 t187) > t190
        · rw [if_pos c11] at H
          have c11b0 : decide (t190 < (Int.tmod a1 t187)) = true := decide_eq_true c11
          clear c11
          replace H := Option.bind_eq_some_iff.mp H
          obtain ⟨t191, A120, H⟩ := H
          replace H : (some (wrap64 ((Int.tmod a1 t187) - t191))) = some r := H
          have A12 := Aside0.mk A120
          clear A120
          obtain rfl := Option.some.inj H
          go_enter Try.func18, Try.ntmps18
          go_wp2_with (first | ((with_reducible refine gate_callee (f := 37) rfl ?_); refine goesL_ (some 6) rfl rfl Try.func37 (by kernel_rfl) rfl #[.int .i64 a0] rfl (by (try simp only [List.map_toArray, List.map_cons, List.map_nil]); first | done | rfl | (simp only [List.length_drop, List.length_take]; rfl)) ?_; (with_reducible refine (assessorref11_Width.calls a0 true _ A3.out).mono ?_); rintro e w' ⟨rfl, ⟨nd, rfl⟩⟩; refine ⟨_, rfl, ?_⟩) | ((with_reducible refine gate_callee (f := 42) rfl ?_); refine goesL_ (some 10) rfl rfl Try.func42 (by kernel_rfl) rfl #[.int .i64 a0] rfl (by (try simp only [List.map_toArray, List.map_cons, List.map_nil]); first | done | rfl | (simp only [List.length_drop, List.length_take]; rfl)) ?_; (with_reducible refine (assessorref11_power.calls k a0 t187 _ A5.out).mono ?_); rintro e w' ⟨rfl, ⟨nd, rfl⟩⟩; refine ⟨_, rfl, ?_⟩) | ((with_reducible refine gate_callee (f := 20) rfl ?_); refine goesL_ (some 14) rfl rfl Try.func20 (by kernel_rfl) rfl #[.int .i64 a0] rfl (by (try simp only [List.map_toArray, List.map_cons, List.map_nil]); first | done | rfl | (simp only [List.length_drop, List.length_take]; rfl)) ?_; (with_reducible refine (assessorref11_Least.calls k a0 t188 _ A7.out).mono ?_); rintro e w' ⟨rfl, ⟨nd, rfl⟩⟩; refine ⟨_, rfl, ?_⟩) | ((with_reducible refine gate_callee (f := 22) rfl ?_); refine goesL_ (some 22) rfl rfl Try.func22 (by kernel_rfl) rfl #[.int .i64 a0] rfl (by (try simp only [List.map_toArray, List.map_cons, List.map_nil]); first | done | rfl | (simp only [List.length_drop, List.length_take]; rfl)) ?_; (with_reducible refine (assessorref11_Greatest.calls k a0 t190 _ A10.out).mono ?_); rintro e w' ⟨rfl, ⟨nd, rfl⟩⟩; refine ⟨_, rfl, ?_⟩) | ((with_reducible refine gate_callee (f := 42) rfl ?_); refine goesL_ (some 26) rfl rfl Try.func42 (by kernel_rfl) rfl #[.int .i64 a0] rfl (by (try simp only [List.map_toArray, List.map_cons, List.map_nil]); first | done | rfl | (simp only [List.length_drop, List.length_take]; rfl)) ?_; (with_reducible refine (assessorref11_power.calls k a0 t191 _ A12.out).mono ?_); rintro e w' ⟨rfl, ⟨nd, rfl⟩⟩; refine ⟨_, rfl, ?_⟩))
          go_ret
          exact ⟨by first | rfl | (simp; done) | (simp [*]; done), by repeat (first | exact Drawn0.refl _ | apply Drawn0.step)⟩
        · rw [if_neg c11] at H
          have c11b0 : decide (t190 < (Int.tmod a1 t187)) = false := decide_eq_false c11
          clear c11
          obtain rfl := Option.some.inj H
          go_enter Try.func18, Try.ntmps18
          go_wp2_with (first | ((with_reducible refine gate_callee (f := 37) rfl ?_); refine goesL_ (some 6) rfl rfl Try.func37 (by kernel_rfl) rfl #[.int .i64 a0] rfl (by (try simp only [List.map_toArray, List.map_cons, List.map_nil]); first | done | rfl | (simp only [List.length_drop, List.length_take]; rfl)) ?_; (with_reducible refine (assessorref11_Width.calls a0 true _ A3.out).mono ?_); rintro e w' ⟨rfl, ⟨nd, rfl⟩⟩; refine ⟨_, rfl, ?_⟩) | ((with_reducible refine gate_callee (f := 42) rfl ?_); refine goesL_ (some 10) rfl rfl Try.func42 (by kernel_rfl) rfl #[.int .i64 a0] rfl (by (try simp only [List.map_toArray, List.map_cons, List.map_nil]); first | done | rfl | (simp only [List.length_drop, List.length_take]; rfl)) ?_; (with_reducible refine (assessorref11_power.calls k a0 t187 _ A5.out).mono ?_); rintro e w' ⟨rfl, ⟨nd, rfl⟩⟩; refine ⟨_, rfl, ?_⟩) | ((with_reducible refine gate_callee (f := 20) rfl ?_); refine goesL_ (some 14) rfl rfl Try.func20 (by kernel_rfl) rfl #[.int .i64 a0] rfl (by (try simp only [List.map_toArray, List.map_cons, List.map_nil]); first | done | rfl | (simp only [List.length_drop, List.length_take]; rfl)) ?_; (with_reducible refine (assessorref11_Least.calls k a0 t188 _ A7.out).mono ?_); rintro e w' ⟨rfl, ⟨nd, rfl⟩⟩; refine ⟨_, rfl, ?_⟩) | ((with_reducible refine gate_callee (f := 22) rfl ?_); refine goesL_ (some 22) rfl rfl Try.func22 (by kernel_rfl) rfl #[.int .i64 a0] rfl (by (try simp only [List.map_toArray, List.map_cons, List.map_nil]); first | done | rfl | (simp only [List.length_drop, List.length_take]; rfl)) ?_; (with_reducible refine (assessorref11_Greatest.calls k a0 t190 _ A10.out).mono ?_); rintro e w' ⟨rfl, ⟨nd, rfl⟩⟩; refine ⟨_, rfl, ?_⟩))
          go_ret
          exact ⟨by first | rfl | (simp; done) | (simp [*]; done), by repeat (first | exact Drawn0.refl _ | apply Drawn0.step)⟩
  · replace c4 := Bool.eq_false_iff.mpr c4
    subst c4
    have H1 : (some 0) = some r := by rw [if_neg (show ¬ (false = true) by decide)] at H; exact H
    clear H
    have H := H1
    clear H1
    obtain rfl := Option.some.inj H
    go_enter Try.func18, Try.ntmps18
    go_wp2_with (first | ((with_reducible refine gate_callee (f := 37) rfl ?_); refine goesL_ (some 6) rfl rfl Try.func37 (by kernel_rfl) rfl #[.int .i64 a0] rfl (by (try simp only [List.map_toArray, List.map_cons, List.map_nil]); first | done | rfl | (simp only [List.length_drop, List.length_take]; rfl)) ?_; (with_reducible refine (assessorref11_Width.calls a0 false _ A3.out).mono ?_); rintro e w' ⟨rfl, ⟨nd, rfl⟩⟩; refine ⟨_, rfl, ?_⟩))
    go_ret
    exact ⟨by first | rfl | (simp; done) | (simp [*]; done), by repeat (first | exact Drawn0.refl _ | apply Drawn0.step)⟩

end Go.Proofs.Ytogknojocodhgaa.P
