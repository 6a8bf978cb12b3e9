-- Written by a program of this session (jprint.py over the kit's print), for this claim. Lean checks it.
import Derived.Test.YtogknojocodhgaaPx0
import Derived.Test.YtogknojocodhgaaPx3
import Derived.Test.YtogknojocodhgaaPx5
import Derived.Test.YtogknojocodhgaaBin
namespace Go.Proofs.Ytogknojocodhgaa.P
open Go.RowKit Go.Proofs.YtogknojocodhgaaW.PrintWords Go.Proofs.YtogknojocodhgaaW.PrintLast Go.Proofs.YtogknojocodhgaaW.PrintMore
attribute [local go_sem] max2_int min2_int max_two min_two max_three min_three max_four min_four   -- for this text's walks alone
set_option linter.unusedVariables false
set_option linter.unusedSimpArgs false

/-! ### assessorlaw11_ValueDivides: function 4 -/
mutual
def assessorlaw11_ValueDivides.j0 : Nat → Int → Int → Int → Bool → Option (Bool)
  | 0, _, _, _, _ => none
  | k + 1, x0, x1, x2, x26 => if x26 = true then ((assessorlaw11_awake.f k).bind fun t274 => (some t274)) else ((value_Wrap.f x0 x1).bind fun t275 => ((value_Wrap.f x0 x2).bind fun t276 => ((value_Binary.f x0 (⟨#[47]⟩ : ByteArray) t275 t276).bind fun bt277 => ((value_Binary.f x0 (⟨#[37]⟩ : ByteArray) t275 t276).bind fun bt280 => (if bt277.2.2 = 0 then (if bt280.2.2 = 0 then (if ((bt277.2.1 == 1) != (t276 == 0)) = true then (assessorlaw11_ValueDivides.j1 k x0 t275 t276 bt277.1 bt280.1 true) else (assessorlaw11_ValueDivides.j1 k x0 t275 t276 bt277.1 bt280.1 (bt277.2.1 != bt280.2.1))) else (assessorlaw11_ValueDivides.j1 k x0 t275 t276 bt277.1 bt280.1 true)) else (assessorlaw11_ValueDivides.j1 k x0 t275 t276 bt277.1 bt280.1 true))))))
def assessorlaw11_ValueDivides.j1 : Nat → Int → Int → Int → Int → Int → Bool → Option (Bool)
  | 0, _, _, _, _, _, _ => none
  | k + 1, x0, x7, x8, x9, x12, x67 => if x67 = true then (some false) else (if x8 = 0 then (if x9 = 0 then (if x12 = 0 then ((assessorlaw11_awake.f k).bind fun t283 => (some t283)) else (some false)) else (some false)) else ((value_Binary.f x0 (⟨#[42]⟩ : ByteArray) x9 x8).bind fun bt284 => ((value_Binary.f x0 (⟨#[43]⟩ : ByteArray) bt284.1 x12).bind fun bt287 => (if bt287.1 = x7 then (if (mx x12 (wrap64 (-x12))) < (mx x8 (wrap64 (-x8))) then (if x12 = 0 then ((assessorlaw11_awake.f k).bind fun t290 => (some t290)) else (if ((decide (x12 < 0)) == (decide (x7 < 0))) = true then ((assessorlaw11_awake.f k).bind fun t291 => (some t291)) else (some false))) else (some false)) else (some false)))))
end
def assessorlaw11_ValueDivides.f (k : Nat) (a0 : Int) (a1 : Int) (a2 : Int) : Option (Bool) := if a0 < 2 then (assessorlaw11_ValueDivides.j0 k a0 a1 a2 true) else (assessorlaw11_ValueDivides.j0 k a0 a1 a2 (decide (a0 > 8)))
theorem assessorlaw11_ValueDivides.mono_l : ∀ k, (∀ y0 y1 y2 y3, LeO (assessorlaw11_ValueDivides.j0 k y0 y1 y2 y3) (assessorlaw11_ValueDivides.j0 (k + 1) y0 y1 y2 y3)) ∧ (∀ y0 y1 y2 y3 y4 y5, LeO (assessorlaw11_ValueDivides.j1 k y0 y1 y2 y3 y4 y5) (assessorlaw11_ValueDivides.j1 (k + 1) y0 y1 y2 y3 y4 y5))
  | 0 => ⟨fun _ _ _ _ r h => by simp [assessorlaw11_ValueDivides.j0] at h, fun _ _ _ _ _ _ r h => by simp [assessorlaw11_ValueDivides.j1] at h⟩
  | k + 1 => by
    obtain ⟨ih0, ih1⟩ := assessorlaw11_ValueDivides.mono_l k
    refine ⟨?_, ?_⟩
    · intro y0 y1 y2 y3
      unfold assessorlaw11_ValueDivides.j0
      repeat' first
      | (with_reducible exact ih0 _ _ _ _)
      | (with_reducible exact ih1 _ _ _ _ _ _)
      | (with_reducible exact assessorlaw11_awake.mono _)
      | (with_reducible exact LeO.refl _)
      | (with_reducible exact LeO.none _)
      | (with_reducible refine LeO.ite ?_ ?_)
      | (with_reducible refine LeO.bind ?_ (fun _ => ?_))
      | exact ih0 _ _ _ _
      | exact ih1 _ _ _ _ _ _
      | exact assessorlaw11_awake.mono _
      | exact LeO.none _
      | refine LeO.ite ?_ ?_
      | refine LeO.bind ?_ (fun _ => ?_)
    · intro y0 y1 y2 y3 y4 y5
      unfold assessorlaw11_ValueDivides.j1
      repeat' first
      | (with_reducible exact ih0 _ _ _ _)
      | (with_reducible exact ih1 _ _ _ _ _ _)
      | (with_reducible exact assessorlaw11_awake.mono _)
      | (with_reducible exact LeO.refl _)
      | (with_reducible exact LeO.none _)
      | (with_reducible refine LeO.ite ?_ ?_)
      | (with_reducible refine LeO.bind ?_ (fun _ => ?_))
      | exact ih0 _ _ _ _
      | exact ih1 _ _ _ _ _ _
      | exact assessorlaw11_awake.mono _
      | exact LeO.none _
      | refine LeO.ite ?_ ?_
      | refine LeO.bind ?_ (fun _ => ?_)
theorem assessorlaw11_ValueDivides.mono : ∀ a0 a1 a2 k, LeO (assessorlaw11_ValueDivides.f k a0 a1 a2) (assessorlaw11_ValueDivides.f (k + 1) a0 a1 a2) := by
  intro a0 a1 a2 k
  obtain ⟨ih0, ih1⟩ := assessorlaw11_ValueDivides.mono_l k
  unfold assessorlaw11_ValueDivides.f
  repeat' first
      | (with_reducible exact ih0 _ _ _ _)
      | (with_reducible exact ih1 _ _ _ _ _ _)
      | (with_reducible exact assessorlaw11_awake.mono _)
      | (with_reducible exact LeO.refl _)
      | (with_reducible exact LeO.none _)
      | (with_reducible refine LeO.ite ?_ ?_)
      | (with_reducible refine LeO.bind ?_ (fun _ => ?_))
      | exact ih0 _ _ _ _
      | exact ih1 _ _ _ _ _ _
      | exact assessorlaw11_awake.mono _
      | exact LeO.none _
      | refine LeO.ite ?_ ?_
      | refine LeO.bind ?_ (fun _ => ?_)
set_option maxHeartbeats 8000000 in
set_option maxRecDepth 100000 in
theorem assessorlaw11_ValueDivides.calls (k : Nat) (a0 : Int) (a1 : Int) (a2 : Int) (r : Bool) (w : World) (h : assessorlaw11_ValueDivides.f k a0 a1 a2 = some r) :
    Calls Try.prog 4 #[.int .i64 a0, .int .i64 a1, .int .i64 a2] w fun e w' => e = .returned (.bool r) ∧ Below w.heap.size w w' := by
  have HB := Aside0.mk (Below.refl w.heap.size w)
  have H : (if a0 < 2 then (assessorlaw11_ValueDivides.j0 k a0 a1 a2 true) else (assessorlaw11_ValueDivides.j0 k a0 a1 a2 (decide (a0 > 8)))) = some r := h
  clear h
  have HC4 := Aside0.mk H
  clear H
  go_enter Try.func4, Try.ntmps4
  go_upto_region 1 with (fail)
  go_cut [26] (fun v26 wc => ∃ (kq : Nat) (x26_3 : Bool), v26 = .bool x26_3 ∧ Aside0 (assessorlaw11_ValueDivides.j0 kq a0 a1 a2 x26_3 = some r) ∧ Aside0 (kq ≤ k) ∧ Aside0 (Below w.heap.size w wc))
  case first =>
    have H := HC4.out
    clear HC4
    by_cases c5 : a0 < 2
    · rw [if_pos c5] at H
      have c5b0 : decide (a0 < 2) = true := decide_eq_true c5
      clear c5
      (first | rw [c5b0] | (simp only [i64_w, i32_w]; rw [c5b0]) | skip)
      have H' := Aside0.mk H
      clear H
      go_wp2
      go_meet
      case rel => exact ⟨_, (true), (by first | rfl | (simp; done) | (simp [*]; done)), H', ⟨by first | omega | exact Nat.le_refl _⟩, ⟨by repeat (first | (with_reducible first | exact HB.out | apply below_alloc | apply pw_below_drewN | apply below_drew1) | exact HB.out)⟩⟩
    · rw [if_neg c5] at H
      have c5b0 : decide (a0 < 2) = false := decide_eq_false c5
      clear c5
      (first | rw [c5b0] | (simp only [i64_w, i32_w]; rw [c5b0]) | skip)
      have H' := Aside0.mk H
      clear H
      go_wp2
      go_meet
      case rel => exact ⟨_, (decide (a0 > 8)), (by first | rfl | (simp; done) | (simp [*]; done)), H', ⟨by first | omega | exact Nat.le_refl _⟩, ⟨by repeat (first | (with_reducible first | exact HB.out | apply below_alloc | apply pw_below_drewN | apply below_drew1) | exact HB.out)⟩⟩
  case rest =>
    clear HC4
    try clear p2
    try clear c4
    try clear c5
    try clear c5b0
    obtain ⟨kq, x26_3, rfl, HA, HJ3, HB⟩ := hcut
    cases kq with
    | zero => exact absurd HA.out (by simp [assessorlaw11_ValueDivides.j0])
    | succ kj3 =>
      have H := HA.out
      clear HA
      simp only [assessorlaw11_ValueDivides.j0] at H
      by_cases c6 : x26_3 = true
      · subst c6
        have H1 : ((assessorlaw11_awake.f kj3).bind fun t274 => (some t274)) = some r := by rw [if_pos rfl] at H; exact H
        clear H
        have H := H1
        clear H1
        replace H := Option.bind_eq_some_iff.mp H
        obtain ⟨t274, A70, H⟩ := H
        replace H : (some t274) = some r := H
        have A7 := Aside0.mk A70
        clear A70
        obtain rfl := Option.some.inj H
        go_wp2_with (first | ((with_reducible refine gate_callee (f := 9) rfl ?_); refine goesL_ (some 27) rfl rfl Try.func9 (by kernel_rfl) rfl #[] rfl (by (try simp only [List.map_toArray, List.map_cons, List.map_nil]); first | done | rfl | (simp only [List.length_drop, List.length_take]; rfl)) ?_; (with_reducible refine (assessorlaw11_awake.calls kj3  t274 _ A7.out).mono ?_); rintro e w8 ⟨rfl, hb⟩; refine ⟨_, rfl, ?_⟩; have n0_ := Aside0.mk (below_step (by repeat (first | (with_reducible first | exact HB.out | apply below_alloc | apply pw_below_drewN | apply below_drew1) | exact HB.out)) hb); clear HB; have HB := n0_; clear n0_; (try clear hb); (try clear hb2); (try clear hk); (try clear hi)))
        go_ret
        exact ⟨by first | rfl | (simp [errW_none, errW_some] <;> rfl) | (simp [*, errW_none, errW_some] <;> rfl), by repeat (first | (with_reducible first | exact HB.out | apply below_alloc | apply pw_below_drewN | apply below_drew1) | exact HB.out)⟩
      · replace c6 := Bool.eq_false_iff.mpr c6
        subst c6
        have H1 : ((value_Wrap.f a0 a1).bind fun t275 => ((value_Wrap.f a0 a2).bind fun t276 => ((value_Binary.f a0 (⟨#[47]⟩ : ByteArray) t275 t276).bind fun bt277 => ((value_Binary.f a0 (⟨#[37]⟩ : ByteArray) t275 t276).bind fun bt280 => (if bt277.2.2 = 0 then (if bt280.2.2 = 0 then (if ((bt277.2.1 == 1) != (t276 == 0)) = true then (assessorlaw11_ValueDivides.j1 kj3 a0 t275 t276 bt277.1 bt280.1 true) else (assessorlaw11_ValueDivides.j1 kj3 a0 t275 t276 bt277.1 bt280.1 (bt277.2.1 != bt280.2.1))) else (assessorlaw11_ValueDivides.j1 kj3 a0 t275 t276 bt277.1 bt280.1 true)) else (assessorlaw11_ValueDivides.j1 kj3 a0 t275 t276 bt277.1 bt280.1 true)))))) = some r := by rw [if_neg (show ¬ (false = true) by decide)] at H; exact H
        clear H
        have H := H1
        clear H1
        replace H := Option.bind_eq_some_iff.mp H
        obtain ⟨t275, A90, H⟩ := H
        replace H : ((value_Wrap.f a0 a2).bind fun t276 => ((value_Binary.f a0 (⟨#[47]⟩ : ByteArray) t275 t276).bind fun bt277 => ((value_Binary.f a0 (⟨#[37]⟩ : ByteArray) t275 t276).bind fun bt280 => (if bt277.2.2 = 0 then (if bt280.2.2 = 0 then (if ((bt277.2.1 == 1) != (t276 == 0)) = true then (assessorlaw11_ValueDivides.j1 kj3 a0 t275 t276 bt277.1 bt280.1 true) else (assessorlaw11_ValueDivides.j1 kj3 a0 t275 t276 bt277.1 bt280.1 (bt277.2.1 != bt280.2.1))) else (assessorlaw11_ValueDivides.j1 kj3 a0 t275 t276 bt277.1 bt280.1 true)) else (assessorlaw11_ValueDivides.j1 kj3 a0 t275 t276 bt277.1 bt280.1 true))))) = some r := H
        have A9 := Aside0.mk A90
        clear A90
        replace H := Option.bind_eq_some_iff.mp H
        obtain ⟨t276, A100, H⟩ := H
        replace H : ((value_Binary.f a0 (⟨#[47]⟩ : ByteArray) t275 t276).bind fun bt277 => ((value_Binary.f a0 (⟨#[37]⟩ : ByteArray) t275 t276).bind fun bt280 => (if bt277.2.2 = 0 then (if bt280.2.2 = 0 then (if ((bt277.2.1 == 1) != (t276 == 0)) = true then (assessorlaw11_ValueDivides.j1 kj3 a0 t275 t276 bt277.1 bt280.1 true) else (assessorlaw11_ValueDivides.j1 kj3 a0 t275 t276 bt277.1 bt280.1 (bt277.2.1 != bt280.2.1))) else (assessorlaw11_ValueDivides.j1 kj3 a0 t275 t276 bt277.1 bt280.1 true)) else (assessorlaw11_ValueDivides.j1 kj3 a0 t275 t276 bt277.1 bt280.1 true)))) = some r := H
        have A10 := Aside0.mk A100
        clear A100
        replace H := Option.bind_eq_some_iff.mp H
        obtain ⟨⟨t277, t278, t279⟩, A110, H⟩ := H
        replace H : ((value_Binary.f a0 (⟨#[37]⟩ : ByteArray) t275 t276).bind fun bt280 => (if t279 = 0 then (if bt280.2.2 = 0 then (if ((t278 == 1) != (t276 == 0)) = true then (assessorlaw11_ValueDivides.j1 kj3 a0 t275 t276 t277 bt280.1 true) else (assessorlaw11_ValueDivides.j1 kj3 a0 t275 t276 t277 bt280.1 (t278 != bt280.2.1))) else (assessorlaw11_ValueDivides.j1 kj3 a0 t275 t276 t277 bt280.1 true)) else (assessorlaw11_ValueDivides.j1 kj3 a0 t275 t276 t277 bt280.1 true))) = some r := H
        have A11 := Aside0.mk A110
        clear A110
        replace H := Option.bind_eq_some_iff.mp H
        obtain ⟨⟨t280, t281, t282⟩, A120, H⟩ := H
        replace H : (if t279 = 0 then (if t282 = 0 then (if ((t278 == 1) != (t276 == 0)) = true then (assessorlaw11_ValueDivides.j1 kj3 a0 t275 t276 t277 t280 true) else (assessorlaw11_ValueDivides.j1 kj3 a0 t275 t276 t277 t280 (t278 != t281))) else (assessorlaw11_ValueDivides.j1 kj3 a0 t275 t276 t277 t280 true)) else (assessorlaw11_ValueDivides.j1 kj3 a0 t275 t276 t277 t280 true)) = some r := H
        have A12 := Aside0.mk A120
        clear A120
        have HC13 := Aside0.mk H
        clear H
        go_upto_region 6 with (first | ((with_reducible refine gate_callee (f := 13) rfl ?_); refine goesL_ (some 30) rfl rfl Try.func13 (by kernel_rfl) rfl #[.int .i64 a0, .int .i64 a1] rfl (by (try simp only [List.map_toArray, List.map_cons, List.map_nil]); first | done | rfl | (simp only [List.length_drop, List.length_take]; rfl)) ?_; (with_reducible refine (value_Wrap.calls a0 a1 t275 _ A9.out).mono ?_); rintro e w' ⟨rfl, ⟨nd, rfl⟩⟩; refine ⟨_, rfl, ?_⟩) | ((with_reducible refine gate_callee (f := 13) rfl ?_); refine goesL_ (some 33) rfl rfl Try.func13 (by kernel_rfl) rfl #[.int .i64 a0, .int .i64 a2] rfl (by (try simp only [List.map_toArray, List.map_cons, List.map_nil]); first | done | rfl | (simp only [List.length_drop, List.length_take]; rfl)) ?_; (with_reducible refine (value_Wrap.calls a0 a2 t276 _ A10.out).mono ?_); rintro e w' ⟨rfl, ⟨nd, rfl⟩⟩; refine ⟨_, rfl, ?_⟩) | ((with_reducible refine gate_callee (f := 14) rfl ?_); refine goesL_ (some 38) rfl rfl Try.func14 (by kernel_rfl) rfl #[.int .i64 a0, .string (⟨#[47]⟩ : ByteArray), .int .i64 t275, .int .i64 t276] rfl (by (try simp only [List.map_toArray, List.map_cons, List.map_nil]); first | done | rfl | (simp only [List.length_drop, List.length_take]; rfl)) ?_; (with_reducible refine (value_Binary.calls a0 (⟨#[47]⟩ : ByteArray) t275 t276 t277 t278 t279 _ A11.out).mono ?_); rintro e w14 ⟨rfl, hb⟩; refine ⟨_, rfl, ?_⟩; have n0_ := Aside0.mk (below_step (by repeat (first | (with_reducible first | exact HB.out | apply below_alloc | apply pw_below_drewN | apply below_drew1) | exact HB.out)) hb); clear HB; have HB := n0_; clear n0_; (try clear hb); (try clear hb2); (try clear hk); (try clear hi)) | ((with_reducible refine gate_callee (f := 14) rfl ?_); refine goesL_ (some 46) rfl rfl Try.func14 (by kernel_rfl) rfl #[.int .i64 a0, .string (⟨#[37]⟩ : ByteArray), .int .i64 t275, .int .i64 t276] rfl (by (try simp only [List.map_toArray, List.map_cons, List.map_nil]); first | done | rfl | (simp only [List.length_drop, List.length_take]; rfl)) ?_; (with_reducible refine (value_Binary.calls a0 (⟨#[37]⟩ : ByteArray) t275 t276 t280 t281 t282 _ A12.out).mono ?_); rintro e w15 ⟨rfl, hb⟩; refine ⟨_, rfl, ?_⟩; have n0_ := Aside0.mk (below_step (by repeat (first | (with_reducible first | exact HB.out | apply below_alloc | apply pw_below_drewN | apply below_drew1) | exact HB.out)) hb); clear HB; have HB := n0_; clear n0_; (try clear hb); (try clear hb2); (try clear hk); (try clear hi)))
        (try simp only [Act.put, List.setIfInBounds_toArray, List.set_cons_zero, List.set_cons_succ])
        go_cut [67] (fun v67 wc => ∃ (kq : Nat) (x67_12 : Bool), v67 = .bool x67_12 ∧ Aside0 (assessorlaw11_ValueDivides.j1 kq a0 t275 t276 t277 t280 x67_12 = some r) ∧ Aside0 (kq ≤ kj3) ∧ Aside0 (Below w.heap.size w wc))
        case first =>
          have H := HC13.out
          clear HC13
          by_cases c16 : t279 = 0
          · rw [if_pos c16] at H
            have c16b0 : (t279 == 0) = true := beq_iff_eq.mpr c16
            have c16b1 : (t279 != 0) = false := bne_eq_false_iff_eq.mpr c16
            clear c16
            (first | rw [c16b0] | (simp only [i64_w, i32_w]; rw [c16b0]) | skip)
            by_cases c17 : t282 = 0
            · rw [if_pos c17] at H
              have c17b0 : (t282 == 0) = true := beq_iff_eq.mpr c17
              have c17b1 : (t282 != 0) = false := bne_eq_false_iff_eq.mpr c17
              clear c17
              by_cases c18 : ((t278 == 1) != (t276 == 0)) = true
              · rw [if_pos c18] at H
                have c18b0 : ((t278 == 1) != (t276 == 0)) = true := c18
                (try (have c18b1 : decide ((t278 == 1) = (t276 == 0)) = false := by simpa using c18))
                (try (have c18b2 : ((t278 == 1) == (t276 == 0)) = false := by simpa using c18))
                (try (have c18b3 : ¬ ((t278 == 1) = (t276 == 0)) := by simpa using c18))
                clear c18
                have H' := Aside0.mk H
                clear H
                go_wp2
                go_meet
                case rel => exact ⟨_, (true), (by first | rfl | (simp; done) | (simp [*]; done)), H', ⟨by have := HJ3.out; first | omega | exact Nat.le_refl _⟩, ⟨by repeat (first | (with_reducible first | exact HB.out | apply below_alloc | apply pw_below_drewN | apply below_drew1) | exact HB.out)⟩⟩
              · rw [if_neg c18] at H
                have c18b0 : ((t278 == 1) != (t276 == 0)) = false := by simpa using c18
                (try (have c18b1 : decide ((t278 == 1) = (t276 == 0)) = true := by simpa using c18))
                (try (have c18b2 : ((t278 == 1) == (t276 == 0)) = true := by simpa using c18))
                clear c18
                have H' := Aside0.mk H
                clear H
                go_wp2
                go_meet
                case rel => exact ⟨_, ((t278 != t281)), (by first | rfl | (simp; done) | (simp [*]; done)), H', ⟨by have := HJ3.out; first | omega | exact Nat.le_refl _⟩, ⟨by repeat (first | (with_reducible first | exact HB.out | apply below_alloc | apply pw_below_drewN | apply below_drew1) | exact HB.out)⟩⟩
            · rw [if_neg c17] at H
              have c17b0 : (t282 == 0) = false := beq_eq_false_iff_ne.mpr c17
              have c17b1 : (t282 != 0) = true := bne_iff_ne.mpr c17
              have H' := Aside0.mk H
              clear H
              go_wp2
              go_meet
              case rel => exact ⟨_, (true), (by first | rfl | (simp; done) | (simp [*]; done)), H', ⟨by have := HJ3.out; first | omega | exact Nat.le_refl _⟩, ⟨by repeat (first | (with_reducible first | exact HB.out | apply below_alloc | apply pw_below_drewN | apply below_drew1) | exact HB.out)⟩⟩
          · rw [if_neg c16] at H
            have c16b0 : (t279 == 0) = false := beq_eq_false_iff_ne.mpr c16
            have c16b1 : (t279 != 0) = true := bne_iff_ne.mpr c16
            (first | rw [c16b0] | (simp only [i64_w, i32_w]; rw [c16b0]) | skip)
            have H' := Aside0.mk H
            clear H
            go_wp2
            go_meet
            case rel => exact ⟨_, (true), (by first | rfl | (simp; done) | (simp [*]; done)), H', ⟨by have := HJ3.out; first | omega | exact Nat.le_refl _⟩, ⟨by repeat (first | (with_reducible first | exact HB.out | apply below_alloc | apply pw_below_drewN | apply below_drew1) | exact HB.out)⟩⟩
        case rest =>
          clear HC13
          try clear c1
          try clear p2
          try clear c4
          try clear c5
          try clear c5b0
          try clear c6
          try clear c9
          try clear c13
          try clear c14
          try clear c16
          try clear c16b0
          try clear c16b1
          try clear c17
          try clear c17b0
          try clear c17b1
          try clear c18
          try clear c18b0
          try clear c18b1
          try clear c18b2
          try clear p2
          obtain ⟨kq, x67_12, rfl, HA, HJ12, HB⟩ := hcut
          cases kq with
          | zero => exact absurd HA.out (by simp [assessorlaw11_ValueDivides.j1])
          | succ kj12 =>
            have H := HA.out
            clear HA
            simp only [assessorlaw11_ValueDivides.j1] at H
            by_cases c19 : x67_12 = true
            · subst c19
              have H1 : (some false) = some r := by rw [if_pos rfl] at H; exact H
              clear H
              have H := H1
              clear H1
              obtain rfl := Option.some.inj H
              go_wp2
              go_ret
              exact ⟨by first | rfl | (simp [errW_none, errW_some] <;> rfl) | (simp [*, errW_none, errW_some] <;> rfl), by repeat (first | (with_reducible first | exact HB.out | apply below_alloc | apply pw_below_drewN | apply below_drew1) | exact HB.out)⟩
            · replace c19 := Bool.eq_false_iff.mpr c19
              subst c19
              have H1 : (if t276 = 0 then (if t277 = 0 then (if t280 = 0 then ((assessorlaw11_awake.f kj12).bind fun t283 => (some t283)) else (some false)) else (some false)) else ((value_Binary.f a0 (⟨#[42]⟩ : ByteArray) t277 t276).bind fun bt284 => ((value_Binary.f a0 (⟨#[43]⟩ : ByteArray) bt284.1 t280).bind fun bt287 => (if bt287.1 = t275 then (if (mx t280 (wrap64 (-t280))) < (mx t276 (wrap64 (-t276))) then (if t280 = 0 then ((assessorlaw11_awake.f kj12).bind fun t290 => (some t290)) else (if ((decide (t280 < 0)) == (decide (t275 < 0))) = true then ((assessorlaw11_awake.f kj12).bind fun t291 => (some t291)) else (some false))) else (some false)) else (some false))))) = some r := by rw [if_neg (show ¬ (false = true) by decide)] at H; exact H
              clear H
              have H := H1
              clear H1
              by_cases c20 : t276 = 0
              · rw [if_pos c20] at H
                have c20b0 : (t276 == 0) = true := beq_iff_eq.mpr c20
                have c20b1 : (t276 != 0) = false := bne_eq_false_iff_eq.mpr c20
                clear c20
                by_cases c21 : t277 = 0
                · rw [if_pos c21] at H
                  have c21b0 : (t277 == 0) = true := beq_iff_eq.mpr c21
                  have c21b1 : (t277 != 0) = false := bne_eq_false_iff_eq.mpr c21
                  clear c21
                  by_cases c22 : t280 = 0
                  · rw [if_pos c22] at H
                    have c22b0 : (t280 == 0) = true := beq_iff_eq.mpr c22
                    have c22b1 : (t280 != 0) = false := bne_eq_false_iff_eq.mpr c22
                    clear c22
                    replace H := Option.bind_eq_some_iff.mp H
                    obtain ⟨t283, A230, H⟩ := H
                    replace H : (some t283) = some r := H
                    have A23 := Aside0.mk A230
                    clear A230
                    obtain rfl := Option.some.inj H
                    go_wp2_with (first | (go_at_call 9; (with_reducible refine (assessorlaw11_awake.calls kj12  t283 _ A23.out).mono ?_); rintro e w24 ⟨rfl, hb⟩; have n0_ := Aside0.mk (below_step (by repeat (first | (with_reducible first | exact HB.out | apply below_alloc | apply pw_below_drewN | apply below_drew1) | exact HB.out)) hb); clear HB; have HB := n0_; clear n0_; (try clear hb); (try clear hb2); (try clear hk); (try clear hi)))
                    go_ret
                    exact ⟨by first | rfl | (simp [errW_none, errW_some] <;> rfl) | (simp [*, errW_none, errW_some] <;> rfl), by repeat (first | (with_reducible first | exact HB.out | apply below_alloc | apply pw_below_drewN | apply below_drew1) | exact HB.out)⟩
                  · rw [if_neg c22] at H
                    have c22b0 : (t280 == 0) = false := beq_eq_false_iff_ne.mpr c22
                    have c22b1 : (t280 != 0) = true := bne_iff_ne.mpr c22
                    obtain rfl := Option.some.inj H
                    go_wp2
                    go_ret
                    exact ⟨by first | rfl | (simp [errW_none, errW_some] <;> rfl) | (simp [*, errW_none, errW_some] <;> rfl), by repeat (first | (with_reducible first | exact HB.out | apply below_alloc | apply pw_below_drewN | apply below_drew1) | exact HB.out)⟩
                · rw [if_neg c21] at H
                  have c21b0 : (t277 == 0) = false := beq_eq_false_iff_ne.mpr c21
                  have c21b1 : (t277 != 0) = true := bne_iff_ne.mpr c21
                  obtain rfl := Option.some.inj H
                  go_wp2
                  go_ret
                  exact ⟨by first | rfl | (simp [errW_none, errW_some] <;> rfl) | (simp [*, errW_none, errW_some] <;> rfl), by repeat (first | (with_reducible first | exact HB.out | apply below_alloc | apply pw_below_drewN | apply below_drew1) | exact HB.out)⟩
              · rw [if_neg c20] at H
                have c20b0 : (t276 == 0) = false := beq_eq_false_iff_ne.mpr c20
                have c20b1 : (t276 != 0) = true := bne_iff_ne.mpr c20
                replace H := Option.bind_eq_some_iff.mp H
                obtain ⟨⟨t284, t285, t286⟩, A250, H⟩ := H
                replace H : ((value_Binary.f a0 (⟨#[43]⟩ : ByteArray) t284 t280).bind fun bt287 => (if bt287.1 = t275 then (if (mx t280 (wrap64 (-t280))) < (mx t276 (wrap64 (-t276))) then (if t280 = 0 then ((assessorlaw11_awake.f kj12).bind fun t290 => (some t290)) else (if ((decide (t280 < 0)) == (decide (t275 < 0))) = true then ((assessorlaw11_awake.f kj12).bind fun t291 => (some t291)) else (some false))) else (some false)) else (some false))) = some r := H
                have A25 := Aside0.mk A250
                clear A250
                replace H := Option.bind_eq_some_iff.mp H
                obtain ⟨⟨t287, t288, t289⟩, A260, H⟩ := H
                replace H : (if t287 = t275 then (if (mx t280 (wrap64 (-t280))) < (mx t276 (wrap64 (-t276))) then (if t280 = 0 then ((assessorlaw11_awake.f kj12).bind fun t290 => (some t290)) else (if ((decide (t280 < 0)) == (decide (t275 < 0))) = true then ((assessorlaw11_awake.f kj12).bind fun t291 => (some t291)) else (some false))) else (some false)) else (some false)) = some r := H
                have A26 := Aside0.mk A260
                clear A260
                by_cases c27 : t287 = t275
                · rw [if_pos c27] at H
                  have c27b0 : (t287 == t275) = true := beq_iff_eq.mpr c27
                  have c27b1 : (t287 != t275) = false := bne_eq_false_iff_eq.mpr c27
                  clear c27
                  obtain ⟨ji28, hji28⟩ : ∃ j_ : Int, (mx t280 (wrap64 (-t280))) = j_ := ⟨_, rfl⟩
                  replace H : (if (ji28) < (mx t276 (wrap64 (-t276))) then (if t280 = 0 then ((assessorlaw11_awake.f kj12).bind fun t290 => (some t290)) else (if ((decide (t280 < 0)) == (decide (t275 < 0))) = true then ((assessorlaw11_awake.f kj12).bind fun t291 => (some t291)) else (some false))) else (some false)) = some r := by first | (rw [hji28] at H; exact H) | (simp only [hji28] at H ⊢; exact H)
                  (try rw [hji28] at A25)
                  (try rw [hji28] at A26)
                  have hji28_ : (if t280 < (wrap64 (-t280)) then (wrap64 (-t280)) else t280) = ji28 := hji28
                  obtain ⟨ji29, hji29⟩ : ∃ j_ : Int, (mx t276 (wrap64 (-t276))) = j_ := ⟨_, rfl⟩
                  replace H : (if (ji28) < (ji29) then (if t280 = 0 then ((assessorlaw11_awake.f kj12).bind fun t290 => (some t290)) else (if ((decide (t280 < 0)) == (decide (t275 < 0))) = true then ((assessorlaw11_awake.f kj12).bind fun t291 => (some t291)) else (some false))) else (some false)) = some r := by first | (rw [hji29] at H; exact H) | (simp only [hji29] at H ⊢; exact H)
                  (try rw [hji29] at A25)
                  (try rw [hji29] at A26)
                  have hji29_ : (if t276 < (wrap64 (-t276)) then (wrap64 (-t276)) else t276) = ji29 := hji29
                  by_cases c30 : (ji28) < (ji29)
                  · rw [if_pos c30] at H
                    have c30b0 : decide ((ji28) < (ji29)) = true := decide_eq_true c30
                    clear c30
                    by_cases c31 : t280 = 0
                    · rw [if_pos c31] at H
                      have c31b0 : (t280 == 0) = true := beq_iff_eq.mpr c31
                      have c31b1 : (t280 != 0) = false := bne_eq_false_iff_eq.mpr c31
                      clear c31
                      replace H := Option.bind_eq_some_iff.mp H
                      obtain ⟨t290, A320, H⟩ := H
                      replace H : (some t290) = some r := H
                      have A32 := Aside0.mk A320
                      clear A320
                      obtain rfl := Option.some.inj H
                      go_wp2_with (first | ((with_reducible refine gate_callee (f := 14) rfl ?_); refine goesL_ (some 83) rfl rfl Try.func14 (by kernel_rfl) rfl #[.int .i64 a0, .string (⟨#[42]⟩ : ByteArray), .int .i64 t277, .int .i64 t276] rfl (by (try simp only [List.map_toArray, List.map_cons, List.map_nil]); first | done | rfl | (simp only [List.length_drop, List.length_take]; rfl)) ?_; (with_reducible refine (value_Binary.calls a0 (⟨#[42]⟩ : ByteArray) t277 t276 t284 t285 t286 _ A25.out).mono ?_); rintro e w33 ⟨rfl, hb⟩; refine ⟨_, rfl, ?_⟩; have n0_ := Aside0.mk (below_step (by repeat (first | (with_reducible first | exact HB.out | apply below_alloc | apply pw_below_drewN | apply below_drew1) | exact HB.out)) hb); clear HB; have HB := n0_; clear n0_; (try clear hb); (try clear hb2); (try clear hk); (try clear hi)) | ((with_reducible refine gate_callee (f := 14) rfl ?_); refine goesL_ (some 91) rfl rfl Try.func14 (by kernel_rfl) rfl #[.int .i64 a0, .string (⟨#[43]⟩ : ByteArray), .int .i64 t284, .int .i64 t280] rfl (by (try simp only [List.map_toArray, List.map_cons, List.map_nil]); first | done | rfl | (simp only [List.length_drop, List.length_take]; rfl)) ?_; (with_reducible refine (value_Binary.calls a0 (⟨#[43]⟩ : ByteArray) t284 t280 t287 t288 t289 _ A26.out).mono ?_); rintro e w34 ⟨rfl, hb⟩; refine ⟨_, rfl, ?_⟩; have n0_ := Aside0.mk (below_step (by repeat (first | (with_reducible first | exact HB.out | apply below_alloc | apply pw_below_drewN | apply below_drew1) | exact HB.out)) hb); clear HB; have HB := n0_; clear n0_; (try clear hb); (try clear hb2); (try clear hk); (try clear hi)) | (go_at_call 9; (with_reducible refine (assessorlaw11_awake.calls kj12  t290 _ A32.out).mono ?_); rintro e w35 ⟨rfl, hb⟩; have n0_ := Aside0.mk (below_step (by repeat (first | (with_reducible first | exact HB.out | apply below_alloc | apply pw_below_drewN | apply below_drew1) | exact HB.out)) hb); clear HB; have HB := n0_; clear n0_; (try clear hb); (try clear hb2); (try clear hk); (try clear hi)))
                      go_ret
                      exact ⟨by first | rfl | (simp [errW_none, errW_some] <;> rfl) | (simp only [← hji28, ← hji29]; first | rfl | (simp [errW_none, errW_some] <;> rfl)) | (simp [*, errW_none, errW_some] <;> rfl), by repeat (first | (with_reducible first | exact HB.out | apply below_alloc | apply pw_below_drewN | apply below_drew1) | exact HB.out)⟩
                    · rw [if_neg c31] at H
                      have c31b0 : (t280 == 0) = false := beq_eq_false_iff_ne.mpr c31
                      have c31b1 : (t280 != 0) = true := bne_iff_ne.mpr c31
                      by_cases c36 : ((decide (t280 < 0)) == (decide (t275 < 0))) = true
                      · rw [if_pos c36] at H
                        have c36b0 : ((decide (t280 < 0)) == (decide (t275 < 0))) = true := c36
                        (try (have c36b1 : decide ((decide (t280 < 0)) = (decide (t275 < 0))) = true := by simpa using c36))
                        (try (have c36b2 : ((decide (t280 < 0)) == (decide (t275 < 0))) = true := by simpa using c36))
                        clear c36
                        replace H := Option.bind_eq_some_iff.mp H
                        obtain ⟨t291, A370, H⟩ := H
                        replace H : (some t291) = some r := H
                        have A37 := Aside0.mk A370
                        clear A370
                        obtain rfl := Option.some.inj H
                        go_wp2_with (first | ((with_reducible refine gate_callee (f := 14) rfl ?_); refine goesL_ (some 83) rfl rfl Try.func14 (by kernel_rfl) rfl #[.int .i64 a0, .string (⟨#[42]⟩ : ByteArray), .int .i64 t277, .int .i64 t276] rfl (by (try simp only [List.map_toArray, List.map_cons, List.map_nil]); first | done | rfl | (simp only [List.length_drop, List.length_take]; rfl)) ?_; (with_reducible refine (value_Binary.calls a0 (⟨#[42]⟩ : ByteArray) t277 t276 t284 t285 t286 _ A25.out).mono ?_); rintro e w38 ⟨rfl, hb⟩; refine ⟨_, rfl, ?_⟩; have n0_ := Aside0.mk (below_step (by repeat (first | (with_reducible first | exact HB.out | apply below_alloc | apply pw_below_drewN | apply below_drew1) | exact HB.out)) hb); clear HB; have HB := n0_; clear n0_; (try clear hb); (try clear hb2); (try clear hk); (try clear hi)) | ((with_reducible refine gate_callee (f := 14) rfl ?_); refine goesL_ (some 91) rfl rfl Try.func14 (by kernel_rfl) rfl #[.int .i64 a0, .string (⟨#[43]⟩ : ByteArray), .int .i64 t284, .int .i64 t280] rfl (by (try simp only [List.map_toArray, List.map_cons, List.map_nil]); first | done | rfl | (simp only [List.length_drop, List.length_take]; rfl)) ?_; (with_reducible refine (value_Binary.calls a0 (⟨#[43]⟩ : ByteArray) t284 t280 t287 t288 t289 _ A26.out).mono ?_); rintro e w39 ⟨rfl, hb⟩; refine ⟨_, rfl, ?_⟩; have n0_ := Aside0.mk (below_step (by repeat (first | (with_reducible first | exact HB.out | apply below_alloc | apply pw_below_drewN | apply below_drew1) | exact HB.out)) hb); clear HB; have HB := n0_; clear n0_; (try clear hb); (try clear hb2); (try clear hk); (try clear hi)) | (go_at_call 9; (with_reducible refine (assessorlaw11_awake.calls kj12  t291 _ A37.out).mono ?_); rintro e w40 ⟨rfl, hb⟩; have n0_ := Aside0.mk (below_step (by repeat (first | (with_reducible first | exact HB.out | apply below_alloc | apply pw_below_drewN | apply below_drew1) | exact HB.out)) hb); clear HB; have HB := n0_; clear n0_; (try clear hb); (try clear hb2); (try clear hk); (try clear hi)))
                        go_ret
                        exact ⟨by first | rfl | (simp [errW_none, errW_some] <;> rfl) | (simp only [← hji28, ← hji29]; first | rfl | (simp [errW_none, errW_some] <;> rfl)) | (simp [*, errW_none, errW_some] <;> rfl), by repeat (first | (with_reducible first | exact HB.out | apply below_alloc | apply pw_below_drewN | apply below_drew1) | exact HB.out)⟩
                      · rw [if_neg c36] at H
                        have c36b0 : ((decide (t280 < 0)) == (decide (t275 < 0))) = false := by simpa using c36
                        (try (have c36b1 : decide ((decide (t280 < 0)) = (decide (t275 < 0))) = false := by simpa using c36))
                        (try (have c36b2 : ((decide (t280 < 0)) == (decide (t275 < 0))) = false := by simpa using c36))
                        (try (have c36b3 : ¬ ((decide (t280 < 0)) = (decide (t275 < 0))) := by simpa using c36))
                        clear c36
                        obtain rfl := Option.some.inj H
                        go_wp2_with (first | ((with_reducible refine gate_callee (f := 14) rfl ?_); refine goesL_ (some 83) rfl rfl Try.func14 (by kernel_rfl) rfl #[.int .i64 a0, .string (⟨#[42]⟩ : ByteArray), .int .i64 t277, .int .i64 t276] rfl (by (try simp only [List.map_toArray, List.map_cons, List.map_nil]); first | done | rfl | (simp only [List.length_drop, List.length_take]; rfl)) ?_; (with_reducible refine (value_Binary.calls a0 (⟨#[42]⟩ : ByteArray) t277 t276 t284 t285 t286 _ A25.out).mono ?_); rintro e w41 ⟨rfl, hb⟩; refine ⟨_, rfl, ?_⟩; have n0_ := Aside0.mk (below_step (by repeat (first | (with_reducible first | exact HB.out | apply below_alloc | apply pw_below_drewN | apply below_drew1) | exact HB.out)) hb); clear HB; have HB := n0_; clear n0_; (try clear hb); (try clear hb2); (try clear hk); (try clear hi)) | ((with_reducible refine gate_callee (f := 14) rfl ?_); refine goesL_ (some 91) rfl rfl Try.func14 (by kernel_rfl) rfl #[.int .i64 a0, .string (⟨#[43]⟩ : ByteArray), .int .i64 t284, .int .i64 t280] rfl (by (try simp only [List.map_toArray, List.map_cons, List.map_nil]); first | done | rfl | (simp only [List.length_drop, List.length_take]; rfl)) ?_; (with_reducible refine (value_Binary.calls a0 (⟨#[43]⟩ : ByteArray) t284 t280 t287 t288 t289 _ A26.out).mono ?_); rintro e w42 ⟨rfl, hb⟩; refine ⟨_, rfl, ?_⟩; have n0_ := Aside0.mk (below_step (by repeat (first | (with_reducible first | exact HB.out | apply below_alloc | apply pw_below_drewN | apply below_drew1) | exact HB.out)) hb); clear HB; have HB := n0_; clear n0_; (try clear hb); (try clear hb2); (try clear hk); (try clear hi)))
                        go_ret
                        exact ⟨by first | rfl | (simp [errW_none, errW_some] <;> rfl) | (simp only [← hji28, ← hji29]; first | rfl | (simp [errW_none, errW_some] <;> rfl)) | (simp [*, errW_none, errW_some] <;> rfl), by repeat (first | (with_reducible first | exact HB.out | apply below_alloc | apply pw_below_drewN | apply below_drew1) | exact HB.out)⟩
                  · rw [if_neg c30] at H
                    have c30b0 : decide ((ji28) < (ji29)) = false := decide_eq_false c30
                    clear c30
                    obtain rfl := Option.some.inj H
                    go_wp2_with (first | ((with_reducible refine gate_callee (f := 14) rfl ?_); refine goesL_ (some 83) rfl rfl Try.func14 (by kernel_rfl) rfl #[.int .i64 a0, .string (⟨#[42]⟩ : ByteArray), .int .i64 t277, .int .i64 t276] rfl (by (try simp only [List.map_toArray, List.map_cons, List.map_nil]); first | done | rfl | (simp only [List.length_drop, List.length_take]; rfl)) ?_; (with_reducible refine (value_Binary.calls a0 (⟨#[42]⟩ : ByteArray) t277 t276 t284 t285 t286 _ A25.out).mono ?_); rintro e w43 ⟨rfl, hb⟩; refine ⟨_, rfl, ?_⟩; have n0_ := Aside0.mk (below_step (by repeat (first | (with_reducible first | exact HB.out | apply below_alloc | apply pw_below_drewN | apply below_drew1) | exact HB.out)) hb); clear HB; have HB := n0_; clear n0_; (try clear hb); (try clear hb2); (try clear hk); (try clear hi)) | ((with_reducible refine gate_callee (f := 14) rfl ?_); refine goesL_ (some 91) rfl rfl Try.func14 (by kernel_rfl) rfl #[.int .i64 a0, .string (⟨#[43]⟩ : ByteArray), .int .i64 t284, .int .i64 t280] rfl (by (try simp only [List.map_toArray, List.map_cons, List.map_nil]); first | done | rfl | (simp only [List.length_drop, List.length_take]; rfl)) ?_; (with_reducible refine (value_Binary.calls a0 (⟨#[43]⟩ : ByteArray) t284 t280 t287 t288 t289 _ A26.out).mono ?_); rintro e w44 ⟨rfl, hb⟩; refine ⟨_, rfl, ?_⟩; have n0_ := Aside0.mk (below_step (by repeat (first | (with_reducible first | exact HB.out | apply below_alloc | apply pw_below_drewN | apply below_drew1) | exact HB.out)) hb); clear HB; have HB := n0_; clear n0_; (try clear hb); (try clear hb2); (try clear hk); (try clear hi)))
                    go_ret
                    exact ⟨by first | rfl | (simp [errW_none, errW_some] <;> rfl) | (simp only [← hji28, ← hji29]; first | rfl | (simp [errW_none, errW_some] <;> rfl)) | (simp [*, errW_none, errW_some] <;> rfl), by repeat (first | (with_reducible first | exact HB.out | apply below_alloc | apply pw_below_drewN | apply below_drew1) | exact HB.out)⟩
                · rw [if_neg c27] at H
                  have c27b0 : (t287 == t275) = false := beq_eq_false_iff_ne.mpr c27
                  have c27b1 : (t287 != t275) = true := bne_iff_ne.mpr c27
                  obtain rfl := Option.some.inj H
                  go_wp2_with (first | ((with_reducible refine gate_callee (f := 14) rfl ?_); refine goesL_ (some 83) rfl rfl Try.func14 (by kernel_rfl) rfl #[.int .i64 a0, .string (⟨#[42]⟩ : ByteArray), .int .i64 t277, .int .i64 t276] rfl (by (try simp only [List.map_toArray, List.map_cons, List.map_nil]); first | done | rfl | (simp only [List.length_drop, List.length_take]; rfl)) ?_; (with_reducible refine (value_Binary.calls a0 (⟨#[42]⟩ : ByteArray) t277 t276 t284 t285 t286 _ A25.out).mono ?_); rintro e w45 ⟨rfl, hb⟩; refine ⟨_, rfl, ?_⟩; have n0_ := Aside0.mk (below_step (by repeat (first | (with_reducible first | exact HB.out | apply below_alloc | apply pw_below_drewN | apply below_drew1) | exact HB.out)) hb); clear HB; have HB := n0_; clear n0_; (try clear hb); (try clear hb2); (try clear hk); (try clear hi)) | ((with_reducible refine gate_callee (f := 14) rfl ?_); refine goesL_ (some 91) rfl rfl Try.func14 (by kernel_rfl) rfl #[.int .i64 a0, .string (⟨#[43]⟩ : ByteArray), .int .i64 t284, .int .i64 t280] rfl (by (try simp only [List.map_toArray, List.map_cons, List.map_nil]); first | done | rfl | (simp only [List.length_drop, List.length_take]; rfl)) ?_; (with_reducible refine (value_Binary.calls a0 (⟨#[43]⟩ : ByteArray) t284 t280 t287 t288 t289 _ A26.out).mono ?_); rintro e w46 ⟨rfl, hb⟩; refine ⟨_, rfl, ?_⟩; have n0_ := Aside0.mk (below_step (by repeat (first | (with_reducible first | exact HB.out | apply below_alloc | apply pw_below_drewN | apply below_drew1) | exact HB.out)) hb); clear HB; have HB := n0_; clear n0_; (try clear hb); (try clear hb2); (try clear hk); (try clear hi)))
                  go_ret
                  exact ⟨by first | rfl | (simp [errW_none, errW_some] <;> rfl) | (simp [*, errW_none, errW_some] <;> rfl), by repeat (first | (with_reducible first | exact HB.out | apply below_alloc | apply pw_below_drewN | apply below_drew1) | exact HB.out)⟩

/-- THE ONE PURE STATEMENT of assessorlaw11_ValueDivides: yours. -/
def assessorlaw11_ValueDivides.Pure : Prop := ∀ (a0 : Int) (a1 : Int) (a2 : Int), (Lit.int .i64 a0).wf = true → (Lit.int .i64 a1).wf = true → (Lit.int .i64 a2).wf = true → ∃ k, assessorlaw11_ValueDivides.f k a0 a1 a2 = some true
theorem assessorlaw11_ValueDivides.walk (P : assessorlaw11_ValueDivides.Pure) (a0 : Int) (a1 : Int) (a2 : Int) (w : World) (w0 : (Lit.int .i64 a0).wf = true) (w1 : (Lit.int .i64 a1).wf = true) (w2 : (Lit.int .i64 a2).wf = true) :
    Calls Try.prog 4 #[.int .i64 a0, .int .i64 a1, .int .i64 a2] w fun e w' => e = .returned (.bool true) ∧ Below w.heap.size w w' := by
  obtain ⟨k, h⟩ := P a0 a1 a2 w0 w1 w2
  refine (assessorlaw11_ValueDivides.calls k a0 a1 a2 true w h).mono ?_
  rintro e w' ⟨rfl, hd⟩
  exact ⟨rfl, hd⟩

end Go.Proofs.Ytogknojocodhgaa.P
