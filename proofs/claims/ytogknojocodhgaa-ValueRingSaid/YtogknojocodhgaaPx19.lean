-- Written by a program of this session (jprint.py over the kit's print), for this claim. Lean checks it.
import Derived.Test.YtogknojocodhgaaPx0
import Derived.Test.YtogknojocodhgaaPx3
import Derived.Test.YtogknojocodhgaaPx5
import Derived.Test.YtogknojocodhgaaPx11
import Derived.Test.YtogknojocodhgaaPx13
import Derived.Test.YtogknojocodhgaaBin
namespace Go.Proofs.Ytogknojocodhgaa.P
open Go.RowKit Go.Proofs.YtogknojocodhgaaW.PrintWords Go.Proofs.YtogknojocodhgaaW.PrintLast Go.Proofs.YtogknojocodhgaaW.PrintMore
attribute [local go_sem] max2_int min2_int max_two min_two max_three min_three max_four min_four   -- for this text's walks alone
set_option linter.unusedVariables false
set_option linter.unusedSimpArgs false

/-! ### assessorlaw11_ValueRing: function 6 -/
mutual
def assessorlaw11_ValueRing.j0 : Nat → Int → Int → Int → Bool → Option (Bool)
  | 0, _, _, _, _ => none
  | k + 1, x0, x1, x2, x53 => if x53 = true then ((assessorlaw11_awake.f k).bind fun t292 => (some t292)) else ((value_Wrap.f x0 x1).bind fun t293 => ((value_Wrap.f x0 x2).bind fun t294 => ((value_Binary.f x0 (⟨#[43]⟩ : ByteArray) t293 t294).bind fun bt295 => ((value_Binary.f x0 (⟨#[42]⟩ : ByteArray) t293 t294).bind fun bt298 => ((value_Unary.f k x0 (⟨#[45]⟩ : ByteArray) t294).bind fun bt301 => ((value_Binary.f x0 (⟨#[45]⟩ : ByteArray) t293 t294).bind fun bt303 => ((value_Binary.f x0 (⟨#[43]⟩ : ByteArray) t293 bt301.1).bind fun bt306 => ((value_Binary.f x0 (⟨#[60]⟩ : ByteArray) t293 t294).bind fun bt309 => (if bt295.2.2 = 0 then (if bt298.2.2 = 0 then (if bt301.2 = 0 then (if bt303.2.2 = 0 then (if bt306.2.2 = 0 then (assessorlaw11_ValueRing.j1 k x0 x1 x2 t293 t294 bt295.1 bt298.1 bt303.1 bt306.1 bt309.1 (bt309.2.2 != 0)) else (assessorlaw11_ValueRing.j1 k x0 x1 x2 t293 t294 bt295.1 bt298.1 bt303.1 bt306.1 bt309.1 true)) else (assessorlaw11_ValueRing.j1 k x0 x1 x2 t293 t294 bt295.1 bt298.1 bt303.1 bt306.1 bt309.1 true)) else (assessorlaw11_ValueRing.j1 k x0 x1 x2 t293 t294 bt295.1 bt298.1 bt303.1 bt306.1 bt309.1 true)) else (assessorlaw11_ValueRing.j1 k x0 x1 x2 t293 t294 bt295.1 bt298.1 bt303.1 bt306.1 bt309.1 true)) else (assessorlaw11_ValueRing.j1 k x0 x1 x2 t293 t294 bt295.1 bt298.1 bt303.1 bt306.1 bt309.1 true))))))))))
def assessorlaw11_ValueRing.j1 : Nat → Int → Int → Int → Int → Int → Int → Int → Int → Int → Int → Bool → Option (Bool)
  | 0, _, _, _, _, _, _, _, _, _, _, _ => none
  | k + 1, x0, x1, x2, x7, x8, x9, x12, x17, x20, x23, x128 => if x128 = true then (some false) else ((value_Least.f x0).bind fun t312 => (if x7 ≥ t312 then ((value_Greatest.f x0).bind fun t313 => (if x7 ≤ t313 then (if 0 ≤ x0 then (if (shl .i64 1 x0) = 0 then (none) else (if (Int.tmod (wrap64 (x1 - x7)) (shl .i64 1 x0)) = 0 then ((value_Wrap.f x0 (wrap64 (x1 + x2))).bind fun t314 => (if x9 = t314 then ((value_Wrap.f x0 (wrap64 (x1 * x2))).bind fun t315 => (if x12 = t315 then (if x17 = x20 then (if ((x23 == 1) == (decide (x7 < x8))) = true then ((assessorlaw11_awake.f k).bind fun t316 => (some t316)) else (some false)) else (some false)) else (some false))) else (some false))) else (some false))) else (none)) else (some false))) else (some false)))
end
def assessorlaw11_ValueRing.f (k : Nat) (a0 : Int) (a1 : Int) (a2 : Int) : Option (Bool) := if a0 < 2 then (assessorlaw11_ValueRing.j0 k a0 a1 a2 true) else (if a0 > 8 then (assessorlaw11_ValueRing.j0 k a0 a1 a2 true) else (if (mx a1 (wrap64 (-a1))) > 1048576 then (assessorlaw11_ValueRing.j0 k a0 a1 a2 true) else (if (mx a2 (wrap64 (-a2))) > 1048576 then (assessorlaw11_ValueRing.j0 k a0 a1 a2 true) else (if a1 = (-9223372036854775808) then (assessorlaw11_ValueRing.j0 k a0 a1 a2 true) else (assessorlaw11_ValueRing.j0 k a0 a1 a2 (a2 == (-9223372036854775808)))))))
theorem assessorlaw11_ValueRing.mono_l : ∀ k, (∀ y0 y1 y2 y3, LeO (assessorlaw11_ValueRing.j0 k y0 y1 y2 y3) (assessorlaw11_ValueRing.j0 (k + 1) y0 y1 y2 y3)) ∧ (∀ y0 y1 y2 y3 y4 y5 y6 y7 y8 y9 y10, LeO (assessorlaw11_ValueRing.j1 k y0 y1 y2 y3 y4 y5 y6 y7 y8 y9 y10) (assessorlaw11_ValueRing.j1 (k + 1) y0 y1 y2 y3 y4 y5 y6 y7 y8 y9 y10))
  | 0 => ⟨fun _ _ _ _ r h => by simp [assessorlaw11_ValueRing.j0] at h, fun _ _ _ _ _ _ _ _ _ _ _ r h => by simp [assessorlaw11_ValueRing.j1] at h⟩
  | k + 1 => by
    obtain ⟨ih0, ih1⟩ := assessorlaw11_ValueRing.mono_l k
    refine ⟨?_, ?_⟩
    · intro y0 y1 y2 y3
      unfold assessorlaw11_ValueRing.j0
      repeat' first
      | (with_reducible exact ih0 _ _ _ _)
      | (with_reducible exact ih1 _ _ _ _ _ _ _ _ _ _ _)
      | (with_reducible exact assessorlaw11_awake.mono _)
      | (with_reducible exact value_Unary.mono _ _ _ _)
      | (with_reducible exact LeO.refl _)
      | (with_reducible exact LeO.none _)
      | (with_reducible refine LeO.ite ?_ ?_)
      | (with_reducible refine LeO.bind ?_ (fun _ => ?_))
      | exact ih0 _ _ _ _
      | exact ih1 _ _ _ _ _ _ _ _ _ _ _
      | exact assessorlaw11_awake.mono _
      | exact value_Unary.mono _ _ _ _
      | exact LeO.none _
      | refine LeO.ite ?_ ?_
      | refine LeO.bind ?_ (fun _ => ?_)
    · intro y0 y1 y2 y3 y4 y5 y6 y7 y8 y9 y10
      unfold assessorlaw11_ValueRing.j1
      repeat' first
      | (with_reducible exact ih0 _ _ _ _)
      | (with_reducible exact ih1 _ _ _ _ _ _ _ _ _ _ _)
      | (with_reducible exact assessorlaw11_awake.mono _)
      | (with_reducible exact value_Unary.mono _ _ _ _)
      | (with_reducible exact LeO.refl _)
      | (with_reducible exact LeO.none _)
      | (with_reducible refine LeO.ite ?_ ?_)
      | (with_reducible refine LeO.bind ?_ (fun _ => ?_))
      | exact ih0 _ _ _ _
      | exact ih1 _ _ _ _ _ _ _ _ _ _ _
      | exact assessorlaw11_awake.mono _
      | exact value_Unary.mono _ _ _ _
      | exact LeO.none _
      | refine LeO.ite ?_ ?_
      | refine LeO.bind ?_ (fun _ => ?_)
theorem assessorlaw11_ValueRing.mono : ∀ a0 a1 a2 k, LeO (assessorlaw11_ValueRing.f k a0 a1 a2) (assessorlaw11_ValueRing.f (k + 1) a0 a1 a2) := by
  intro a0 a1 a2 k
  obtain ⟨ih0, ih1⟩ := assessorlaw11_ValueRing.mono_l k
  unfold assessorlaw11_ValueRing.f
  repeat' first
      | (with_reducible exact ih0 _ _ _ _)
      | (with_reducible exact ih1 _ _ _ _ _ _ _ _ _ _ _)
      | (with_reducible exact assessorlaw11_awake.mono _)
      | (with_reducible exact value_Unary.mono _ _ _ _)
      | (with_reducible exact LeO.refl _)
      | (with_reducible exact LeO.none _)
      | (with_reducible refine LeO.ite ?_ ?_)
      | (with_reducible refine LeO.bind ?_ (fun _ => ?_))
      | exact ih0 _ _ _ _
      | exact ih1 _ _ _ _ _ _ _ _ _ _ _
      | exact assessorlaw11_awake.mono _
      | exact value_Unary.mono _ _ _ _
      | exact LeO.none _
      | refine LeO.ite ?_ ?_
      | refine LeO.bind ?_ (fun _ => ?_)
set_option maxHeartbeats 8000000 in
set_option maxRecDepth 100000 in
theorem assessorlaw11_ValueRing.calls (k : Nat) (a0 : Int) (a1 : Int) (a2 : Int) (r : Bool) (w : World) (h : assessorlaw11_ValueRing.f k a0 a1 a2 = some r) :
    Calls Try.prog 6 #[.int .i64 a0, .int .i64 a1, .int .i64 a2] w fun e w' => e = .returned (.bool r) ∧ Below w.heap.size w w' := by
  have HB := Aside0.mk (Below.refl w.heap.size w)
  have H : (if a0 < 2 then (assessorlaw11_ValueRing.j0 k a0 a1 a2 true) else (if a0 > 8 then (assessorlaw11_ValueRing.j0 k a0 a1 a2 true) else (if (mx a1 (wrap64 (-a1))) > 1048576 then (assessorlaw11_ValueRing.j0 k a0 a1 a2 true) else (if (mx a2 (wrap64 (-a2))) > 1048576 then (assessorlaw11_ValueRing.j0 k a0 a1 a2 true) else (if a1 = (-9223372036854775808) then (assessorlaw11_ValueRing.j0 k a0 a1 a2 true) else (assessorlaw11_ValueRing.j0 k a0 a1 a2 (a2 == (-9223372036854775808)))))))) = some r := h
  clear h
  have HC4 := Aside0.mk H
  clear H
  go_enter Try.func6, Try.ntmps6
  go_upto_region 1 with (fail)
  go_cut [53] (fun v53 wc => ∃ (kq : Nat) (x53_3 : Bool), v53 = .bool x53_3 ∧ Aside0 (assessorlaw11_ValueRing.j0 kq a0 a1 a2 x53_3 = some r) ∧ Aside0 (kq ≤ k) ∧ Aside0 (Below w.heap.size w wc))
  case first =>
    have H := HC4.out
    clear HC4
    by_cases c5 : a0 < 2
    · rw [if_pos c5] at H
      have c5b0 : decide (a0 < 2) = true := decide_eq_true c5
      clear c5
      (first | rw [c5b0] | (simp only [i64_w, i32_w]; rw [c5b0]) | skip)
      have H' := Aside0.mk H
      clear H
      go_wp2
      go_meet
      case rel => exact ⟨_, (true), (by first | rfl | (simp; done) | (simp [*]; done)), H', ⟨by first | omega | exact Nat.le_refl _⟩, ⟨by repeat (first | (with_reducible first | exact HB.out | apply below_alloc | apply pw_below_drewN | apply below_drew1) | exact HB.out)⟩⟩
    · rw [if_neg c5] at H
      have c5b0 : decide (a0 < 2) = false := decide_eq_false c5
      clear c5
      (first | rw [c5b0] | (simp only [i64_w, i32_w]; rw [c5b0]) | skip)
      by_cases c6 : a0 > 8
      · rw [if_pos c6] at H
        have c6b0 : decide (8 < a0) = true := decide_eq_true c6
        clear c6
        have H' := Aside0.mk H
        clear H
        go_wp2
        go_meet
        case rel => exact ⟨_, (true), (by first | rfl | (simp; done) | (simp [*]; done)), H', ⟨by first | omega | exact Nat.le_refl _⟩, ⟨by repeat (first | (with_reducible first | exact HB.out | apply below_alloc | apply pw_below_drewN | apply below_drew1) | exact HB.out)⟩⟩
      · rw [if_neg c6] at H
        have c6b0 : decide (8 < a0) = false := decide_eq_false c6
        clear c6
        obtain ⟨ji7, hji7⟩ : ∃ j_ : Int, (mx a1 (wrap64 (-a1))) = j_ := ⟨_, rfl⟩
        replace H : (if (ji7) > 1048576 then (assessorlaw11_ValueRing.j0 k a0 a1 a2 true) else (if (mx a2 (wrap64 (-a2))) > 1048576 then (assessorlaw11_ValueRing.j0 k a0 a1 a2 true) else (if a1 = (-9223372036854775808) then (assessorlaw11_ValueRing.j0 k a0 a1 a2 true) else (assessorlaw11_ValueRing.j0 k a0 a1 a2 (a2 == (-9223372036854775808)))))) = some r := by first | (rw [hji7] at H; exact H) | (simp only [hji7] at H ⊢; exact H)
        have hji7_ : (if a1 < (wrap64 (-a1)) then (wrap64 (-a1)) else a1) = ji7 := hji7
        by_cases c8 : (ji7) > 1048576
        · rw [if_pos c8] at H
          have c8b0 : decide (1048576 < (ji7)) = true := decide_eq_true c8
          clear c8
          have H' := Aside0.mk H
          clear H
          go_wp2
          go_meet
          case rel => exact ⟨_, (true), (by first | rfl | (simp; done) | (simp [*]; done)), H', ⟨by first | omega | exact Nat.le_refl _⟩, ⟨by repeat (first | (with_reducible first | exact HB.out | apply below_alloc | apply pw_below_drewN | apply below_drew1) | exact HB.out)⟩⟩
        · rw [if_neg c8] at H
          have c8b0 : decide (1048576 < (ji7)) = false := decide_eq_false c8
          clear c8
          obtain ⟨ji9, hji9⟩ : ∃ j_ : Int, (mx a2 (wrap64 (-a2))) = j_ := ⟨_, rfl⟩
          replace H : (if (ji9) > 1048576 then (assessorlaw11_ValueRing.j0 k a0 a1 a2 true) else (if a1 = (-9223372036854775808) then (assessorlaw11_ValueRing.j0 k a0 a1 a2 true) else (assessorlaw11_ValueRing.j0 k a0 a1 a2 (a2 == (-9223372036854775808))))) = some r := by first | (rw [hji9] at H; exact H) | (simp only [hji9] at H ⊢; exact H)
          have hji9_ : (if a2 < (wrap64 (-a2)) then (wrap64 (-a2)) else a2) = ji9 := hji9
          by_cases c10 : (ji9) > 1048576
          · rw [if_pos c10] at H
            have c10b0 : decide (1048576 < (ji9)) = true := decide_eq_true c10
            clear c10
            have H' := Aside0.mk H
            clear H
            go_wp2
            go_meet
            case rel => exact ⟨_, (true), (by first | rfl | (simp; done) | (simp [*]; done)), H', ⟨by first | omega | exact Nat.le_refl _⟩, ⟨by repeat (first | (with_reducible first | exact HB.out | apply below_alloc | apply pw_below_drewN | apply below_drew1) | exact HB.out)⟩⟩
          · rw [if_neg c10] at H
            have c10b0 : decide (1048576 < (ji9)) = false := decide_eq_false c10
            clear c10
            by_cases c11 : a1 = (-9223372036854775808)
            · rw [if_pos c11] at H
              have c11b0 : (a1 == (-9223372036854775808)) = true := beq_iff_eq.mpr c11
              have c11b1 : (a1 != (-9223372036854775808)) = false := bne_eq_false_iff_eq.mpr c11
              clear c11
              have H' := Aside0.mk H
              clear H
              go_wp2
              go_meet
              case rel => exact ⟨_, (true), (by first | rfl | (simp; done) | (simp [*]; done)), H', ⟨by first | omega | exact Nat.le_refl _⟩, ⟨by repeat (first | (with_reducible first | exact HB.out | apply below_alloc | apply pw_below_drewN | apply below_drew1) | exact HB.out)⟩⟩
            · rw [if_neg c11] at H
              have c11b0 : (a1 == (-9223372036854775808)) = false := beq_eq_false_iff_ne.mpr c11
              have c11b1 : (a1 != (-9223372036854775808)) = true := bne_iff_ne.mpr c11
              have H' := Aside0.mk H
              clear H
              go_wp2
              go_meet
              case rel => exact ⟨_, ((a2 == (-9223372036854775808))), (by first | rfl | (simp; done) | (simp [*]; done)), H', ⟨by first | omega | exact Nat.le_refl _⟩, ⟨by repeat (first | (with_reducible first | exact HB.out | apply below_alloc | apply pw_below_drewN | apply below_drew1) | exact HB.out)⟩⟩
  case rest =>
    clear HC4
    try clear c1
    try clear p2
    try clear c5
    try clear c5b0
    try clear c6
    try clear c6b0
    try clear p6
    try clear c8
    try clear c8b0
    try clear c10
    try clear c10b0
    try clear c11
    try clear c11b0
    try clear c11b1
    obtain ⟨kq, x53_3, rfl, HA, HJ3, HB⟩ := hcut
    cases kq with
    | zero => exact absurd HA.out (by simp [assessorlaw11_ValueRing.j0])
    | succ kj3 =>
      have H := HA.out
      clear HA
      simp only [assessorlaw11_ValueRing.j0] at H
      by_cases c12 : x53_3 = true
      · subst c12
        have H1 : ((assessorlaw11_awake.f kj3).bind fun t292 => (some t292)) = some r := by rw [if_pos rfl] at H; exact H
        clear H
        have H := H1
        clear H1
        replace H := Option.bind_eq_some_iff.mp H
        obtain ⟨t292, A130, H⟩ := H
        replace H : (some t292) = some r := H
        have A13 := Aside0.mk A130
        clear A130
        obtain rfl := Option.some.inj H
        go_wp2_with (first | ((with_reducible refine gate_callee (f := 9) rfl ?_); refine goesL_ (some 54) rfl rfl Try.func9 (by kernel_rfl) rfl #[] rfl (by (try simp only [List.map_toArray, List.map_cons, List.map_nil]); first | done | rfl | (simp only [List.length_drop, List.length_take]; rfl)) ?_; (with_reducible refine (assessorlaw11_awake.calls kj3  t292 _ A13.out).mono ?_); rintro e w14 ⟨rfl, hb⟩; refine ⟨_, rfl, ?_⟩; have n0_ := Aside0.mk (below_step (by repeat (first | (with_reducible first | exact HB.out | apply below_alloc | apply pw_below_drewN | apply below_drew1) | exact HB.out)) hb); clear HB; have HB := n0_; clear n0_; (try clear hb); (try clear hb2); (try clear hk); (try clear hi)))
        go_ret
        exact ⟨by first | rfl | (simp [errW_none, errW_some] <;> rfl) | (simp [*, errW_none, errW_some] <;> rfl), by repeat (first | (with_reducible first | exact HB.out | apply below_alloc | apply pw_below_drewN | apply below_drew1) | exact HB.out)⟩
      · replace c12 := Bool.eq_false_iff.mpr c12
        subst c12
        have H1 : ((value_Wrap.f a0 a1).bind fun t293 => ((value_Wrap.f a0 a2).bind fun t294 => ((value_Binary.f a0 (⟨#[43]⟩ : ByteArray) t293 t294).bind fun bt295 => ((value_Binary.f a0 (⟨#[42]⟩ : ByteArray) t293 t294).bind fun bt298 => ((value_Unary.f kj3 a0 (⟨#[45]⟩ : ByteArray) t294).bind fun bt301 => ((value_Binary.f a0 (⟨#[45]⟩ : ByteArray) t293 t294).bind fun bt303 => ((value_Binary.f a0 (⟨#[43]⟩ : ByteArray) t293 bt301.1).bind fun bt306 => ((value_Binary.f a0 (⟨#[60]⟩ : ByteArray) t293 t294).bind fun bt309 => (if bt295.2.2 = 0 then (if bt298.2.2 = 0 then (if bt301.2 = 0 then (if bt303.2.2 = 0 then (if bt306.2.2 = 0 then (assessorlaw11_ValueRing.j1 kj3 a0 a1 a2 t293 t294 bt295.1 bt298.1 bt303.1 bt306.1 bt309.1 (bt309.2.2 != 0)) else (assessorlaw11_ValueRing.j1 kj3 a0 a1 a2 t293 t294 bt295.1 bt298.1 bt303.1 bt306.1 bt309.1 true)) else (assessorlaw11_ValueRing.j1 kj3 a0 a1 a2 t293 t294 bt295.1 bt298.1 bt303.1 bt306.1 bt309.1 true)) else (assessorlaw11_ValueRing.j1 kj3 a0 a1 a2 t293 t294 bt295.1 bt298.1 bt303.1 bt306.1 bt309.1 true)) else (assessorlaw11_ValueRing.j1 kj3 a0 a1 a2 t293 t294 bt295.1 bt298.1 bt303.1 bt306.1 bt309.1 true)) else (assessorlaw11_ValueRing.j1 kj3 a0 a1 a2 t293 t294 bt295.1 bt298.1 bt303.1 bt306.1 bt309.1 true)))))))))) = some r := by rw [if_neg (show ¬ (false = true) by decide)] at H; exact H
        clear H
        have H := H1
        clear H1
        replace H := Option.bind_eq_some_iff.mp H
        obtain ⟨t293, A150, H⟩ := H
        replace H : ((value_Wrap.f a0 a2).bind fun t294 => ((value_Binary.f a0 (⟨#[43]⟩ : ByteArray) t293 t294).bind fun bt295 => ((value_Binary.f a0 (⟨#[42]⟩ : ByteArray) t293 t294).bind fun bt298 => ((value_Unary.f kj3 a0 (⟨#[45]⟩ : ByteArray) t294).bind fun bt301 => ((value_Binary.f a0 (⟨#[45]⟩ : ByteArray) t293 t294).bind fun bt303 => ((value_Binary.f a0 (⟨#[43]⟩ : ByteArray) t293 bt301.1).bind fun bt306 => ((value_Binary.f a0 (⟨#[60]⟩ : ByteArray) t293 t294).bind fun bt309 => (if bt295.2.2 = 0 then (if bt298.2.2 = 0 then (if bt301.2 = 0 then (if bt303.2.2 = 0 then (if bt306.2.2 = 0 then (assessorlaw11_ValueRing.j1 kj3 a0 a1 a2 t293 t294 bt295.1 bt298.1 bt303.1 bt306.1 bt309.1 (bt309.2.2 != 0)) else (assessorlaw11_ValueRing.j1 kj3 a0 a1 a2 t293 t294 bt295.1 bt298.1 bt303.1 bt306.1 bt309.1 true)) else (assessorlaw11_ValueRing.j1 kj3 a0 a1 a2 t293 t294 bt295.1 bt298.1 bt303.1 bt306.1 bt309.1 true)) else (assessorlaw11_ValueRing.j1 kj3 a0 a1 a2 t293 t294 bt295.1 bt298.1 bt303.1 bt306.1 bt309.1 true)) else (assessorlaw11_ValueRing.j1 kj3 a0 a1 a2 t293 t294 bt295.1 bt298.1 bt303.1 bt306.1 bt309.1 true)) else (assessorlaw11_ValueRing.j1 kj3 a0 a1 a2 t293 t294 bt295.1 bt298.1 bt303.1 bt306.1 bt309.1 true))))))))) = some r := H
        have A15 := Aside0.mk A150
        clear A150
        replace H := Option.bind_eq_some_iff.mp H
        obtain ⟨t294, A160, H⟩ := H
        replace H : ((value_Binary.f a0 (⟨#[43]⟩ : ByteArray) t293 t294).bind fun bt295 => ((value_Binary.f a0 (⟨#[42]⟩ : ByteArray) t293 t294).bind fun bt298 => ((value_Unary.f kj3 a0 (⟨#[45]⟩ : ByteArray) t294).bind fun bt301 => ((value_Binary.f a0 (⟨#[45]⟩ : ByteArray) t293 t294).bind fun bt303 => ((value_Binary.f a0 (⟨#[43]⟩ : ByteArray) t293 bt301.1).bind fun bt306 => ((value_Binary.f a0 (⟨#[60]⟩ : ByteArray) t293 t294).bind fun bt309 => (if bt295.2.2 = 0 then (if bt298.2.2 = 0 then (if bt301.2 = 0 then (if bt303.2.2 = 0 then (if bt306.2.2 = 0 then (assessorlaw11_ValueRing.j1 kj3 a0 a1 a2 t293 t294 bt295.1 bt298.1 bt303.1 bt306.1 bt309.1 (bt309.2.2 != 0)) else (assessorlaw11_ValueRing.j1 kj3 a0 a1 a2 t293 t294 bt295.1 bt298.1 bt303.1 bt306.1 bt309.1 true)) else (assessorlaw11_ValueRing.j1 kj3 a0 a1 a2 t293 t294 bt295.1 bt298.1 bt303.1 bt306.1 bt309.1 true)) else (assessorlaw11_ValueRing.j1 kj3 a0 a1 a2 t293 t294 bt295.1 bt298.1 bt303.1 bt306.1 bt309.1 true)) else (assessorlaw11_ValueRing.j1 kj3 a0 a1 a2 t293 t294 bt295.1 bt298.1 bt303.1 bt306.1 bt309.1 true)) else (assessorlaw11_ValueRing.j1 kj3 a0 a1 a2 t293 t294 bt295.1 bt298.1 bt303.1 bt306.1 bt309.1 true)))))))) = some r := H
        have A16 := Aside0.mk A160
        clear A160
        replace H := Option.bind_eq_some_iff.mp H
        obtain ⟨⟨t295, t296, t297⟩, A170, H⟩ := H
        replace H : ((value_Binary.f a0 (⟨#[42]⟩ : ByteArray) t293 t294).bind fun bt298 => ((value_Unary.f kj3 a0 (⟨#[45]⟩ : ByteArray) t294).bind fun bt301 => ((value_Binary.f a0 (⟨#[45]⟩ : ByteArray) t293 t294).bind fun bt303 => ((value_Binary.f a0 (⟨#[43]⟩ : ByteArray) t293 bt301.1).bind fun bt306 => ((value_Binary.f a0 (⟨#[60]⟩ : ByteArray) t293 t294).bind fun bt309 => (if t297 = 0 then (if bt298.2.2 = 0 then (if bt301.2 = 0 then (if bt303.2.2 = 0 then (if bt306.2.2 = 0 then (assessorlaw11_ValueRing.j1 kj3 a0 a1 a2 t293 t294 t295 bt298.1 bt303.1 bt306.1 bt309.1 (bt309.2.2 != 0)) else (assessorlaw11_ValueRing.j1 kj3 a0 a1 a2 t293 t294 t295 bt298.1 bt303.1 bt306.1 bt309.1 true)) else (assessorlaw11_ValueRing.j1 kj3 a0 a1 a2 t293 t294 t295 bt298.1 bt303.1 bt306.1 bt309.1 true)) else (assessorlaw11_ValueRing.j1 kj3 a0 a1 a2 t293 t294 t295 bt298.1 bt303.1 bt306.1 bt309.1 true)) else (assessorlaw11_ValueRing.j1 kj3 a0 a1 a2 t293 t294 t295 bt298.1 bt303.1 bt306.1 bt309.1 true)) else (assessorlaw11_ValueRing.j1 kj3 a0 a1 a2 t293 t294 t295 bt298.1 bt303.1 bt306.1 bt309.1 true))))))) = some r := H
        have A17 := Aside0.mk A170
        clear A170
        replace H := Option.bind_eq_some_iff.mp H
        obtain ⟨⟨t298, t299, t300⟩, A180, H⟩ := H
        replace H : ((value_Unary.f kj3 a0 (⟨#[45]⟩ : ByteArray) t294).bind fun bt301 => ((value_Binary.f a0 (⟨#[45]⟩ : ByteArray) t293 t294).bind fun bt303 => ((value_Binary.f a0 (⟨#[43]⟩ : ByteArray) t293 bt301.1).bind fun bt306 => ((value_Binary.f a0 (⟨#[60]⟩ : ByteArray) t293 t294).bind fun bt309 => (if t297 = 0 then (if t300 = 0 then (if bt301.2 = 0 then (if bt303.2.2 = 0 then (if bt306.2.2 = 0 then (assessorlaw11_ValueRing.j1 kj3 a0 a1 a2 t293 t294 t295 t298 bt303.1 bt306.1 bt309.1 (bt309.2.2 != 0)) else (assessorlaw11_ValueRing.j1 kj3 a0 a1 a2 t293 t294 t295 t298 bt303.1 bt306.1 bt309.1 true)) else (assessorlaw11_ValueRing.j1 kj3 a0 a1 a2 t293 t294 t295 t298 bt303.1 bt306.1 bt309.1 true)) else (assessorlaw11_ValueRing.j1 kj3 a0 a1 a2 t293 t294 t295 t298 bt303.1 bt306.1 bt309.1 true)) else (assessorlaw11_ValueRing.j1 kj3 a0 a1 a2 t293 t294 t295 t298 bt303.1 bt306.1 bt309.1 true)) else (assessorlaw11_ValueRing.j1 kj3 a0 a1 a2 t293 t294 t295 t298 bt303.1 bt306.1 bt309.1 true)))))) = some r := H
        have A18 := Aside0.mk A180
        clear A180
        replace H := Option.bind_eq_some_iff.mp H
        obtain ⟨⟨t301, t302⟩, A190, H⟩ := H
        replace H : ((value_Binary.f a0 (⟨#[45]⟩ : ByteArray) t293 t294).bind fun bt303 => ((value_Binary.f a0 (⟨#[43]⟩ : ByteArray) t293 t301).bind fun bt306 => ((value_Binary.f a0 (⟨#[60]⟩ : ByteArray) t293 t294).bind fun bt309 => (if t297 = 0 then (if t300 = 0 then (if t302 = 0 then (if bt303.2.2 = 0 then (if bt306.2.2 = 0 then (assessorlaw11_ValueRing.j1 kj3 a0 a1 a2 t293 t294 t295 t298 bt303.1 bt306.1 bt309.1 (bt309.2.2 != 0)) else (assessorlaw11_ValueRing.j1 kj3 a0 a1 a2 t293 t294 t295 t298 bt303.1 bt306.1 bt309.1 true)) else (assessorlaw11_ValueRing.j1 kj3 a0 a1 a2 t293 t294 t295 t298 bt303.1 bt306.1 bt309.1 true)) else (assessorlaw11_ValueRing.j1 kj3 a0 a1 a2 t293 t294 t295 t298 bt303.1 bt306.1 bt309.1 true)) else (assessorlaw11_ValueRing.j1 kj3 a0 a1 a2 t293 t294 t295 t298 bt303.1 bt306.1 bt309.1 true)) else (assessorlaw11_ValueRing.j1 kj3 a0 a1 a2 t293 t294 t295 t298 bt303.1 bt306.1 bt309.1 true))))) = some r := H
        have A19 := Aside0.mk A190
        clear A190
        replace H := Option.bind_eq_some_iff.mp H
        obtain ⟨⟨t303, t304, t305⟩, A200, H⟩ := H
        replace H : ((value_Binary.f a0 (⟨#[43]⟩ : ByteArray) t293 t301).bind fun bt306 => ((value_Binary.f a0 (⟨#[60]⟩ : ByteArray) t293 t294).bind fun bt309 => (if t297 = 0 then (if t300 = 0 then (if t302 = 0 then (if t305 = 0 then (if bt306.2.2 = 0 then (assessorlaw11_ValueRing.j1 kj3 a0 a1 a2 t293 t294 t295 t298 t303 bt306.1 bt309.1 (bt309.2.2 != 0)) else (assessorlaw11_ValueRing.j1 kj3 a0 a1 a2 t293 t294 t295 t298 t303 bt306.1 bt309.1 true)) else (assessorlaw11_ValueRing.j1 kj3 a0 a1 a2 t293 t294 t295 t298 t303 bt306.1 bt309.1 true)) else (assessorlaw11_ValueRing.j1 kj3 a0 a1 a2 t293 t294 t295 t298 t303 bt306.1 bt309.1 true)) else (assessorlaw11_ValueRing.j1 kj3 a0 a1 a2 t293 t294 t295 t298 t303 bt306.1 bt309.1 true)) else (assessorlaw11_ValueRing.j1 kj3 a0 a1 a2 t293 t294 t295 t298 t303 bt306.1 bt309.1 true)))) = some r := H
        have A20 := Aside0.mk A200
        clear A200
        replace H := Option.bind_eq_some_iff.mp H
        obtain ⟨⟨t306, t307, t308⟩, A210, H⟩ := H
        replace H : ((value_Binary.f a0 (⟨#[60]⟩ : ByteArray) t293 t294).bind fun bt309 => (if t297 = 0 then (if t300 = 0 then (if t302 = 0 then (if t305 = 0 then (if t308 = 0 then (assessorlaw11_ValueRing.j1 kj3 a0 a1 a2 t293 t294 t295 t298 t303 t306 bt309.1 (bt309.2.2 != 0)) else (assessorlaw11_ValueRing.j1 kj3 a0 a1 a2 t293 t294 t295 t298 t303 t306 bt309.1 true)) else (assessorlaw11_ValueRing.j1 kj3 a0 a1 a2 t293 t294 t295 t298 t303 t306 bt309.1 true)) else (assessorlaw11_ValueRing.j1 kj3 a0 a1 a2 t293 t294 t295 t298 t303 t306 bt309.1 true)) else (assessorlaw11_ValueRing.j1 kj3 a0 a1 a2 t293 t294 t295 t298 t303 t306 bt309.1 true)) else (assessorlaw11_ValueRing.j1 kj3 a0 a1 a2 t293 t294 t295 t298 t303 t306 bt309.1 true))) = some r := H
        have A21 := Aside0.mk A210
        clear A210
        replace H := Option.bind_eq_some_iff.mp H
        obtain ⟨⟨t309, t310, t311⟩, A220, H⟩ := H
        replace H : (if t297 = 0 then (if t300 = 0 then (if t302 = 0 then (if t305 = 0 then (if t308 = 0 then (assessorlaw11_ValueRing.j1 kj3 a0 a1 a2 t293 t294 t295 t298 t303 t306 t309 (t311 != 0)) else (assessorlaw11_ValueRing.j1 kj3 a0 a1 a2 t293 t294 t295 t298 t303 t306 t309 true)) else (assessorlaw11_ValueRing.j1 kj3 a0 a1 a2 t293 t294 t295 t298 t303 t306 t309 true)) else (assessorlaw11_ValueRing.j1 kj3 a0 a1 a2 t293 t294 t295 t298 t303 t306 t309 true)) else (assessorlaw11_ValueRing.j1 kj3 a0 a1 a2 t293 t294 t295 t298 t303 t306 t309 true)) else (assessorlaw11_ValueRing.j1 kj3 a0 a1 a2 t293 t294 t295 t298 t303 t306 t309 true)) = some r := H
        have A22 := Aside0.mk A220
        clear A220
        have HC23 := Aside0.mk H
        clear H
        go_upto_region 10 with (first | ((with_reducible refine gate_callee (f := 13) rfl ?_); refine goesL_ (some 57) rfl rfl Try.func13 (by kernel_rfl) rfl #[.int .i64 a0, .int .i64 a1] rfl (by (try simp only [List.map_toArray, List.map_cons, List.map_nil]); first | done | rfl | (simp only [List.length_drop, List.length_take]; rfl)) ?_; (with_reducible refine (value_Wrap.calls a0 a1 t293 _ A15.out).mono ?_); rintro e w' ⟨rfl, ⟨nd, rfl⟩⟩; refine ⟨_, rfl, ?_⟩) | ((with_reducible refine gate_callee (f := 13) rfl ?_); refine goesL_ (some 60) rfl rfl Try.func13 (by kernel_rfl) rfl #[.int .i64 a0, .int .i64 a2] rfl (by (try simp only [List.map_toArray, List.map_cons, List.map_nil]); first | done | rfl | (simp only [List.length_drop, List.length_take]; rfl)) ?_; (with_reducible refine (value_Wrap.calls a0 a2 t294 _ A16.out).mono ?_); rintro e w' ⟨rfl, ⟨nd, rfl⟩⟩; refine ⟨_, rfl, ?_⟩) | ((with_reducible refine gate_callee (f := 14) rfl ?_); refine goesL_ (some 65) rfl rfl Try.func14 (by kernel_rfl) rfl #[.int .i64 a0, .string (⟨#[43]⟩ : ByteArray), .int .i64 t293, .int .i64 t294] rfl (by (try simp only [List.map_toArray, List.map_cons, List.map_nil]); first | done | rfl | (simp only [List.length_drop, List.length_take]; rfl)) ?_; (with_reducible refine (value_Binary.calls a0 (⟨#[43]⟩ : ByteArray) t293 t294 t295 t296 t297 _ A17.out).mono ?_); rintro e w24 ⟨rfl, hb⟩; refine ⟨_, rfl, ?_⟩; have n0_ := Aside0.mk (below_step (by repeat (first | (with_reducible first | exact HB.out | apply below_alloc | apply pw_below_drewN | apply below_drew1) | exact HB.out)) hb); clear HB; have HB := n0_; clear n0_; (try clear hb); (try clear hb2); (try clear hk); (try clear hi)) | ((with_reducible refine gate_callee (f := 14) rfl ?_); refine goesL_ (some 73) rfl rfl Try.func14 (by kernel_rfl) rfl #[.int .i64 a0, .string (⟨#[42]⟩ : ByteArray), .int .i64 t293, .int .i64 t294] rfl (by (try simp only [List.map_toArray, List.map_cons, List.map_nil]); first | done | rfl | (simp only [List.length_drop, List.length_take]; rfl)) ?_; (with_reducible refine (value_Binary.calls a0 (⟨#[42]⟩ : ByteArray) t293 t294 t298 t299 t300 _ A18.out).mono ?_); rintro e w25 ⟨rfl, hb⟩; refine ⟨_, rfl, ?_⟩; have n0_ := Aside0.mk (below_step (by repeat (first | (with_reducible first | exact HB.out | apply below_alloc | apply pw_below_drewN | apply below_drew1) | exact HB.out)) hb); clear HB; have HB := n0_; clear n0_; (try clear hb); (try clear hb2); (try clear hk); (try clear hi)) | ((with_reducible refine gate_callee (f := 16) rfl ?_); refine goesL_ (some 80) rfl rfl Try.func16 (by kernel_rfl) rfl #[.int .i64 a0, .string (⟨#[45]⟩ : ByteArray), .int .i64 t294] rfl (by (try simp only [List.map_toArray, List.map_cons, List.map_nil]); first | done | rfl | (simp only [List.length_drop, List.length_take]; rfl)) ?_; (with_reducible refine (value_Unary.calls kj3 a0 (⟨#[45]⟩ : ByteArray) t294 t301 t302 _ A19.out).mono ?_); rintro e w' ⟨rfl, ⟨nd, rfl⟩⟩; refine ⟨_, rfl, ?_⟩) | ((with_reducible refine gate_callee (f := 14) rfl ?_); refine goesL_ (some 87) rfl rfl Try.func14 (by kernel_rfl) rfl #[.int .i64 a0, .string (⟨#[45]⟩ : ByteArray), .int .i64 t293, .int .i64 t294] rfl (by (try simp only [List.map_toArray, List.map_cons, List.map_nil]); first | done | rfl | (simp only [List.length_drop, List.length_take]; rfl)) ?_; (with_reducible refine (value_Binary.calls a0 (⟨#[45]⟩ : ByteArray) t293 t294 t303 t304 t305 _ A20.out).mono ?_); rintro e w26 ⟨rfl, hb⟩; refine ⟨_, rfl, ?_⟩; have n0_ := Aside0.mk (below_step (by repeat (first | (with_reducible first | exact HB.out | apply below_alloc | apply pw_below_drewN | apply below_drew1) | exact HB.out)) hb); clear HB; have HB := n0_; clear n0_; (try clear hb); (try clear hb2); (try clear hk); (try clear hi)) | ((with_reducible refine gate_callee (f := 14) rfl ?_); refine goesL_ (some 95) rfl rfl Try.func14 (by kernel_rfl) rfl #[.int .i64 a0, .string (⟨#[43]⟩ : ByteArray), .int .i64 t293, .int .i64 t301] rfl (by (try simp only [List.map_toArray, List.map_cons, List.map_nil]); first | done | rfl | (simp only [List.length_drop, List.length_take]; rfl)) ?_; (with_reducible refine (value_Binary.calls a0 (⟨#[43]⟩ : ByteArray) t293 t301 t306 t307 t308 _ A21.out).mono ?_); rintro e w27 ⟨rfl, hb⟩; refine ⟨_, rfl, ?_⟩; have n0_ := Aside0.mk (below_step (by repeat (first | (with_reducible first | exact HB.out | apply below_alloc | apply pw_below_drewN | apply below_drew1) | exact HB.out)) hb); clear HB; have HB := n0_; clear n0_; (try clear hb); (try clear hb2); (try clear hk); (try clear hi)) | ((with_reducible refine gate_callee (f := 14) rfl ?_); refine goesL_ (some 103) rfl rfl Try.func14 (by kernel_rfl) rfl #[.int .i64 a0, .string (⟨#[60]⟩ : ByteArray), .int .i64 t293, .int .i64 t294] rfl (by (try simp only [List.map_toArray, List.map_cons, List.map_nil]); first | done | rfl | (simp only [List.length_drop, List.length_take]; rfl)) ?_; (with_reducible refine (value_Binary.calls a0 (⟨#[60]⟩ : ByteArray) t293 t294 t309 t310 t311 _ A22.out).mono ?_); rintro e w28 ⟨rfl, hb⟩; refine ⟨_, rfl, ?_⟩; have n0_ := Aside0.mk (below_step (by repeat (first | (with_reducible first | exact HB.out | apply below_alloc | apply pw_below_drewN | apply below_drew1) | exact HB.out)) hb); clear HB; have HB := n0_; clear n0_; (try clear hb); (try clear hb2); (try clear hk); (try clear hi)))
        (try simp only [Act.put, List.setIfInBounds_toArray, List.set_cons_zero, List.set_cons_succ])
        go_cut [128] (fun v128 wc => ∃ (kq : Nat) (x128_22 : Bool), v128 = .bool x128_22 ∧ Aside0 (assessorlaw11_ValueRing.j1 kq a0 a1 a2 t293 t294 t295 t298 t303 t306 t309 x128_22 = some r) ∧ Aside0 (kq ≤ kj3) ∧ Aside0 (Below w.heap.size w wc))
        case first =>
          have H := HC23.out
          clear HC23
          by_cases c29 : t297 = 0
          · rw [if_pos c29] at H
            have c29b0 : (t297 == 0) = true := beq_iff_eq.mpr c29
            have c29b1 : (t297 != 0) = false := bne_eq_false_iff_eq.mpr c29
            clear c29
            (first | rw [c29b0] | (simp only [i64_w, i32_w]; rw [c29b0]) | skip)
            by_cases c30 : t300 = 0
            · rw [if_pos c30] at H
              have c30b0 : (t300 == 0) = true := beq_iff_eq.mpr c30
              have c30b1 : (t300 != 0) = false := bne_eq_false_iff_eq.mpr c30
              clear c30
              by_cases c31 : t302 = 0
              · rw [if_pos c31] at H
                have c31b0 : (t302 == 0) = true := beq_iff_eq.mpr c31
                have c31b1 : (t302 != 0) = false := bne_eq_false_iff_eq.mpr c31
                clear c31
                by_cases c32 : t305 = 0
                · rw [if_pos c32] at H
                  have c32b0 : (t305 == 0) = true := beq_iff_eq.mpr c32
                  have c32b1 : (t305 != 0) = false := bne_eq_false_iff_eq.mpr c32
                  clear c32
                  by_cases c33 : t308 = 0
                  · rw [if_pos c33] at H
                    have c33b0 : (t308 == 0) = true := beq_iff_eq.mpr c33
                    have c33b1 : (t308 != 0) = false := bne_eq_false_iff_eq.mpr c33
                    clear c33
                    have H' := Aside0.mk H
                    clear H
                    go_wp2
                    go_meet
                    case rel => exact ⟨_, ((t311 != 0)), (by first | rfl | (simp; done) | (simp [*]; done)), H', ⟨by have := HJ3.out; first | omega | exact Nat.le_refl _⟩, ⟨by repeat (first | (with_reducible first | exact HB.out | apply below_alloc | apply pw_below_drewN | apply below_drew1) | exact HB.out)⟩⟩
                  · rw [if_neg c33] at H
                    have c33b0 : (t308 == 0) = false := beq_eq_false_iff_ne.mpr c33
                    have c33b1 : (t308 != 0) = true := bne_iff_ne.mpr c33
                    have H' := Aside0.mk H
                    clear H
                    go_wp2
                    go_meet
                    case rel => exact ⟨_, (true), (by first | rfl | (simp; done) | (simp [*]; done)), H', ⟨by have := HJ3.out; first | omega | exact Nat.le_refl _⟩, ⟨by repeat (first | (with_reducible first | exact HB.out | apply below_alloc | apply pw_below_drewN | apply below_drew1) | exact HB.out)⟩⟩
                · rw [if_neg c32] at H
                  have c32b0 : (t305 == 0) = false := beq_eq_false_iff_ne.mpr c32
                  have c32b1 : (t305 != 0) = true := bne_iff_ne.mpr c32
                  have H' := Aside0.mk H
                  clear H
                  go_wp2
                  go_meet
                  case rel => exact ⟨_, (true), (by first | rfl | (simp; done) | (simp [*]; done)), H', ⟨by have := HJ3.out; first | omega | exact Nat.le_refl _⟩, ⟨by repeat (first | (with_reducible first | exact HB.out | apply below_alloc | apply pw_below_drewN | apply below_drew1) | exact HB.out)⟩⟩
              · rw [if_neg c31] at H
                have c31b0 : (t302 == 0) = false := beq_eq_false_iff_ne.mpr c31
                have c31b1 : (t302 != 0) = true := bne_iff_ne.mpr c31
                have H' := Aside0.mk H
                clear H
                go_wp2
                go_meet
                case rel => exact ⟨_, (true), (by first | rfl | (simp; done) | (simp [*]; done)), H', ⟨by have := HJ3.out; first | omega | exact Nat.le_refl _⟩, ⟨by repeat (first | (with_reducible first | exact HB.out | apply below_alloc | apply pw_below_drewN | apply below_drew1) | exact HB.out)⟩⟩
            · rw [if_neg c30] at H
              have c30b0 : (t300 == 0) = false := beq_eq_false_iff_ne.mpr c30
              have c30b1 : (t300 != 0) = true := bne_iff_ne.mpr c30
              have H' := Aside0.mk H
              clear H
              go_wp2
              go_meet
              case rel => exact ⟨_, (true), (by first | rfl | (simp; done) | (simp [*]; done)), H', ⟨by have := HJ3.out; first | omega | exact Nat.le_refl _⟩, ⟨by repeat (first | (with_reducible first | exact HB.out | apply below_alloc | apply pw_below_drewN | apply below_drew1) | exact HB.out)⟩⟩
          · rw [if_neg c29] at H
            have c29b0 : (t297 == 0) = false := beq_eq_false_iff_ne.mpr c29
            have c29b1 : (t297 != 0) = true := bne_iff_ne.mpr c29
            (first | rw [c29b0] | (simp only [i64_w, i32_w]; rw [c29b0]) | skip)
            have H' := Aside0.mk H
            clear H
            go_wp2
            go_meet
            case rel => exact ⟨_, (true), (by first | rfl | (simp; done) | (simp [*]; done)), H', ⟨by have := HJ3.out; first | omega | exact Nat.le_refl _⟩, ⟨by repeat (first | (with_reducible first | exact HB.out | apply below_alloc | apply pw_below_drewN | apply below_drew1) | exact HB.out)⟩⟩
        case rest =>
          clear HC23
          try clear c1
          try clear c2
          try clear p2
          try clear c3
          try clear c5
          try clear c5b0
          try clear c6
          try clear c6b0
          try clear p6
          try clear c8
          try clear c8b0
          try clear c9
          try clear c10
          try clear c10b0
          try clear c11
          try clear c11b0
          try clear c11b1
          try clear c12
          try clear c13
          try clear c14
          try clear c16
          try clear c29
          try clear c29b0
          try clear c29b1
          try clear c30
          try clear c30b0
          try clear c30b1
          try clear c31
          try clear c31b0
          try clear c31b1
          try clear c32
          try clear c32b0
          try clear c32b1
          try clear c33
          try clear c33b0
          try clear c33b1
          try clear p2
          try clear p6
          obtain ⟨kq, x128_22, rfl, HA, HJ22, HB⟩ := hcut
          cases kq with
          | zero => exact absurd HA.out (by simp [assessorlaw11_ValueRing.j1])
          | succ kj22 =>
            have H := HA.out
            clear HA
            simp only [assessorlaw11_ValueRing.j1] at H
            by_cases c34 : x128_22 = true
            · subst c34
              have H1 : (some false) = some r := by rw [if_pos rfl] at H; exact H
              clear H
              have H := H1
              clear H1
              obtain rfl := Option.some.inj H
              go_wp2
              go_ret
              exact ⟨by first | rfl | (simp [errW_none, errW_some] <;> rfl) | (simp [*, errW_none, errW_some] <;> rfl), by repeat (first | (with_reducible first | exact HB.out | apply below_alloc | apply pw_below_drewN | apply below_drew1) | exact HB.out)⟩
            · replace c34 := Bool.eq_false_iff.mpr c34
              subst c34
              have H1 : ((value_Least.f a0).bind fun t312 => (if t293 ≥ t312 then ((value_Greatest.f a0).bind fun t313 => (if t293 ≤ t313 then (if 0 ≤ a0 then (if (shl .i64 1 a0) = 0 then (none) else (if (Int.tmod (wrap64 (a1 - t293)) (shl .i64 1 a0)) = 0 then ((value_Wrap.f a0 (wrap64 (a1 + a2))).bind fun t314 => (if t295 = t314 then ((value_Wrap.f a0 (wrap64 (a1 * a2))).bind fun t315 => (if t298 = t315 then (if t303 = t306 then (if ((t309 == 1) == (decide (t293 < t294))) = true then ((assessorlaw11_awake.f kj22).bind fun t316 => (some t316)) else (some false)) else (some false)) else (some false))) else (some false))) else (some false))) else (none)) else (some false))) else (some false))) = some r := by rw [if_neg (show ¬ (false = true) by decide)] at H; exact H
              clear H
              have H := H1
              clear H1
              replace H := Option.bind_eq_some_iff.mp H
              obtain ⟨t312, A350, H⟩ := H
              replace H : (if t293 ≥ t312 then ((value_Greatest.f a0).bind fun t313 => (if t293 ≤ t313 then (if 0 ≤ a0 then (if (shl .i64 1 a0) = 0 then (none) else (if (Int.tmod (wrap64 (a1 - t293)) (shl .i64 1 a0)) = 0 then ((value_Wrap.f a0 (wrap64 (a1 + a2))).bind fun t314 => (if t295 = t314 then ((value_Wrap.f a0 (wrap64 (a1 * a2))).bind fun t315 => (if t298 = t315 then (if t303 = t306 then (if ((t309 == 1) == (decide (t293 < t294))) = true then ((assessorlaw11_awake.f kj22).bind fun t316 => (some t316)) else (some false)) else (some false)) else (some false))) else (some false))) else (some false))) else (none)) else (some false))) else (some false)) = some r := H
              have A35 := Aside0.mk A350
              clear A350
              by_cases c36 : t293 ≥ t312
              · rw [if_pos c36] at H
                have c36b0 : decide (t312 ≤ t293) = true := decide_eq_true c36
                clear c36
                replace H := Option.bind_eq_some_iff.mp H
                obtain ⟨t313, A370, H⟩ := H
                replace H : (if t293 ≤ t313 then (if 0 ≤ a0 then (if (shl .i64 1 a0) = 0 then (none) else (if (Int.tmod (wrap64 (a1 - t293)) (shl .i64 1 a0)) = 0 then ((value_Wrap.f a0 (wrap64 (a1 + a2))).bind fun t314 => (if t295 = t314 then ((value_Wrap.f a0 (wrap64 (a1 * a2))).bind fun t315 => (if t298 = t315 then (if t303 = t306 then (if ((t309 == 1) == (decide (t293 < t294))) = true then ((assessorlaw11_awake.f kj22).bind fun t316 => (some t316)) else (some false)) else (some false)) else (some false))) else (some false))) else (some false))) else (none)) else (some false)) = some r := H
                have A37 := Aside0.mk A370
                clear A370
                by_cases c38 : t293 ≤ t313
                · rw [if_pos c38] at H
                  have c38b0 : decide (t293 ≤ t313) = true := decide_eq_true c38
                  clear c38
                  by_cases c39 : 0 ≤ a0
                  · rw [if_pos c39] at H
                    have c39b0 := eq_true c39
                    have c39b1 : decide (0 ≤ a0) = true := decide_eq_true c39
                    clear c39
                    obtain ⟨ji40, hji40⟩ : ∃ j_ : Int, (shl .i64 1 a0) = j_ := ⟨_, rfl⟩
                    replace H : (if (ji40) = 0 then (none) else (if (Int.tmod (wrap64 (a1 - t293)) (ji40)) = 0 then ((value_Wrap.f a0 (wrap64 (a1 + a2))).bind fun t314 => (if t295 = t314 then ((value_Wrap.f a0 (wrap64 (a1 * a2))).bind fun t315 => (if t298 = t315 then (if t303 = t306 then (if ((t309 == 1) == (decide (t293 < t294))) = true then ((assessorlaw11_awake.f kj22).bind fun t316 => (some t316)) else (some false)) else (some false)) else (some false))) else (some false))) else (some false))) = some r := by first | (rw [hji40] at H; exact H) | (simp only [hji40] at H ⊢; exact H)
                    (try rw [hji40] at A35)
                    (try rw [hji40] at A37)
                    have hji40_ : (IntKind.i64.wrap (1 * 2 ^ min a0.toNat 64)) = ji40 := hji40
                    have hji40z : a0 ≤ 64 → (IntKind.i64.wrap (1 * 2 ^ a0.toNat)) = ji40 := shl_small hji40
                    have hji40u : (IntKind.i64.wrap (2 ^ min a0.toNat 64)) = ji40 := by have h_ := hji40_; rw [Int.one_mul] at h_; exact h_
                    have hji40v : a0 ≤ 64 → (IntKind.i64.wrap (2 ^ a0.toNat)) = ji40 := fun hle_ => by have h_ := hji40z hle_; rw [Int.one_mul] at h_; exact h_
                    have hji40y : (wrap64 (1 * 2 ^ min a0.toNat 64)) = ji40 := (i64_w _).symm.trans hji40_
                    have hji40x : a0 ≤ 64 → (wrap64 (1 * 2 ^ a0.toNat)) = ji40 := fun h_ => (i64_w _).symm.trans (hji40z h_)
                    by_cases c41 : (ji40) = 0
                    · rw [if_pos c41] at H
                      exact absurd H (by simp)
                    · rw [if_neg c41] at H
                      have c41b0 : ((ji40) == 0) = false := beq_eq_false_iff_ne.mpr c41
                      have c41b1 : ((ji40) != 0) = true := bne_iff_ne.mpr c41
                      by_cases c42 : (Int.tmod (wrap64 (a1 - t293)) (ji40)) = 0
                      · rw [if_pos c42] at H
                        have c42b0 : ((Int.tmod (wrap64 (a1 - t293)) (ji40)) == 0) = true := beq_iff_eq.mpr c42
                        have c42b1 : ((Int.tmod (wrap64 (a1 - t293)) (ji40)) != 0) = false := bne_eq_false_iff_eq.mpr c42
                        clear c42
                        replace H := Option.bind_eq_some_iff.mp H
                        obtain ⟨t314, A430, H⟩ := H
                        replace H : (if t295 = t314 then ((value_Wrap.f a0 (wrap64 (a1 * a2))).bind fun t315 => (if t298 = t315 then (if t303 = t306 then (if ((t309 == 1) == (decide (t293 < t294))) = true then ((assessorlaw11_awake.f kj22).bind fun t316 => (some t316)) else (some false)) else (some false)) else (some false))) else (some false)) = some r := H
                        have A43 := Aside0.mk A430
                        clear A430
                        by_cases c44 : t295 = t314
                        · rw [if_pos c44] at H
                          have c44b0 : (t295 == t314) = true := beq_iff_eq.mpr c44
                          have c44b1 : (t295 != t314) = false := bne_eq_false_iff_eq.mpr c44
                          clear c44
                          replace H := Option.bind_eq_some_iff.mp H
                          obtain ⟨t315, A450, H⟩ := H
                          replace H : (if t298 = t315 then (if t303 = t306 then (if ((t309 == 1) == (decide (t293 < t294))) = true then ((assessorlaw11_awake.f kj22).bind fun t316 => (some t316)) else (some false)) else (some false)) else (some false)) = some r := H
                          have A45 := Aside0.mk A450
                          clear A450
                          by_cases c46 : t298 = t315
                          · rw [if_pos c46] at H
                            have c46b0 : (t298 == t315) = true := beq_iff_eq.mpr c46
                            have c46b1 : (t298 != t315) = false := bne_eq_false_iff_eq.mpr c46
                            clear c46
                            by_cases c47 : t303 = t306
                            · rw [if_pos c47] at H
                              have c47b0 : (t303 == t306) = true := beq_iff_eq.mpr c47
                              have c47b1 : (t303 != t306) = false := bne_eq_false_iff_eq.mpr c47
                              clear c47
                              by_cases c48 : ((t309 == 1) == (decide (t293 < t294))) = true
                              · rw [if_pos c48] at H
                                have c48b0 : ((t309 == 1) == (decide (t293 < t294))) = true := c48
                                (try (have c48b1 : decide ((t309 == 1) = (decide (t293 < t294))) = true := by simpa using c48))
                                (try (have c48b2 : ((t309 == 1) == (decide (t293 < t294))) = true := by simpa using c48))
                                clear c48
                                replace H := Option.bind_eq_some_iff.mp H
                                obtain ⟨t316, A490, H⟩ := H
                                replace H : (some t316) = some r := H
                                have A49 := Aside0.mk A490
                                clear A490
                                obtain rfl := Option.some.inj H
                                go_wp2_with (first | ((with_reducible refine gate_callee (f := 19) rfl ?_); refine goesL_ (some 131) rfl rfl Try.func19 (by kernel_rfl) rfl #[.int .i64 a0] rfl (by (try simp only [List.map_toArray, List.map_cons, List.map_nil]); first | done | rfl | (simp only [List.length_drop, List.length_take]; rfl)) ?_; (with_reducible refine (value_Least.calls a0 t312 _ A35.out).mono ?_); rintro e w' ⟨rfl, ⟨nd, rfl⟩⟩; refine ⟨_, rfl, ?_⟩) | (go_at_call 21; (with_reducible refine (value_Greatest.calls a0 t313 _ A37.out).mono ?_); rintro e w' ⟨rfl, ⟨nd, rfl⟩⟩) | (go_at_call 13; (with_reducible refine (value_Wrap.calls a0 (wrap64 (a1 + a2)) t314 _ A43.out).mono ?_); rintro e w' ⟨rfl, ⟨nd, rfl⟩⟩) | (go_at_call 13; (with_reducible refine (value_Wrap.calls a0 (wrap64 (a1 * a2)) t315 _ A45.out).mono ?_); rintro e w' ⟨rfl, ⟨nd, rfl⟩⟩) | (go_at_call 9; (with_reducible refine (assessorlaw11_awake.calls kj22  t316 _ A49.out).mono ?_); rintro e w50 ⟨rfl, hb⟩; have n0_ := Aside0.mk (below_step (by repeat (first | (with_reducible first | exact HB.out | apply below_alloc | apply pw_below_drewN | apply below_drew1) | exact HB.out)) hb); clear HB; have HB := n0_; clear n0_; (try clear hb); (try clear hb2); (try clear hk); (try clear hi)))
                                go_ret
                                exact ⟨by first | rfl | (simp [errW_none, errW_some] <;> rfl) | (simp only [← hji40]; first | rfl | (simp [errW_none, errW_some] <;> rfl)) | (simp [*, errW_none, errW_some] <;> rfl), by repeat (first | (with_reducible first | exact HB.out | apply below_alloc | apply pw_below_drewN | apply below_drew1) | exact HB.out)⟩
                              · rw [if_neg c48] at H
                                have c48b0 : ((t309 == 1) == (decide (t293 < t294))) = false := by simpa using c48
                                (try (have c48b1 : decide ((t309 == 1) = (decide (t293 < t294))) = false := by simpa using c48))
                                (try (have c48b2 : ((t309 == 1) == (decide (t293 < t294))) = false := by simpa using c48))
                                (try (have c48b3 : ¬ ((t309 == 1) = (decide (t293 < t294))) := by simpa using c48))
                                clear c48
                                obtain rfl := Option.some.inj H
                                go_wp2_with (first | ((with_reducible refine gate_callee (f := 19) rfl ?_); refine goesL_ (some 131) rfl rfl Try.func19 (by kernel_rfl) rfl #[.int .i64 a0] rfl (by (try simp only [List.map_toArray, List.map_cons, List.map_nil]); first | done | rfl | (simp only [List.length_drop, List.length_take]; rfl)) ?_; (with_reducible refine (value_Least.calls a0 t312 _ A35.out).mono ?_); rintro e w' ⟨rfl, ⟨nd, rfl⟩⟩; refine ⟨_, rfl, ?_⟩) | (go_at_call 21; (with_reducible refine (value_Greatest.calls a0 t313 _ A37.out).mono ?_); rintro e w' ⟨rfl, ⟨nd, rfl⟩⟩) | (go_at_call 13; (with_reducible refine (value_Wrap.calls a0 (wrap64 (a1 + a2)) t314 _ A43.out).mono ?_); rintro e w' ⟨rfl, ⟨nd, rfl⟩⟩) | (go_at_call 13; (with_reducible refine (value_Wrap.calls a0 (wrap64 (a1 * a2)) t315 _ A45.out).mono ?_); rintro e w' ⟨rfl, ⟨nd, rfl⟩⟩))
                                go_ret
                                exact ⟨by first | rfl | (simp [errW_none, errW_some] <;> rfl) | (simp only [← hji40]; first | rfl | (simp [errW_none, errW_some] <;> rfl)) | (simp [*, errW_none, errW_some] <;> rfl), by repeat (first | (with_reducible first | exact HB.out | apply below_alloc | apply pw_below_drewN | apply below_drew1) | exact HB.out)⟩
                            · rw [if_neg c47] at H
                              have c47b0 : (t303 == t306) = false := beq_eq_false_iff_ne.mpr c47
                              have c47b1 : (t303 != t306) = true := bne_iff_ne.mpr c47
                              obtain rfl := Option.some.inj H
                              go_wp2_with (first | ((with_reducible refine gate_callee (f := 19) rfl ?_); refine goesL_ (some 131) rfl rfl Try.func19 (by kernel_rfl) rfl #[.int .i64 a0] rfl (by (try simp only [List.map_toArray, List.map_cons, List.map_nil]); first | done | rfl | (simp only [List.length_drop, List.length_take]; rfl)) ?_; (with_reducible refine (value_Least.calls a0 t312 _ A35.out).mono ?_); rintro e w' ⟨rfl, ⟨nd, rfl⟩⟩; refine ⟨_, rfl, ?_⟩) | (go_at_call 21; (with_reducible refine (value_Greatest.calls a0 t313 _ A37.out).mono ?_); rintro e w' ⟨rfl, ⟨nd, rfl⟩⟩) | (go_at_call 13; (with_reducible refine (value_Wrap.calls a0 (wrap64 (a1 + a2)) t314 _ A43.out).mono ?_); rintro e w' ⟨rfl, ⟨nd, rfl⟩⟩) | (go_at_call 13; (with_reducible refine (value_Wrap.calls a0 (wrap64 (a1 * a2)) t315 _ A45.out).mono ?_); rintro e w' ⟨rfl, ⟨nd, rfl⟩⟩))
                              go_ret
                              exact ⟨by first | rfl | (simp [errW_none, errW_some] <;> rfl) | (simp only [← hji40]; first | rfl | (simp [errW_none, errW_some] <;> rfl)) | (simp [*, errW_none, errW_some] <;> rfl), by repeat (first | (with_reducible first | exact HB.out | apply below_alloc | apply pw_below_drewN | apply below_drew1) | exact HB.out)⟩
                          · rw [if_neg c46] at H
                            have c46b0 : (t298 == t315) = false := beq_eq_false_iff_ne.mpr c46
                            have c46b1 : (t298 != t315) = true := bne_iff_ne.mpr c46
                            obtain rfl := Option.some.inj H
                            go_wp2_with (first | ((with_reducible refine gate_callee (f := 19) rfl ?_); refine goesL_ (some 131) rfl rfl Try.func19 (by kernel_rfl) rfl #[.int .i64 a0] rfl (by (try simp only [List.map_toArray, List.map_cons, List.map_nil]); first | done | rfl | (simp only [List.length_drop, List.length_take]; rfl)) ?_; (with_reducible refine (value_Least.calls a0 t312 _ A35.out).mono ?_); rintro e w' ⟨rfl, ⟨nd, rfl⟩⟩; refine ⟨_, rfl, ?_⟩) | (go_at_call 21; (with_reducible refine (value_Greatest.calls a0 t313 _ A37.out).mono ?_); rintro e w' ⟨rfl, ⟨nd, rfl⟩⟩) | (go_at_call 13; (with_reducible refine (value_Wrap.calls a0 (wrap64 (a1 + a2)) t314 _ A43.out).mono ?_); rintro e w' ⟨rfl, ⟨nd, rfl⟩⟩) | (go_at_call 13; (with_reducible refine (value_Wrap.calls a0 (wrap64 (a1 * a2)) t315 _ A45.out).mono ?_); rintro e w' ⟨rfl, ⟨nd, rfl⟩⟩))
                            go_ret
                            exact ⟨by first | rfl | (simp [errW_none, errW_some] <;> rfl) | (simp only [← hji40]; first | rfl | (simp [errW_none, errW_some] <;> rfl)) | (simp [*, errW_none, errW_some] <;> rfl), by repeat (first | (with_reducible first | exact HB.out | apply below_alloc | apply pw_below_drewN | apply below_drew1) | exact HB.out)⟩
                        · rw [if_neg c44] at H
                          have c44b0 : (t295 == t314) = false := beq_eq_false_iff_ne.mpr c44
                          have c44b1 : (t295 != t314) = true := bne_iff_ne.mpr c44
                          obtain rfl := Option.some.inj H
                          go_wp2_with (first | ((with_reducible refine gate_callee (f := 19) rfl ?_); refine goesL_ (some 131) rfl rfl Try.func19 (by kernel_rfl) rfl #[.int .i64 a0] rfl (by (try simp only [List.map_toArray, List.map_cons, List.map_nil]); first | done | rfl | (simp only [List.length_drop, List.length_take]; rfl)) ?_; (with_reducible refine (value_Least.calls a0 t312 _ A35.out).mono ?_); rintro e w' ⟨rfl, ⟨nd, rfl⟩⟩; refine ⟨_, rfl, ?_⟩) | (go_at_call 21; (with_reducible refine (value_Greatest.calls a0 t313 _ A37.out).mono ?_); rintro e w' ⟨rfl, ⟨nd, rfl⟩⟩) | (go_at_call 13; (with_reducible refine (value_Wrap.calls a0 (wrap64 (a1 + a2)) t314 _ A43.out).mono ?_); rintro e w' ⟨rfl, ⟨nd, rfl⟩⟩))
                          go_ret
                          exact ⟨by first | rfl | (simp [errW_none, errW_some] <;> rfl) | (simp only [← hji40]; first | rfl | (simp [errW_none, errW_some] <;> rfl)) | (simp [*, errW_none, errW_some] <;> rfl), by repeat (first | (with_reducible first | exact HB.out | apply below_alloc | apply pw_below_drewN | apply below_drew1) | exact HB.out)⟩
                      · rw [if_neg c42] at H
                        have c42b0 : ((Int.tmod (wrap64 (a1 - t293)) (ji40)) == 0) = false := beq_eq_false_iff_ne.mpr c42
                        have c42b1 : ((Int.tmod (wrap64 (a1 - t293)) (ji40)) != 0) = true := bne_iff_ne.mpr c42
                        obtain rfl := Option.some.inj H
                        go_wp2_with (first | ((with_reducible refine gate_callee (f := 19) rfl ?_); refine goesL_ (some 131) rfl rfl Try.func19 (by kernel_rfl) rfl #[.int .i64 a0] rfl (by (try simp only [List.map_toArray, List.map_cons, List.map_nil]); first | done | rfl | (simp only [List.length_drop, List.length_take]; rfl)) ?_; (with_reducible refine (value_Least.calls a0 t312 _ A35.out).mono ?_); rintro e w' ⟨rfl, ⟨nd, rfl⟩⟩; refine ⟨_, rfl, ?_⟩) | (go_at_call 21; (with_reducible refine (value_Greatest.calls a0 t313 _ A37.out).mono ?_); rintro e w' ⟨rfl, ⟨nd, rfl⟩⟩))
                        go_ret
                        exact ⟨by first | rfl | (simp [errW_none, errW_some] <;> rfl) | (simp only [← hji40]; first | rfl | (simp [errW_none, errW_some] <;> rfl)) | (simp [*, errW_none, errW_some] <;> rfl), by repeat (first | (with_reducible first | exact HB.out | apply below_alloc | apply pw_below_drewN | apply below_drew1) | exact HB.out)⟩
                  · rw [if_neg c39] at H
                    exact absurd H (by simp)
                · rw [if_neg c38] at H
                  have c38b0 : decide (t293 ≤ t313) = false := decide_eq_false c38
                  clear c38
                  obtain rfl := Option.some.inj H
                  go_wp2_with (first | ((with_reducible refine gate_callee (f := 19) rfl ?_); refine goesL_ (some 131) rfl rfl Try.func19 (by kernel_rfl) rfl #[.int .i64 a0] rfl (by (try simp only [List.map_toArray, List.map_cons, List.map_nil]); first | done | rfl | (simp only [List.length_drop, List.length_take]; rfl)) ?_; (with_reducible refine (value_Least.calls a0 t312 _ A35.out).mono ?_); rintro e w' ⟨rfl, ⟨nd, rfl⟩⟩; refine ⟨_, rfl, ?_⟩) | (go_at_call 21; (with_reducible refine (value_Greatest.calls a0 t313 _ A37.out).mono ?_); rintro e w' ⟨rfl, ⟨nd, rfl⟩⟩))
                  go_ret
                  exact ⟨by first | rfl | (simp [errW_none, errW_some] <;> rfl) | (simp [*, errW_none, errW_some] <;> rfl), by repeat (first | (with_reducible first | exact HB.out | apply below_alloc | apply pw_below_drewN | apply below_drew1) | exact HB.out)⟩
              · rw [if_neg c36] at H
                have c36b0 : decide (t312 ≤ t293) = false := decide_eq_false c36
                clear c36
                obtain rfl := Option.some.inj H
                go_wp2_with (first | ((with_reducible refine gate_callee (f := 19) rfl ?_); refine goesL_ (some 131) rfl rfl Try.func19 (by kernel_rfl) rfl #[.int .i64 a0] rfl (by (try simp only [List.map_toArray, List.map_cons, List.map_nil]); first | done | rfl | (simp only [List.length_drop, List.length_take]; rfl)) ?_; (with_reducible refine (value_Least.calls a0 t312 _ A35.out).mono ?_); rintro e w' ⟨rfl, ⟨nd, rfl⟩⟩; refine ⟨_, rfl, ?_⟩))
                go_ret
                exact ⟨by first | rfl | (simp [errW_none, errW_some] <;> rfl) | (simp [*, errW_none, errW_some] <;> rfl), by repeat (first | (with_reducible first | exact HB.out | apply below_alloc | apply pw_below_drewN | apply below_drew1) | exact HB.out)⟩

/-- THE ONE PURE STATEMENT of assessorlaw11_ValueRing: yours. -/
def assessorlaw11_ValueRing.Pure : Prop := ∀ (a0 : Int) (a1 : Int) (a2 : Int), (Lit.int .i64 a0).wf = true → (Lit.int .i64 a1).wf = true → (Lit.int .i64 a2).wf = true → ∃ k, assessorlaw11_ValueRing.f k a0 a1 a2 = some true
theorem assessorlaw11_ValueRing.walk (P : assessorlaw11_ValueRing.Pure) (a0 : Int) (a1 : Int) (a2 : Int) (w : World) (w0 : (Lit.int .i64 a0).wf = true) (w1 : (Lit.int .i64 a1).wf = true) (w2 : (Lit.int .i64 a2).wf = true) :
    Calls Try.prog 6 #[.int .i64 a0, .int .i64 a1, .int .i64 a2] w fun e w' => e = .returned (.bool true) ∧ Below w.heap.size w w' := by
  obtain ⟨k, h⟩ := P a0 a1 a2 w0 w1 w2
  refine (assessorlaw11_ValueRing.calls k a0 a1 a2 true w h).mono ?_
  rintro e w' ⟨rfl, hd⟩
  exact ⟨rfl, hd⟩

end Go.Proofs.Ytogknojocodhgaa.P
