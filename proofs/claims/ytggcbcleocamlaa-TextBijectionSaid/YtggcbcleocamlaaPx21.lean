-- Written by a program of this session (jprint.py over the kit's print), for this claim. Lean checks it.
import Derived.Test.YtggcbcleocamlaaPx0
import Derived.Test.YtggcbcleocamlaaPx5
namespace Go.Proofs.Ytggcbcleocamlaa.P
open Go.RowKit Go.Proofs.YtggcbcleocamlaaW.PrintWords Go.Proofs.YtggcbcleocamlaaW.PrintLast Go.Proofs.YtggcbcleocamlaaW.PrintMore
attribute [local go_sem] max2_int min2_int max_two min_two max_three min_three max_four min_four   -- for this text's walks alone
set_option linter.unusedVariables false
set_option linter.unusedSimpArgs false

/-! ### text_bounds: function 38 -/
def text_bounds.j0 : Nat → ByteArray → Int → List Int → Bool → Option (Int × Int × Bool)
  | 0, _, _, _, _ => none
  | k + 1, x0, x1, x7, x10 => if x10 = true then (some (0, 0, false)) else (if x1 = (x7.length : Int) then (if 0 ≤ (wrap64 (x1 - 1)) then (if (wrap64 (x1 - 1)) < (x7.length : Int) then (some (rd x7 (wrap64 (x1 - 1)), (x0.size : Int), true)) else (none)) else (none)) else (if 0 ≤ (wrap64 (x1 - 1)) then (if (wrap64 (x1 - 1)) < (x7.length : Int) then (if 0 ≤ x1 then (if x1 < (x7.length : Int) then (some (rd x7 (wrap64 (x1 - 1)), rd x7 x1, true)) else (none)) else (none)) else (none)) else (none)))
def text_bounds.f (k : Nat) (a0 : ByteArray) (a1 : Int) : Option (Int × Int × Bool) := (text_Lines.f k a0).bind fun t245 => (if a1 < 1 then (text_bounds.j0 k a0 a1 t245 true) else (text_bounds.j0 k a0 a1 t245 (decide (a1 > (t245.length : Int)))))
theorem text_bounds.mono_l : ∀ k, (∀ y0 y1 y2 y3, LeO (text_bounds.j0 k y0 y1 y2 y3) (text_bounds.j0 (k + 1) y0 y1 y2 y3))
  | 0 => fun _ _ _ _ r h => by simp [text_bounds.j0] at h
  | k + 1 => by
    have ih0 := text_bounds.mono_l k
    · intro y0 y1 y2 y3
      unfold text_bounds.j0
      repeat' first
      | (with_reducible exact ih0 _ _ _ _)
      | (with_reducible exact text_Lines.mono _ _)
      | (with_reducible exact LeO.refl _)
      | (with_reducible exact LeO.none _)
      | (with_reducible refine LeO.ite ?_ ?_)
      | (with_reducible refine LeO.bind ?_ (fun _ => ?_))
      | exact ih0 _ _ _ _
      | exact text_Lines.mono _ _
      | exact LeO.none _
      | refine LeO.ite ?_ ?_
      | refine LeO.bind ?_ (fun _ => ?_)
theorem text_bounds.mono : ∀ a0 a1 k, LeO (text_bounds.f k a0 a1) (text_bounds.f (k + 1) a0 a1) := by
  intro a0 a1 k
  have ih0 := text_bounds.mono_l k
  unfold text_bounds.f
  repeat' first
      | (with_reducible exact ih0 _ _ _ _)
      | (with_reducible exact text_Lines.mono _ _)
      | (with_reducible exact LeO.refl _)
      | (with_reducible exact LeO.none _)
      | (with_reducible refine LeO.ite ?_ ?_)
      | (with_reducible refine LeO.bind ?_ (fun _ => ?_))
      | exact ih0 _ _ _ _
      | exact text_Lines.mono _ _
      | exact LeO.none _
      | refine LeO.ite ?_ ?_
      | refine LeO.bind ?_ (fun _ => ?_)
set_option maxHeartbeats 8000000 in
set_option maxRecDepth 100000 in
theorem text_bounds.calls (k : Nat) (a0 : ByteArray) (a1 : Int) (r1 : Int) (r2 : Int) (r3 : Bool) (w : World) (h : text_bounds.f k a0 a1 = some (r1, r2, r3)) :
    Calls Try.prog 38 #[.string a0, .int .i64 a1] w fun e w' => e = .returned (.tuple #[.int .i64 r1, .int .i64 r2, .bool r3]) ∧ Below w.heap.size w w' := by
  have HB := Aside0.mk (Below.refl w.heap.size w)
  have H : ((text_Lines.f k a0).bind fun t245 => (if a1 < 1 then (text_bounds.j0 k a0 a1 t245 true) else (text_bounds.j0 k a0 a1 t245 (decide (a1 > (t245.length : Int)))))) = some (r1, r2, r3) := h
  clear h
  replace H := Option.bind_eq_some_iff.mp H
  obtain ⟨t245, A30, H⟩ := H
  replace H : (if a1 < 1 then (text_bounds.j0 k a0 a1 t245 true) else (text_bounds.j0 k a0 a1 t245 (decide (a1 > (t245.length : Int))))) = some (r1, r2, r3) := H
  have A3 := Aside0.mk A30
  clear A30
  have HC4 := Aside0.mk H
  clear H
  go_enter Try.func38, Try.ntmps38
  go_upto_region 2 with (first | (go_at_call 25; (with_reducible refine (text_Lines.calls k a0 t245 _ A3.out).mono ?_); rintro e w5 ⟨v246, rfl, ho0, hb⟩; have n0_ := Aside0.mk (Kd.R_lower ho0 (below_size (by repeat (first | (with_reducible first | exact HB.out | apply below_alloc | apply pw_below_drewN | apply below_drew1) | exact HB.out)))); have n1_ := Aside0.mk (below_step (by repeat (first | (with_reducible first | exact HB.out | apply below_alloc | apply pw_below_drewN | apply below_drew1) | exact HB.out)) hb); clear HB; have HO247 := n0_; have HB := n1_; clear n0_ n1_; (try clear hb); (try clear hb2); (try clear hk); (try clear hi); (try clear ho0)))
  repeat (go_quiet (first | (go_at_call 25; (with_reducible refine (text_Lines.calls k a0 t245 _ A3.out).mono ?_); rintro e w5 ⟨v246, rfl, ho0, hb⟩; have n0_ := Aside0.mk (Kd.R_lower ho0 (below_size (by repeat (first | (with_reducible first | exact HB.out | apply below_alloc | apply pw_below_drewN | apply below_drew1) | exact HB.out)))); have n1_ := Aside0.mk (below_step (by repeat (first | (with_reducible first | exact HB.out | apply below_alloc | apply pw_below_drewN | apply below_drew1) | exact HB.out)) hb); clear HB; have HO247 := n0_; have HB := n1_; clear n0_ n1_; (try clear hb); (try clear hb2); (try clear hk); (try clear hi); (try clear ho0))); go_upto_region 2 with (first | (go_at_call 25; (with_reducible refine (text_Lines.calls k a0 t245 _ A3.out).mono ?_); rintro e w5 ⟨v246, rfl, ho0, hb⟩; have n0_ := Aside0.mk (Kd.R_lower ho0 (below_size (by repeat (first | (with_reducible first | exact HB.out | apply below_alloc | apply pw_below_drewN | apply below_drew1) | exact HB.out)))); have n1_ := Aside0.mk (below_step (by repeat (first | (with_reducible first | exact HB.out | apply below_alloc | apply pw_below_drewN | apply below_drew1) | exact HB.out)) hb); clear HB; have HO247 := n0_; have HB := n1_; clear n0_ n1_; (try clear hb); (try clear hb2); (try clear hk); (try clear hi); (try clear ho0))))
  (try simp only [Act.put, List.setIfInBounds_toArray, List.set_cons_zero, List.set_cons_succ])
  go_cut [10] (fun v10 wc => ∃ (kq : Nat) (x10_3 : Bool), v10 = .bool x10_3 ∧ Aside0 (text_bounds.j0 kq a0 a1 t245 x10_3 = some (r1, r2, r3)) ∧ Aside0 (kq ≤ k) ∧ Aside0 (Kd.R (Kd.int .i64) 3 wc w.heap.size (fun _ => True) v246 t245) ∧ Aside0 (Below w.heap.size w wc))
  case first =>
    have H := HC4.out
    clear HC4
    by_cases c6 : a1 < 1
    · rw [if_pos c6] at H
      have c6b0 : decide (a1 < 1) = true := decide_eq_true c6
      clear c6
      (first | rw [c6b0] | (simp only [i64_w, i32_w]; rw [c6b0]) | skip)
      have H' := Aside0.mk H
      clear H
      go_wp2
      repeat (go_quiet (fail); try go_wp2)
      go_meet
      case rel => exact ⟨_, (true), (by first | rfl | (simp; done) | (simp [*]; done)), H', ⟨by first | omega | exact Nat.le_refl _⟩, ⟨by (with_reducible repeat (first | apply Kd.R_alloc | apply Kd.R_drewN | apply Kd.R_drew)); exact HO247.out⟩, ⟨by repeat (first | (with_reducible first | exact HB.out | apply below_alloc | apply pw_below_drewN | apply below_drew1) | exact HB.out)⟩⟩
    · rw [if_neg c6] at H
      have c6b0 : decide (a1 < 1) = false := decide_eq_false c6
      clear c6
      (first | rw [c6b0] | (simp only [i64_w, i32_w]; rw [c6b0]) | skip)
      have H' := Aside0.mk H
      clear H
      obtain ⟨Ao7, co7, eo7⟩ := Kd.R_slice HO247.out
      subst eo7
      go_wp2
      repeat (go_quiet (fail); try go_wp2)
      go_meet
      case rel => exact ⟨_, (decide (a1 > (t245.length : Int))), (by first | rfl | (simp; done) | (simp [*]; done)), H', ⟨by first | omega | exact Nat.le_refl _⟩, ⟨by (with_reducible repeat (first | apply Kd.R_alloc | apply Kd.R_drewN | apply Kd.R_drew)); exact HO247.out⟩, ⟨by repeat (first | (with_reducible first | exact HB.out | apply below_alloc | apply pw_below_drewN | apply below_drew1) | exact HB.out)⟩⟩
  case rest =>
    clear HC4
    try clear p2
    try clear c3
    try clear c6
    try clear c6b0
    obtain ⟨kq, x10_3, rfl, HA, HJ3, HO_7, HB⟩ := hcut
    cases kq with
    | zero => exact absurd HA.out (by simp [text_bounds.j0])
    | succ kj3 =>
      have H := HA.out
      clear HA
      simp only [text_bounds.j0] at H
      by_cases c8 : x10_3 = true
      · subst c8
        have H1 : (some (0, 0, false)) = some (r1, r2, r3) := by rw [if_pos rfl] at H; exact H
        clear H
        have H := H1
        clear H1
        simp only [Option.some.injEq, Prod.mk.injEq] at H
        obtain ⟨rfl, rfl, rfl⟩ := H
        go_wp2
        repeat (go_quiet (fail); try go_wp2)
        go_ret3
        exact ⟨by first | rfl | (simp [errW_none, errW_some] <;> rfl) | (simp [*, errW_none, errW_some] <;> rfl), by repeat (first | (with_reducible first | exact HB.out | apply below_alloc | apply pw_below_drewN | apply below_drew1) | exact HB.out)⟩
      · replace c8 := Bool.eq_false_iff.mpr c8
        subst c8
        have H1 : (if a1 = (t245.length : Int) then (if 0 ≤ (wrap64 (a1 - 1)) then (if (wrap64 (a1 - 1)) < (t245.length : Int) then (some (rd t245 (wrap64 (a1 - 1)), (a0.size : Int), true)) else (none)) else (none)) else (if 0 ≤ (wrap64 (a1 - 1)) then (if (wrap64 (a1 - 1)) < (t245.length : Int) then (if 0 ≤ a1 then (if a1 < (t245.length : Int) then (some (rd t245 (wrap64 (a1 - 1)), rd t245 a1, true)) else (none)) else (none)) else (none)) else (none))) = some (r1, r2, r3) := by rw [if_neg (show ¬ (false = true) by decide)] at H; exact H
        clear H
        have H := H1
        clear H1
        by_cases c9 : a1 = (t245.length : Int)
        · rw [if_pos c9] at H
          have c9b0 : (a1 == (t245.length : Int)) = true := beq_iff_eq.mpr c9
          have c9b1 : (a1 != (t245.length : Int)) = false := bne_eq_false_iff_eq.mpr c9
          clear c9
          obtain ⟨ji10, hji10⟩ : ∃ j_ : Int, (wrap64 (a1 - 1)) = j_ := ⟨_, rfl⟩
          replace H : (if 0 ≤ (ji10) then (if (ji10) < (t245.length : Int) then (some (rd t245 (ji10), (a0.size : Int), true)) else (none)) else (none)) = some (r1, r2, r3) := by first | (rw [hji10] at H; exact H) | (simp only [hji10] at H ⊢; exact H)
          have hji10w : (IntKind.i64.wrap (a1 - 1)) = ji10 := (i64_w _).trans hji10
          by_cases c11 : 0 ≤ (ji10)
          · rw [if_pos c11] at H
            have c11b0 : decide (0 ≤ (ji10)) = true := decide_eq_true c11
            clear c11
            by_cases c12 : (ji10) < (t245.length : Int)
            · rw [if_pos c12] at H
              have c12b0 : decide ((ji10) < (t245.length : Int)) = true := decide_eq_true c12
              clear c12
              simp only [Option.some.injEq, Prod.mk.injEq] at H
              obtain ⟨rfl, rfl, rfl⟩ := H
              obtain ⟨Ao13, co13, eo13⟩ := Kd.R_slice HO_7.out
              subst eo13
              have p248 : 0 ≤ ((ji10) : Int) := of_decide_eq_true (by first | (with_reducible assumption) | assumption)
              have q248 : (ji10) < (t245.length : Int) := of_decide_eq_true (by first | (with_reducible assumption) | assumption)
              obtain ⟨ad248, e248, hx248_0⟩ := Kd.at_int (Kd.R_reads' HO_7.out).2.2 (ji10) p248 q248
              cases e248
              replace p248 := eq_true p248
              replace q248 := eq_true q248
              go_wp2
              repeat (go_quiet (fail); try go_wp2)
              go_ret3
              exact ⟨by first | rfl | (simp [errW_none, errW_some] <;> rfl) | (simp only [← hji10]; first | rfl | (simp [errW_none, errW_some] <;> rfl)) | (simp [*, errW_none, errW_some] <;> rfl), by repeat (first | (with_reducible first | exact HB.out | apply below_alloc | apply pw_below_drewN | apply below_drew1) | exact HB.out)⟩
            · rw [if_neg c12] at H
              exact absurd H (by simp)
          · rw [if_neg c11] at H
            exact absurd H (by simp)
        · rw [if_neg c9] at H
          have c9b0 : (a1 == (t245.length : Int)) = false := beq_eq_false_iff_ne.mpr c9
          have c9b1 : (a1 != (t245.length : Int)) = true := bne_iff_ne.mpr c9
          obtain ⟨ji14, hji14⟩ : ∃ j_ : Int, (wrap64 (a1 - 1)) = j_ := ⟨_, rfl⟩
          replace H : (if 0 ≤ (ji14) then (if (ji14) < (t245.length : Int) then (if 0 ≤ a1 then (if a1 < (t245.length : Int) then (some (rd t245 (ji14), rd t245 a1, true)) else (none)) else (none)) else (none)) else (none)) = some (r1, r2, r3) := by first | (rw [hji14] at H; exact H) | (simp only [hji14] at H ⊢; exact H)
          have hji14w : (IntKind.i64.wrap (a1 - 1)) = ji14 := (i64_w _).trans hji14
          by_cases c15 : 0 ≤ (ji14)
          · rw [if_pos c15] at H
            have c15b0 : decide (0 ≤ (ji14)) = true := decide_eq_true c15
            clear c15
            by_cases c16 : (ji14) < (t245.length : Int)
            · rw [if_pos c16] at H
              have c16b0 : decide ((ji14) < (t245.length : Int)) = true := decide_eq_true c16
              clear c16
              by_cases c17 : 0 ≤ a1
              · rw [if_pos c17] at H
                have c17b0 : decide (0 ≤ a1) = true := decide_eq_true c17
                clear c17
                by_cases c18 : a1 < (t245.length : Int)
                · rw [if_pos c18] at H
                  have c18b0 : decide (a1 < (t245.length : Int)) = true := decide_eq_true c18
                  clear c18
                  simp only [Option.some.injEq, Prod.mk.injEq] at H
                  obtain ⟨rfl, rfl, rfl⟩ := H
                  obtain ⟨Ao19, co19, eo19⟩ := Kd.R_slice HO_7.out
                  subst eo19
                  have p249 : 0 ≤ ((ji14) : Int) := of_decide_eq_true (by first | (with_reducible assumption) | assumption)
                  have q249 : (ji14) < (t245.length : Int) := of_decide_eq_true (by first | (with_reducible assumption) | assumption)
                  obtain ⟨ad249, e249, hx249_0⟩ := Kd.at_int (Kd.R_reads' HO_7.out).2.2 (ji14) p249 q249
                  cases e249
                  replace p249 := eq_true p249
                  replace q249 := eq_true q249
                  have p250 : 0 ≤ (a1 : Int) := of_decide_eq_true (by first | (with_reducible assumption) | assumption)
                  have q250 : a1 < (t245.length : Int) := of_decide_eq_true (by first | (with_reducible assumption) | assumption)
                  obtain ⟨ad250, e250, hx250_0⟩ := Kd.at_int (Kd.R_reads' HO_7.out).2.2 a1 p250 q250
                  obtain rfl : ad249 = ad250 := (by injection e250)
                  replace p250 := eq_true p250
                  replace q250 := eq_true q250
                  go_wp2
                  repeat (go_quiet (fail); try go_wp2)
                  go_ret3
                  exact ⟨by first | rfl | (simp [errW_none, errW_some] <;> rfl) | (simp only [← hji14]; first | rfl | (simp [errW_none, errW_some] <;> rfl)) | (simp [*, errW_none, errW_some] <;> rfl), by repeat (first | (with_reducible first | exact HB.out | apply below_alloc | apply pw_below_drewN | apply below_drew1) | exact HB.out)⟩
                · rw [if_neg c18] at H
                  exact absurd H (by simp)
              · rw [if_neg c17] at H
                exact absurd H (by simp)
            · rw [if_neg c16] at H
              exact absurd H (by simp)
          · rw [if_neg c15] at H
            exact absurd H (by simp)

end Go.Proofs.Ytggcbcleocamlaa.P
