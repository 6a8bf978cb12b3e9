-- Written by a program of this session (jprint.py over the kit's print), for this claim. Lean checks it.
import Derived.Test.YtggcbcleocamlaaPx0
import Derived.Test.YtggcbcleocamlaaPx23
namespace Go.Proofs.Ytggcbcleocamlaa.P
open Go.RowKit Go.Proofs.YtggcbcleocamlaaW.PrintWords Go.Proofs.YtggcbcleocamlaaW.PrintLast Go.Proofs.YtggcbcleocamlaaW.PrintMore
attribute [local go_sem] max2_int min2_int max_two min_two max_three min_three max_four min_four   -- for this text's walks alone
set_option linter.unusedVariables false
set_option linter.unusedSimpArgs false

/-! ### assessorref01_Line: function 28 -/
def assessorref01_Line.j0 : Nat → ByteArray → Int → List Int → Bool → Option (ByteArray)
  | 0, _, _, _, _ => none
  | k + 1, x0, x1, x5, x16 => if x16 = true then (some (⟨#[]⟩ : ByteArray)) else (if x1 < (x5.length : Int) then (if 0 ≤ x1 then (if 0 ≤ (wrap64 (x1 - 1)) then (if (wrap64 (x1 - 1)) < (x5.length : Int) then (if (wrap64 ((rd x5 x1) - 1)) > (rd x5 (wrap64 (x1 - 1))) then (if 0 ≤ (wrap64 ((wrap64 ((rd x5 x1) - 1)) - 1)) then (if (wrap64 ((wrap64 ((rd x5 x1) - 1)) - 1)) < (x0.size : Int) then (if (bt x0 (wrap64 ((wrap64 ((rd x5 x1) - 1)) - 1))) = 13 then (if 0 ≤ (rd x5 (wrap64 (x1 - 1))) then (if (rd x5 (wrap64 (x1 - 1))) ≤ (wrap64 ((wrap64 ((rd x5 x1) - 1)) - 1)) then (if (wrap64 ((wrap64 ((rd x5 x1) - 1)) - 1)) ≤ (x0.size : Int) then (some (x0.extract ((rd x5 (wrap64 (x1 - 1))) : Int).toNat ((wrap64 ((wrap64 ((rd x5 x1) - 1)) - 1)) : Int).toNat)) else (none)) else (none)) else (none)) else (if 0 ≤ (rd x5 (wrap64 (x1 - 1))) then (if (rd x5 (wrap64 (x1 - 1))) ≤ (wrap64 ((rd x5 x1) - 1)) then (if (wrap64 ((rd x5 x1) - 1)) ≤ (x0.size : Int) then (some (x0.extract ((rd x5 (wrap64 (x1 - 1))) : Int).toNat ((wrap64 ((rd x5 x1) - 1)) : Int).toNat)) else (none)) else (none)) else (none))) else (none)) else (none)) else (if 0 ≤ (rd x5 (wrap64 (x1 - 1))) then (if (rd x5 (wrap64 (x1 - 1))) ≤ (wrap64 ((rd x5 x1) - 1)) then (if (wrap64 ((rd x5 x1) - 1)) ≤ (x0.size : Int) then (some (x0.extract ((rd x5 (wrap64 (x1 - 1))) : Int).toNat ((wrap64 ((rd x5 x1) - 1)) : Int).toNat)) else (none)) else (none)) else (none))) else (none)) else (none)) else (none)) else (if 0 ≤ (wrap64 (x1 - 1)) then (if (wrap64 (x1 - 1)) < (x5.length : Int) then (if 0 ≤ (rd x5 (wrap64 (x1 - 1))) then (if (rd x5 (wrap64 (x1 - 1))) ≤ (x0.size : Int) then (if (x0.size : Int) ≤ (x0.size : Int) then (some (x0.extract ((rd x5 (wrap64 (x1 - 1))) : Int).toNat ((x0.size : Int) : Int).toNat)) else (none)) else (none)) else (none)) else (none)) else (none)))
def assessorref01_Line.f (k : Nat) (a0 : ByteArray) (a1 : Int) : Option (ByteArray) := (assessorref01_Lines.f k a0).bind fun t276 => (if a1 < 1 then (assessorref01_Line.j0 k a0 a1 t276 true) else (assessorref01_Line.j0 k a0 a1 t276 (decide (a1 > (t276.length : Int)))))
theorem assessorref01_Line.mono_l : ∀ k, (∀ y0 y1 y2 y3, LeO (assessorref01_Line.j0 k y0 y1 y2 y3) (assessorref01_Line.j0 (k + 1) y0 y1 y2 y3))
  | 0 => fun _ _ _ _ r h => by simp [assessorref01_Line.j0] at h
  | k + 1 => by
    have ih0 := assessorref01_Line.mono_l k
    · intro y0 y1 y2 y3
      unfold assessorref01_Line.j0
      repeat' first
      | (with_reducible exact ih0 _ _ _ _)
      | (with_reducible exact assessorref01_Lines.mono _ _)
      | (with_reducible exact LeO.refl _)
      | (with_reducible exact LeO.none _)
      | (with_reducible refine LeO.ite ?_ ?_)
      | (with_reducible refine LeO.bind ?_ (fun _ => ?_))
      | exact ih0 _ _ _ _
      | exact assessorref01_Lines.mono _ _
      | exact LeO.none _
      | refine LeO.ite ?_ ?_
      | refine LeO.bind ?_ (fun _ => ?_)
theorem assessorref01_Line.mono : ∀ a0 a1 k, LeO (assessorref01_Line.f k a0 a1) (assessorref01_Line.f (k + 1) a0 a1) := by
  intro a0 a1 k
  have ih0 := assessorref01_Line.mono_l k
  unfold assessorref01_Line.f
  repeat' first
      | (with_reducible exact ih0 _ _ _ _)
      | (with_reducible exact assessorref01_Lines.mono _ _)
      | (with_reducible exact LeO.refl _)
      | (with_reducible exact LeO.none _)
      | (with_reducible refine LeO.ite ?_ ?_)
      | (with_reducible refine LeO.bind ?_ (fun _ => ?_))
      | exact ih0 _ _ _ _
      | exact assessorref01_Lines.mono _ _
      | exact LeO.none _
      | refine LeO.ite ?_ ?_
      | refine LeO.bind ?_ (fun _ => ?_)
set_option maxHeartbeats 8000000 in
set_option maxRecDepth 100000 in
theorem assessorref01_Line.calls (k : Nat) (a0 : ByteArray) (a1 : Int) (r : ByteArray) (w : World) (h : assessorref01_Line.f k a0 a1 = some r) :
    Calls Try.prog 28 #[.string a0, .int .i64 a1] w fun e w' => e = .returned (.string r) ∧ Below w.heap.size w w' := by
  have HB := Aside0.mk (Below.refl w.heap.size w)
  have H : ((assessorref01_Lines.f k a0).bind fun t276 => (if a1 < 1 then (assessorref01_Line.j0 k a0 a1 t276 true) else (assessorref01_Line.j0 k a0 a1 t276 (decide (a1 > (t276.length : Int)))))) = some r := h
  clear h
  replace H := Option.bind_eq_some_iff.mp H
  obtain ⟨t276, A30, H⟩ := H
  replace H : (if a1 < 1 then (assessorref01_Line.j0 k a0 a1 t276 true) else (assessorref01_Line.j0 k a0 a1 t276 (decide (a1 > (t276.length : Int))))) = some r := H
  have A3 := Aside0.mk A30
  clear A30
  have HC4 := Aside0.mk H
  clear H
  go_enter Try.func28, Try.ntmps28
  go_upto_region 2 with (first | ((with_reducible refine gate_callee (f := 26) rfl ?_); refine goesL_ (some 8) rfl rfl Try.func26 (by kernel_rfl) rfl #[.string a0] rfl (by (try simp only [List.map_toArray, List.map_cons, List.map_nil]); first | done | rfl | (simp only [List.length_drop, List.length_take]; rfl)) ?_; (with_reducible refine (assessorref01_Lines.calls k a0 t276 _ A3.out).mono ?_); rintro e w5 ⟨v277, rfl, ho0, hb⟩; refine ⟨_, rfl, ?_⟩; have n0_ := Aside0.mk (Kd.R_lower ho0 (below_size (by repeat (first | (with_reducible first | exact HB.out | apply below_alloc | apply pw_below_drewN | apply below_drew1) | exact HB.out)))); have n1_ := Aside0.mk (below_step (by repeat (first | (with_reducible first | exact HB.out | apply below_alloc | apply pw_below_drewN | apply below_drew1) | exact HB.out)) hb); clear HB; have HO278 := n0_; have HB := n1_; clear n0_ n1_; (try clear hb); (try clear hb2); (try clear hk); (try clear hi); (try clear ho0)))
  (try simp only [Act.put, List.setIfInBounds_toArray, List.set_cons_zero, List.set_cons_succ])
  go_cut [16] (fun v16 wc => ∃ (kq : Nat) (x16_3 : Bool), v16 = .bool x16_3 ∧ Aside0 (assessorref01_Line.j0 kq a0 a1 t276 x16_3 = some r) ∧ Aside0 (kq ≤ k) ∧ Aside0 (Kd.R (Kd.int .i64) 3 wc w.heap.size (fun _ => True) v277 t276) ∧ Aside0 (Below w.heap.size w wc))
  case first =>
    have H := HC4.out
    clear HC4
    by_cases c6 : a1 < 1
    · rw [if_pos c6] at H
      have c6b0 : decide (a1 < 1) = true := decide_eq_true c6
      clear c6
      (first | rw [c6b0] | (simp only [i64_w, i32_w]; rw [c6b0]) | skip)
      have H' := Aside0.mk H
      clear H
      go_wp2
      go_meet
      case rel => exact ⟨_, (true), (by first | rfl | (simp; done) | (simp [*]; done)), H', ⟨by first | omega | exact Nat.le_refl _⟩, ⟨by (with_reducible repeat (first | apply Kd.R_alloc | apply Kd.R_drewN | apply Kd.R_drew)); exact HO278.out⟩, ⟨by repeat (first | (with_reducible first | exact HB.out | apply below_alloc | apply pw_below_drewN | apply below_drew1) | exact HB.out)⟩⟩
    · rw [if_neg c6] at H
      have c6b0 : decide (a1 < 1) = false := decide_eq_false c6
      clear c6
      (first | rw [c6b0] | (simp only [i64_w, i32_w]; rw [c6b0]) | skip)
      have H' := Aside0.mk H
      clear H
      obtain ⟨Ao7, co7, eo7⟩ := Kd.R_slice HO278.out
      subst eo7
      go_wp2
      go_meet
      case rel => exact ⟨_, (decide (a1 > (t276.length : Int))), (by first | rfl | (simp; done) | (simp [*]; done)), H', ⟨by first | omega | exact Nat.le_refl _⟩, ⟨by (with_reducible repeat (first | apply Kd.R_alloc | apply Kd.R_drewN | apply Kd.R_drew)); exact HO278.out⟩, ⟨by repeat (first | (with_reducible first | exact HB.out | apply below_alloc | apply pw_below_drewN | apply below_drew1) | exact HB.out)⟩⟩
  case rest =>
    clear HC4
    try clear c2
    try clear p2
    try clear c6
    try clear c6b0
    obtain ⟨kq, x16_3, rfl, HA, HJ3, HO_5, HB⟩ := hcut
    cases kq with
    | zero => exact absurd HA.out (by simp [assessorref01_Line.j0])
    | succ kj3 =>
      have H := HA.out
      clear HA
      simp only [assessorref01_Line.j0] at H
      by_cases c8 : x16_3 = true
      · subst c8
        have H1 : (some (⟨#[]⟩ : ByteArray)) = some r := by rw [if_pos rfl] at H; exact H
        clear H
        have H := H1
        clear H1
        obtain rfl := Option.some.inj H
        go_wp2
        go_ret
        exact ⟨by first | rfl | (simp [errW_none, errW_some] <;> rfl) | (simp [*, errW_none, errW_some] <;> rfl), by repeat (first | (with_reducible first | exact HB.out | apply below_alloc | apply pw_below_drewN | apply below_drew1) | exact HB.out)⟩
      · replace c8 := Bool.eq_false_iff.mpr c8
        subst c8
        have H1 : (if a1 < (t276.length : Int) then (if 0 ≤ a1 then (if 0 ≤ (wrap64 (a1 - 1)) then (if (wrap64 (a1 - 1)) < (t276.length : Int) then (if (wrap64 ((rd t276 a1) - 1)) > (rd t276 (wrap64 (a1 - 1))) then (if 0 ≤ (wrap64 ((wrap64 ((rd t276 a1) - 1)) - 1)) then (if (wrap64 ((wrap64 ((rd t276 a1) - 1)) - 1)) < (a0.size : Int) then (if (bt a0 (wrap64 ((wrap64 ((rd t276 a1) - 1)) - 1))) = 13 then (if 0 ≤ (rd t276 (wrap64 (a1 - 1))) then (if (rd t276 (wrap64 (a1 - 1))) ≤ (wrap64 ((wrap64 ((rd t276 a1) - 1)) - 1)) then (if (wrap64 ((wrap64 ((rd t276 a1) - 1)) - 1)) ≤ (a0.size : Int) then (some (a0.extract ((rd t276 (wrap64 (a1 - 1))) : Int).toNat ((wrap64 ((wrap64 ((rd t276 a1) - 1)) - 1)) : Int).toNat)) else (none)) else (none)) else (none)) else (if 0 ≤ (rd t276 (wrap64 (a1 - 1))) then (if (rd t276 (wrap64 (a1 - 1))) ≤ (wrap64 ((rd t276 a1) - 1)) then (if (wrap64 ((rd t276 a1) - 1)) ≤ (a0.size : Int) then (some (a0.extract ((rd t276 (wrap64 (a1 - 1))) : Int).toNat ((wrap64 ((rd t276 a1) - 1)) : Int).toNat)) else (none)) else (none)) else (none))) else (none)) else (none)) else (if 0 ≤ (rd t276 (wrap64 (a1 - 1))) then (if (rd t276 (wrap64 (a1 - 1))) ≤ (wrap64 ((rd t276 a1) - 1)) then (if (wrap64 ((rd t276 a1) - 1)) ≤ (a0.size : Int) then (some (a0.extract ((rd t276 (wrap64 (a1 - 1))) : Int).toNat ((wrap64 ((rd t276 a1) - 1)) : Int).toNat)) else (none)) else (none)) else (none))) else (none)) else (none)) else (none)) else (if 0 ≤ (wrap64 (a1 - 1)) then (if (wrap64 (a1 - 1)) < (t276.length : Int) then (if 0 ≤ (rd t276 (wrap64 (a1 - 1))) then (if (rd t276 (wrap64 (a1 - 1))) ≤ (a0.size : Int) then (if (a0.size : Int) ≤ (a0.size : Int) then (some (a0.extract ((rd t276 (wrap64 (a1 - 1))) : Int).toNat ((a0.size : Int) : Int).toNat)) else (none)) else (none)) else (none)) else (none)) else (none))) = some r := by rw [if_neg (show ¬ (false = true) by decide)] at H; exact H
        clear H
        have H := H1
        clear H1
        by_cases c9 : a1 < (t276.length : Int)
        · rw [if_pos c9] at H
          have c9b0 : decide (a1 < (t276.length : Int)) = true := decide_eq_true c9
          clear c9
          by_cases c10 : 0 ≤ a1
          · rw [if_pos c10] at H
            have c10b0 : decide (0 ≤ a1) = true := decide_eq_true c10
            clear c10
            obtain ⟨ji11, hji11⟩ : ∃ j_ : Int, (wrap64 (a1 - 1)) = j_ := ⟨_, rfl⟩
            replace H : (if 0 ≤ (ji11) then (if (ji11) < (t276.length : Int) then (if (wrap64 ((rd t276 a1) - 1)) > (rd t276 (ji11)) then (if 0 ≤ (wrap64 ((wrap64 ((rd t276 a1) - 1)) - 1)) then (if (wrap64 ((wrap64 ((rd t276 a1) - 1)) - 1)) < (a0.size : Int) then (if (bt a0 (wrap64 ((wrap64 ((rd t276 a1) - 1)) - 1))) = 13 then (if 0 ≤ (rd t276 (ji11)) then (if (rd t276 (ji11)) ≤ (wrap64 ((wrap64 ((rd t276 a1) - 1)) - 1)) then (if (wrap64 ((wrap64 ((rd t276 a1) - 1)) - 1)) ≤ (a0.size : Int) then (some (a0.extract ((rd t276 (ji11)) : Int).toNat ((wrap64 ((wrap64 ((rd t276 a1) - 1)) - 1)) : Int).toNat)) else (none)) else (none)) else (none)) else (if 0 ≤ (rd t276 (ji11)) then (if (rd t276 (ji11)) ≤ (wrap64 ((rd t276 a1) - 1)) then (if (wrap64 ((rd t276 a1) - 1)) ≤ (a0.size : Int) then (some (a0.extract ((rd t276 (ji11)) : Int).toNat ((wrap64 ((rd t276 a1) - 1)) : Int).toNat)) else (none)) else (none)) else (none))) else (none)) else (none)) else (if 0 ≤ (rd t276 (ji11)) then (if (rd t276 (ji11)) ≤ (wrap64 ((rd t276 a1) - 1)) then (if (wrap64 ((rd t276 a1) - 1)) ≤ (a0.size : Int) then (some (a0.extract ((rd t276 (ji11)) : Int).toNat ((wrap64 ((rd t276 a1) - 1)) : Int).toNat)) else (none)) else (none)) else (none))) else (none)) else (none)) = some r := by first | (rw [hji11] at H; exact H) | (simp only [hji11] at H ⊢; exact H)
            have hji11w : (IntKind.i64.wrap (a1 - 1)) = ji11 := (i64_w _).trans hji11
            by_cases c12 : 0 ≤ (ji11)
            · rw [if_pos c12] at H
              have c12b0 : decide (0 ≤ (ji11)) = true := decide_eq_true c12
              clear c12
              by_cases c13 : (ji11) < (t276.length : Int)
              · rw [if_pos c13] at H
                have c13b0 : decide ((ji11) < (t276.length : Int)) = true := decide_eq_true c13
                clear c13
                by_cases c14 : (wrap64 ((rd t276 a1) - 1)) > (rd t276 (ji11))
                · rw [if_pos c14] at H
                  have c14b0 : decide ((rd t276 (ji11)) < (wrap64 ((rd t276 a1) - 1))) = true := decide_eq_true c14
                  clear c14
                  obtain ⟨ji15, hji15⟩ : ∃ j_ : Int, (wrap64 ((wrap64 ((rd t276 a1) - 1)) - 1)) = j_ := ⟨_, rfl⟩
                  replace H : (if 0 ≤ (ji15) then (if (ji15) < (a0.size : Int) then (if (bt a0 (ji15)) = 13 then (if 0 ≤ (rd t276 (ji11)) then (if (rd t276 (ji11)) ≤ (ji15) then (if (ji15) ≤ (a0.size : Int) then (some (a0.extract ((rd t276 (ji11)) : Int).toNat ((ji15) : Int).toNat)) else (none)) else (none)) else (none)) else (if 0 ≤ (rd t276 (ji11)) then (if (rd t276 (ji11)) ≤ (wrap64 ((rd t276 a1) - 1)) then (if (wrap64 ((rd t276 a1) - 1)) ≤ (a0.size : Int) then (some (a0.extract ((rd t276 (ji11)) : Int).toNat ((wrap64 ((rd t276 a1) - 1)) : Int).toNat)) else (none)) else (none)) else (none))) else (none)) else (none)) = some r := by first | (rw [hji15] at H; exact H) | (simp only [hji15] at H ⊢; exact H)
                  have hji15w : (IntKind.i64.wrap ((wrap64 ((rd t276 a1) - 1)) - 1)) = ji15 := (i64_w _).trans hji15
                  by_cases c16 : 0 ≤ (ji15)
                  · rw [if_pos c16] at H
                    have c16b0 : decide (0 ≤ (ji15)) = true := decide_eq_true c16
                    clear c16
                    by_cases c17 : (ji15) < (a0.size : Int)
                    · rw [if_pos c17] at H
                      have c17b0 : decide ((ji15) < (a0.size : Int)) = true := decide_eq_true c17
                      clear c17
                      by_cases c19 : (bt a0 (ji15)) = 13
                      · rw [if_pos c19] at H
                        have c19b0 : ((bt a0 (ji15)) == 13) = true := beq_iff_eq.mpr c19
                        have c19b1 : ((bt a0 (ji15)) != 13) = false := bne_eq_false_iff_eq.mpr c19
                        clear c19
                        by_cases c20 : 0 ≤ (rd t276 (ji11))
                        · rw [if_pos c20] at H
                          have c20b0 := eq_true c20
                          have c20b1 : decide (0 ≤ (rd t276 (ji11))) = true := decide_eq_true c20
                          clear c20
                          by_cases c21 : (rd t276 (ji11)) ≤ (ji15)
                          · rw [if_pos c21] at H
                            have c21b0 := eq_true c21
                            have c21b1 : decide ((rd t276 (ji11)) ≤ (ji15)) = true := decide_eq_true c21
                            clear c21
                            by_cases c22 : (ji15) ≤ (a0.size : Int)
                            · rw [if_pos c22] at H
                              have c22b0 := eq_true c22
                              have c22b1 : decide ((ji15) ≤ (a0.size : Int)) = true := decide_eq_true c22
                              clear c22
                              obtain rfl := Option.some.inj H
                              obtain ⟨Ao23, co23, eo23⟩ := Kd.R_slice HO_5.out
                              subst eo23
                              have p279 : 0 ≤ (a1 : Int) := of_decide_eq_true (by first | (with_reducible assumption) | assumption)
                              have q279 : a1 < (t276.length : Int) := of_decide_eq_true (by first | (with_reducible assumption) | assumption)
                              obtain ⟨ad279, e279, hx279_0⟩ := Kd.at_int (Kd.R_reads' HO_5.out).2.2 a1 p279 q279
                              cases e279
                              replace p279 := eq_true p279
                              replace q279 := eq_true q279
                              have p280 : 0 ≤ ((ji11) : Int) := of_decide_eq_true (by first | (with_reducible assumption) | assumption)
                              have q280 : (ji11) < (t276.length : Int) := of_decide_eq_true (by first | (with_reducible assumption) | assumption)
                              obtain ⟨ad280, e280, hx280_0⟩ := Kd.at_int (Kd.R_reads' HO_5.out).2.2 (ji11) p280 q280
                              obtain rfl : ad279 = ad280 := (by injection e280)
                              replace p280 := eq_true p280
                              replace q280 := eq_true q280
                              have p18 : 0 ≤ ((ji15) : Int) := of_decide_eq_true (by first | (with_reducible assumption) | assumption)
                              have q18 : (ji15) < (a0.size : Int) := of_decide_eq_true (by first | (with_reducible assumption) | assumption)
                              have hx18 := bt_at a0 (ji15)
                              replace p18 := eq_true p18
                              replace q18 := eq_true q18
                              have p281 : 0 ≤ ((ji11) : Int) := of_decide_eq_true (by first | (with_reducible assumption) | assumption)
                              have q281 : (ji11) < (t276.length : Int) := of_decide_eq_true (by first | (with_reducible assumption) | assumption)
                              obtain ⟨ad281, e281, hx281_0⟩ := Kd.at_int (Kd.R_reads' HO_5.out).2.2 (ji11) p281 q281
                              obtain rfl : ad279 = ad281 := (by injection e281)
                              replace p281 := eq_true p281
                              replace q281 := eq_true q281
                              go_wp2
                              go_ret
                              exact ⟨by first | rfl | (simp [errW_none, errW_some] <;> rfl) | (simp only [← hji11, ← hji15]; first | rfl | (simp [errW_none, errW_some] <;> rfl)) | (simp [*, errW_none, errW_some] <;> rfl), by repeat (first | (with_reducible first | exact HB.out | apply below_alloc | apply pw_below_drewN | apply below_drew1) | exact HB.out)⟩
                            · rw [if_neg c22] at H
                              exact absurd H (by simp)
                          · rw [if_neg c21] at H
                            exact absurd H (by simp)
                        · rw [if_neg c20] at H
                          exact absurd H (by simp)
                      · rw [if_neg c19] at H
                        have c19b0 : ((bt a0 (ji15)) == 13) = false := beq_eq_false_iff_ne.mpr c19
                        have c19b1 : ((bt a0 (ji15)) != 13) = true := bne_iff_ne.mpr c19
                        by_cases c24 : 0 ≤ (rd t276 (ji11))
                        · rw [if_pos c24] at H
                          have c24b0 := eq_true c24
                          have c24b1 : decide (0 ≤ (rd t276 (ji11))) = true := decide_eq_true c24
                          clear c24
                          by_cases c25 : (rd t276 (ji11)) ≤ (wrap64 ((rd t276 a1) - 1))
                          · rw [if_pos c25] at H
                            have c25b0 := eq_true c25
                            have c25b1 : decide ((rd t276 (ji11)) ≤ (wrap64 ((rd t276 a1) - 1))) = true := decide_eq_true c25
                            clear c25
                            by_cases c26 : (wrap64 ((rd t276 a1) - 1)) ≤ (a0.size : Int)
                            · rw [if_pos c26] at H
                              have c26b0 := eq_true c26
                              have c26b1 : decide ((wrap64 ((rd t276 a1) - 1)) ≤ (a0.size : Int)) = true := decide_eq_true c26
                              clear c26
                              obtain rfl := Option.some.inj H
                              obtain ⟨Ao27, co27, eo27⟩ := Kd.R_slice HO_5.out
                              subst eo27
                              have p279 : 0 ≤ (a1 : Int) := of_decide_eq_true (by first | (with_reducible assumption) | assumption)
                              have q279 : a1 < (t276.length : Int) := of_decide_eq_true (by first | (with_reducible assumption) | assumption)
                              obtain ⟨ad279, e279, hx279_0⟩ := Kd.at_int (Kd.R_reads' HO_5.out).2.2 a1 p279 q279
                              cases e279
                              replace p279 := eq_true p279
                              replace q279 := eq_true q279
                              have p280 : 0 ≤ ((ji11) : Int) := of_decide_eq_true (by first | (with_reducible assumption) | assumption)
                              have q280 : (ji11) < (t276.length : Int) := of_decide_eq_true (by first | (with_reducible assumption) | assumption)
                              obtain ⟨ad280, e280, hx280_0⟩ := Kd.at_int (Kd.R_reads' HO_5.out).2.2 (ji11) p280 q280
                              obtain rfl : ad279 = ad280 := (by injection e280)
                              replace p280 := eq_true p280
                              replace q280 := eq_true q280
                              have p18 : 0 ≤ ((ji15) : Int) := of_decide_eq_true (by first | (with_reducible assumption) | assumption)
                              have q18 : (ji15) < (a0.size : Int) := of_decide_eq_true (by first | (with_reducible assumption) | assumption)
                              have hx18 := bt_at a0 (ji15)
                              replace p18 := eq_true p18
                              replace q18 := eq_true q18
                              have p282 : 0 ≤ ((ji11) : Int) := of_decide_eq_true (by first | (with_reducible assumption) | assumption)
                              have q282 : (ji11) < (t276.length : Int) := of_decide_eq_true (by first | (with_reducible assumption) | assumption)
                              obtain ⟨ad282, e282, hx282_0⟩ := Kd.at_int (Kd.R_reads' HO_5.out).2.2 (ji11) p282 q282
                              obtain rfl : ad279 = ad282 := (by injection e282)
                              replace p282 := eq_true p282
                              replace q282 := eq_true q282
                              go_wp2
                              go_ret
                              exact ⟨by first | rfl | (simp [errW_none, errW_some] <;> rfl) | (simp only [← hji11, ← hji15]; first | rfl | (simp [errW_none, errW_some] <;> rfl)) | (simp [*, errW_none, errW_some] <;> rfl), by repeat (first | (with_reducible first | exact HB.out | apply below_alloc | apply pw_below_drewN | apply below_drew1) | exact HB.out)⟩
                            · rw [if_neg c26] at H
                              exact absurd H (by simp)
                          · rw [if_neg c25] at H
                            exact absurd H (by simp)
                        · rw [if_neg c24] at H
                          exact absurd H (by simp)
                    · rw [if_neg c17] at H
                      exact absurd H (by simp)
                  · rw [if_neg c16] at H
                    exact absurd H (by simp)
                · rw [if_neg c14] at H
                  have c14b0 : decide ((rd t276 (ji11)) < (wrap64 ((rd t276 a1) - 1))) = false := decide_eq_false c14
                  clear c14
                  by_cases c28 : 0 ≤ (rd t276 (ji11))
                  · rw [if_pos c28] at H
                    have c28b0 := eq_true c28
                    have c28b1 : decide (0 ≤ (rd t276 (ji11))) = true := decide_eq_true c28
                    clear c28
                    by_cases c29 : (rd t276 (ji11)) ≤ (wrap64 ((rd t276 a1) - 1))
                    · rw [if_pos c29] at H
                      have c29b0 := eq_true c29
                      have c29b1 : decide ((rd t276 (ji11)) ≤ (wrap64 ((rd t276 a1) - 1))) = true := decide_eq_true c29
                      clear c29
                      by_cases c30 : (wrap64 ((rd t276 a1) - 1)) ≤ (a0.size : Int)
                      · rw [if_pos c30] at H
                        have c30b0 := eq_true c30
                        have c30b1 : decide ((wrap64 ((rd t276 a1) - 1)) ≤ (a0.size : Int)) = true := decide_eq_true c30
                        clear c30
                        obtain rfl := Option.some.inj H
                        obtain ⟨Ao31, co31, eo31⟩ := Kd.R_slice HO_5.out
                        subst eo31
                        have p279 : 0 ≤ (a1 : Int) := of_decide_eq_true (by first | (with_reducible assumption) | assumption)
                        have q279 : a1 < (t276.length : Int) := of_decide_eq_true (by first | (with_reducible assumption) | assumption)
                        obtain ⟨ad279, e279, hx279_0⟩ := Kd.at_int (Kd.R_reads' HO_5.out).2.2 a1 p279 q279
                        cases e279
                        replace p279 := eq_true p279
                        replace q279 := eq_true q279
                        have p280 : 0 ≤ ((ji11) : Int) := of_decide_eq_true (by first | (with_reducible assumption) | assumption)
                        have q280 : (ji11) < (t276.length : Int) := of_decide_eq_true (by first | (with_reducible assumption) | assumption)
                        obtain ⟨ad280, e280, hx280_0⟩ := Kd.at_int (Kd.R_reads' HO_5.out).2.2 (ji11) p280 q280
                        obtain rfl : ad279 = ad280 := (by injection e280)
                        replace p280 := eq_true p280
                        replace q280 := eq_true q280
                        have p283 : 0 ≤ ((ji11) : Int) := of_decide_eq_true (by first | (with_reducible assumption) | assumption)
                        have q283 : (ji11) < (t276.length : Int) := of_decide_eq_true (by first | (with_reducible assumption) | assumption)
                        obtain ⟨ad283, e283, hx283_0⟩ := Kd.at_int (Kd.R_reads' HO_5.out).2.2 (ji11) p283 q283
                        obtain rfl : ad279 = ad283 := (by injection e283)
                        replace p283 := eq_true p283
                        replace q283 := eq_true q283
                        go_wp2
                        go_ret
                        exact ⟨by first | rfl | (simp [errW_none, errW_some] <;> rfl) | (simp only [← hji11]; first | rfl | (simp [errW_none, errW_some] <;> rfl)) | (simp [*, errW_none, errW_some] <;> rfl), by repeat (first | (with_reducible first | exact HB.out | apply below_alloc | apply pw_below_drewN | apply below_drew1) | exact HB.out)⟩
                      · rw [if_neg c30] at H
                        exact absurd H (by simp)
                    · rw [if_neg c29] at H
                      exact absurd H (by simp)
                  · rw [if_neg c28] at H
                    exact absurd H (by simp)
              · rw [if_neg c13] at H
                exact absurd H (by simp)
            · rw [if_neg c12] at H
              exact absurd H (by simp)
          · rw [if_neg c10] at H
            exact absurd H (by simp)
        · rw [if_neg c9] at H
          have c9b0 : decide (a1 < (t276.length : Int)) = false := decide_eq_false c9
          clear c9
          obtain ⟨ji32, hji32⟩ : ∃ j_ : Int, (wrap64 (a1 - 1)) = j_ := ⟨_, rfl⟩
          replace H : (if 0 ≤ (ji32) then (if (ji32) < (t276.length : Int) then (if 0 ≤ (rd t276 (ji32)) then (if (rd t276 (ji32)) ≤ (a0.size : Int) then (if (a0.size : Int) ≤ (a0.size : Int) then (some (a0.extract ((rd t276 (ji32)) : Int).toNat ((a0.size : Int) : Int).toNat)) else (none)) else (none)) else (none)) else (none)) else (none)) = some r := by first | (rw [hji32] at H; exact H) | (simp only [hji32] at H ⊢; exact H)
          have hji32w : (IntKind.i64.wrap (a1 - 1)) = ji32 := (i64_w _).trans hji32
          by_cases c33 : 0 ≤ (ji32)
          · rw [if_pos c33] at H
            have c33b0 : decide (0 ≤ (ji32)) = true := decide_eq_true c33
            clear c33
            by_cases c34 : (ji32) < (t276.length : Int)
            · rw [if_pos c34] at H
              have c34b0 : decide ((ji32) < (t276.length : Int)) = true := decide_eq_true c34
              clear c34
              by_cases c35 : 0 ≤ (rd t276 (ji32))
              · rw [if_pos c35] at H
                have c35b0 := eq_true c35
                have c35b1 : decide (0 ≤ (rd t276 (ji32))) = true := decide_eq_true c35
                clear c35
                by_cases c36 : (rd t276 (ji32)) ≤ (a0.size : Int)
                · rw [if_pos c36] at H
                  have c36b0 := eq_true c36
                  have c36b1 : decide ((rd t276 (ji32)) ≤ (a0.size : Int)) = true := decide_eq_true c36
                  clear c36
                  by_cases c37 : (a0.size : Int) ≤ (a0.size : Int)
                  · rw [if_pos c37] at H
                    have c37b0 := eq_true c37
                    have c37b1 : decide ((a0.size : Int) ≤ (a0.size : Int)) = true := decide_eq_true c37
                    clear c37
                    obtain rfl := Option.some.inj H
                    obtain ⟨Ao38, co38, eo38⟩ := Kd.R_slice HO_5.out
                    subst eo38
                    have p284 : 0 ≤ ((ji32) : Int) := of_decide_eq_true (by first | (with_reducible assumption) | assumption)
                    have q284 : (ji32) < (t276.length : Int) := of_decide_eq_true (by first | (with_reducible assumption) | assumption)
                    obtain ⟨ad284, e284, hx284_0⟩ := Kd.at_int (Kd.R_reads' HO_5.out).2.2 (ji32) p284 q284
                    cases e284
                    replace p284 := eq_true p284
                    replace q284 := eq_true q284
                    go_wp2
                    go_ret
                    exact ⟨by first | rfl | (simp [errW_none, errW_some] <;> rfl) | (simp only [← hji32]; first | rfl | (simp [errW_none, errW_some] <;> rfl)) | (simp [*, errW_none, errW_some] <;> rfl), by repeat (first | (with_reducible first | exact HB.out | apply below_alloc | apply pw_below_drewN | apply below_drew1) | exact HB.out)⟩
                  · rw [if_neg c37] at H
                    exact absurd H (by simp)
                · rw [if_neg c36] at H
                  exact absurd H (by simp)
              · rw [if_neg c35] at H
                exact absurd H (by simp)
            · rw [if_neg c34] at H
              exact absurd H (by simp)
          · rw [if_neg c33] at H
            exact absurd H (by simp)

end Go.Proofs.Ytggcbcleocamlaa.P
