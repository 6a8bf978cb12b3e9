-- Written by a program of this session (jprint.py over the kit's print), for this claim. Lean checks it.
import Derived.Test.YtggcbcleocamlaaPx0
import Derived.Test.YtggcbcleocamlaaPx11
namespace Go.Proofs.Ytggcbcleocamlaa.P
open Go.RowKit Go.Proofs.YtggcbcleocamlaaW.PrintWords Go.Proofs.YtggcbcleocamlaaW.PrintLast Go.Proofs.YtggcbcleocamlaaW.PrintMore
attribute [local go_sem] max2_int min2_int max_two min_two max_three min_three max_four min_four   -- for this text's walks alone
set_option linter.unusedVariables false
set_option linter.unusedSimpArgs false

/-! ### assessorref01_Apply: function 15 -/
def assessorref01_Apply.l0 : Nat → List (S24) → ByteArray → Int → Option (ByteArray × Int)
  | 0, _, _, _ => none
  | k + 1, x1, x7, x8 => if x8 ≥ 0 then (if 0 ≤ x8 then (if x8 < (x1.length : Int) then (if 0 ≤ ((rd_T24 x1 x8).f0) then (if ((rd_T24 x1 x8).f0) ≤ (x7.size : Int) then (if (x7.extract 0 (((rd_T24 x1 x8).f0) : Int).toNat).size + ((rd_T24 x1 x8).f2).size ≤ 9223372036854775807 then (if 0 ≤ ((rd_T24 x1 x8).f1) then (if ((rd_T24 x1 x8).f1) ≤ (x7.size : Int) then (if ((x7.extract 0 (((rd_T24 x1 x8).f0) : Int).toNat) ++ ((rd_T24 x1 x8).f2)).size + (x7.extract (((rd_T24 x1 x8).f1) : Int).toNat x7.size).size ≤ 9223372036854775807 then (assessorref01_Apply.l0 k x1 (((x7.extract 0 (((rd_T24 x1 x8).f0) : Int).toNat) ++ ((rd_T24 x1 x8).f2)) ++ (x7.extract (((rd_T24 x1 x8).f1) : Int).toNat x7.size)) (wrap64 (x8 - 1))) else (none)) else (none)) else (none)) else (none)) else (none)) else (none)) else (none)) else (none)) else (if (x7.size : Int) > 16384 then (some ((⟨#[]⟩ : ByteArray), 8)) else (some (x7, 0)))
def assessorref01_Apply.f (k : Nat) (a0 : ByteArray) (l1 : List (S24)) : Option (ByteArray × Int) := (assessorref01_Fits.f k a0 l1).bind fun t167 => (if t167 = 0 then (assessorref01_Apply.l0 k l1 a0 (wrap64 ((l1.length : Int) - 1))) else (some ((⟨#[]⟩ : ByteArray), t167)))
theorem assessorref01_Apply.mono_l : ∀ k, (∀ y0 y1 y2, LeO (assessorref01_Apply.l0 k y0 y1 y2) (assessorref01_Apply.l0 (k + 1) y0 y1 y2))
  | 0 => fun _ _ _ r h => by simp [assessorref01_Apply.l0] at h
  | k + 1 => by
    have ih0 := assessorref01_Apply.mono_l k
    · intro y0 y1 y2
      unfold assessorref01_Apply.l0
      repeat' first
      | (with_reducible exact ih0 _ _ _)
      | (with_reducible exact assessorref01_Fits.mono _ _ _)
      | (with_reducible exact LeO.refl _)
      | (with_reducible exact LeO.none _)
      | (with_reducible refine LeO.ite ?_ ?_)
      | (with_reducible refine LeO.bind ?_ (fun _ => ?_))
      | exact ih0 _ _ _
      | exact assessorref01_Fits.mono _ _ _
      | exact LeO.none _
      | refine LeO.ite ?_ ?_
      | refine LeO.bind ?_ (fun _ => ?_)
theorem assessorref01_Apply.mono : ∀ a0 a1 k, LeO (assessorref01_Apply.f k a0 a1) (assessorref01_Apply.f (k + 1) a0 a1) := by
  intro a0 a1 k
  have ih0 := assessorref01_Apply.mono_l k
  unfold assessorref01_Apply.f
  repeat' first
      | (with_reducible exact ih0 _ _ _)
      | (with_reducible exact assessorref01_Fits.mono _ _ _)
      | (with_reducible exact LeO.refl _)
      | (with_reducible exact LeO.none _)
      | (with_reducible refine LeO.ite ?_ ?_)
      | (with_reducible refine LeO.bind ?_ (fun _ => ?_))
      | exact ih0 _ _ _
      | exact assessorref01_Fits.mono _ _ _
      | exact LeO.none _
      | refine LeO.ite ?_ ?_
      | refine LeO.bind ?_ (fun _ => ?_)
set_option maxHeartbeats 8000000 in
set_option maxRecDepth 100000 in
theorem assessorref01_Apply.calls (k : Nat) (a0 : ByteArray) (A1 : Option Addr) (c1 : Nat) (l1 : List (S24)) (r1 : ByteArray) (r2 : Int) (w : World) (hr1 : Kd.C k24 w A1 l1.length l1) (hc1 : l1.length ≤ c1) (h : assessorref01_Apply.f k a0 l1 = some (r1, r2)) :
    Calls Try.prog 15 #[.string a0, .slice A1 l1.length c1] w fun e w' => e = .returned (.tuple #[.string r1, .int .i64 r2]) ∧ Drawn0 w w' := by
  have HR1 := Aside0.mk hr1
  have HC1 := Aside0.mk hc1
  clear hr1 hc1
  have H : ((assessorref01_Fits.f k a0 l1).bind fun t167 => (if t167 = 0 then (assessorref01_Apply.l0 k l1 a0 (wrap64 ((l1.length : Int) - 1))) else (some ((⟨#[]⟩ : ByteArray), t167)))) = some (r1, r2) := h
  clear h
  replace H := Option.bind_eq_some_iff.mp H
  obtain ⟨t167, A30, H⟩ := H
  replace H : (if t167 = 0 then (assessorref01_Apply.l0 k l1 a0 (wrap64 ((l1.length : Int) - 1))) else (some ((⟨#[]⟩ : ByteArray), t167))) = some (r1, r2) := H
  have A3 := Aside0.mk A30
  clear A30
  by_cases c4 : t167 = 0
  · rw [if_pos c4] at H
    have c4b0 : (t167 == 0) = true := beq_iff_eq.mpr c4
    have c4b1 : (t167 != 0) = false := bne_eq_false_iff_eq.mpr c4
    clear c4
    have H' := Aside0.mk H
    clear H
    go_enter Try.func15, Try.ntmps15
    go_wp2_with (first | (go_at_call 35; (with_reducible refine (assessorref01_Fits.calls k a0 _ _ l1 t167 _ ?side1 ?side2 A3.out).mono ?_); (case side1 => repeat (first | exact HR1.out | (with_reducible refine Kd.C_alloc ?_ _) | (with_reducible refine Kd.C_drewN ?_ _) | (with_reducible refine Kd.C_drew ?_))); (case side2 => exact HC1.out); rintro e w' ⟨rfl, ⟨nd, rfl⟩⟩; (try first | exact ⟨rfl, _, World.drewN_drewN _ _ _⟩ | exact ⟨rfl, _, Eq.trans (World.drewN_drewN _ _ _) (congrArg (World.drewN _) (Nat.add_assoc _ _ _))⟩)))
    repeat (go_quiet (first | (go_at_call 35; (with_reducible refine (assessorref01_Fits.calls k a0 _ _ l1 t167 _ ?side1 ?side2 A3.out).mono ?_); (case side1 => repeat (first | exact HR1.out | (with_reducible refine Kd.C_alloc ?_ _) | (with_reducible refine Kd.C_drewN ?_ _) | (with_reducible refine Kd.C_drew ?_))); (case side2 => exact HC1.out); rintro e w' ⟨rfl, ⟨nd, rfl⟩⟩; (try first | exact ⟨rfl, _, World.drewN_drewN _ _ _⟩ | exact ⟨rfl, _, Eq.trans (World.drewN_drewN _ _ _) (congrArg (World.drewN _) (Nat.add_assoc _ _ _))⟩))); try go_wp2_with (first | (go_at_call 35; (with_reducible refine (assessorref01_Fits.calls k a0 _ _ l1 t167 _ ?side1 ?side2 A3.out).mono ?_); (case side1 => repeat (first | exact HR1.out | (with_reducible refine Kd.C_alloc ?_ _) | (with_reducible refine Kd.C_drewN ?_ _) | (with_reducible refine Kd.C_drew ?_))); (case side2 => exact HC1.out); rintro e w' ⟨rfl, ⟨nd, rfl⟩⟩; (try first | exact ⟨rfl, _, World.drewN_drewN _ _ _⟩ | exact ⟨rfl, _, Eq.trans (World.drewN_drewN _ _ _) (congrArg (World.drewN _) (Nat.add_assoc _ _ _))⟩))))
    go_loopg [7, 8] k (fun kq v7 v8 w' => ∃ (x7_1 : ByteArray) (x8_1 : Int), v7 = .string x7_1 ∧ v8 = .int .i64 x8_1 ∧ Aside0 (assessorref01_Apply.l0 kq l1 x7_1 x8_1 = some (r1, r2)) ∧ Aside0 (kq ≤ k) ∧ Drawn0 w w')
    case atStart => exact ⟨(a0), (wrap64 ((l1.length : Int) - 1)), (by first | rfl | (simp; done) | (simp [*]; done)), (by first | rfl | (simp; done) | (simp [*]; done)), H', ⟨Nat.le_refl _⟩, by repeat (first | exact Drawn0.refl _ | apply Drawn0.step)⟩
    case round =>
      clear H'
      try clear c1
      try clear p2
      try clear c4
      try clear c4b0
      try clear c4b1
      obtain ⟨x7_1, x8_1, rfl, rfl, HA, HK1, ⟨m1, rfl⟩⟩ := hrel
      cases gk with
      | zero => exact absurd HA.out (by simp [assessorref01_Apply.l0])
      | succ k1 =>
        have H := HA.out
        clear HA
        simp only [assessorref01_Apply.l0] at H
        by_cases c5 : x8_1 ≥ 0
        · rw [if_pos c5] at H
          have c5b0 : decide (0 ≤ x8_1) = true := decide_eq_true c5
          clear c5
          by_cases c6 : 0 ≤ x8_1
          · rw [if_pos c6] at H
            have c6b0 : decide (0 ≤ x8_1) = true := decide_eq_true c6
            clear c6
            by_cases c7 : x8_1 < (l1.length : Int)
            · rw [if_pos c7] at H
              have c7b0 : decide (x8_1 < (l1.length : Int)) = true := decide_eq_true c7
              clear c7
              by_cases c8 : 0 ≤ ((rd_T24 l1 x8_1).f0)
              · rw [if_pos c8] at H
                have c8b0 := eq_true c8
                have c8b1 : decide (0 ≤ ((rd_T24 l1 x8_1).f0)) = true := decide_eq_true c8
                clear c8
                by_cases c9 : ((rd_T24 l1 x8_1).f0) ≤ (x7_1.size : Int)
                · rw [if_pos c9] at H
                  have c9b0 := eq_true c9
                  have c9b1 : decide (((rd_T24 l1 x8_1).f0) ≤ (x7_1.size : Int)) = true := decide_eq_true c9
                  clear c9
                  by_cases c10 : (x7_1.extract 0 (((rd_T24 l1 x8_1).f0) : Int).toNat).size + ((rd_T24 l1 x8_1).f2).size ≤ 9223372036854775807
                  · rw [if_pos c10] at H
                    have c10b0 := eq_true c10
                    have c10b1 : decide ((x7_1.extract 0 (((rd_T24 l1 x8_1).f0) : Int).toNat).size + ((rd_T24 l1 x8_1).f2).size ≤ 9223372036854775807) = true := decide_eq_true c10
                    try have c10b2 : (9223372036854775807 < (x7_1.extract 0 (((rd_T24 l1 x8_1).f0) : Int).toNat).size + ((rd_T24 l1 x8_1).f2).size) = False := eq_false (Nat.not_lt.2 c10)
                    by_cases c11 : 0 ≤ ((rd_T24 l1 x8_1).f1)
                    · rw [if_pos c11] at H
                      have c11b0 := eq_true c11
                      have c11b1 : decide (0 ≤ ((rd_T24 l1 x8_1).f1)) = true := decide_eq_true c11
                      clear c11
                      by_cases c12 : ((rd_T24 l1 x8_1).f1) ≤ (x7_1.size : Int)
                      · rw [if_pos c12] at H
                        have c12b0 := eq_true c12
                        have c12b1 : decide (((rd_T24 l1 x8_1).f1) ≤ (x7_1.size : Int)) = true := decide_eq_true c12
                        clear c12
                        by_cases c13 : ((x7_1.extract 0 (((rd_T24 l1 x8_1).f0) : Int).toNat) ++ ((rd_T24 l1 x8_1).f2)).size + (x7_1.extract (((rd_T24 l1 x8_1).f1) : Int).toNat x7_1.size).size ≤ 9223372036854775807
                        · rw [if_pos c13] at H
                          have c13b0 := eq_true c13
                          have c13b1 : decide (((x7_1.extract 0 (((rd_T24 l1 x8_1).f0) : Int).toNat) ++ ((rd_T24 l1 x8_1).f2)).size + (x7_1.extract (((rd_T24 l1 x8_1).f1) : Int).toNat x7_1.size).size ≤ 9223372036854775807) = true := decide_eq_true c13
                          try have c13b2 : (9223372036854775807 < ((x7_1.extract 0 (((rd_T24 l1 x8_1).f0) : Int).toNat) ++ ((rd_T24 l1 x8_1).f2)).size + (x7_1.extract (((rd_T24 l1 x8_1).f1) : Int).toNat x7_1.size).size) = False := eq_false (Nat.not_lt.2 c13)
                          have H' := Aside0.mk H
                          clear H
                          have p168 : 0 ≤ (x8_1 : Int) := of_decide_eq_true (by first | (with_reducible assumption) | assumption)
                          have q168 : x8_1 < (l1.length : Int) := of_decide_eq_true (by first | (with_reducible assumption) | assumption)
                          obtain ⟨ad168, e168, hx168_0, hx168_1, hx168_2⟩ := at_T24 HR1.out x8_1 p168 q168
                          cases e168
                          replace p168 := eq_true p168
                          replace q168 := eq_true q168
                          have p169 : 0 ≤ (x8_1 : Int) := of_decide_eq_true (by first | (with_reducible assumption) | assumption)
                          have q169 : x8_1 < (l1.length : Int) := of_decide_eq_true (by first | (with_reducible assumption) | assumption)
                          obtain ⟨ad169, e169, hx169_0, hx169_1, hx169_2⟩ := at_T24 HR1.out x8_1 p169 q169
                          obtain rfl : ad168 = ad169 := (by injection e169)
                          replace p169 := eq_true p169
                          replace q169 := eq_true q169
                          have p170 : 0 ≤ (x8_1 : Int) := of_decide_eq_true (by first | (with_reducible assumption) | assumption)
                          have q170 : x8_1 < (l1.length : Int) := of_decide_eq_true (by first | (with_reducible assumption) | assumption)
                          obtain ⟨ad170, e170, hx170_0, hx170_1, hx170_2⟩ := at_T24 HR1.out x8_1 p170 q170
                          obtain rfl : ad168 = ad170 := (by injection e170)
                          replace p170 := eq_true p170
                          replace q170 := eq_true q170
                          go_wp2
                          repeat (go_quiet (fail); try go_wp2)
                          go_roundg k1
                          case measure => have := HK1.out; omega
                          case rel => exact ⟨(((x7_1.extract 0 (((rd_T24 l1 x8_1).f0) : Int).toNat) ++ ((rd_T24 l1 x8_1).f2)) ++ (x7_1.extract (((rd_T24 l1 x8_1).f1) : Int).toNat x7_1.size)), (wrap64 (x8_1 - 1)), (by first | rfl | (simp; done) | (simp [*]; done)), (by first | rfl | (simp; done) | (simp [*]; done)), H', ⟨by have := HK1.out; omega⟩, by repeat (first | exact Drawn0.refl _ | apply Drawn0.step)⟩
                        · rw [if_neg c13] at H
                          exact absurd H (by simp)
                      · rw [if_neg c12] at H
                        exact absurd H (by simp)
                    · rw [if_neg c11] at H
                      exact absurd H (by simp)
                  · rw [if_neg c10] at H
                    exact absurd H (by simp)
                · rw [if_neg c9] at H
                  exact absurd H (by simp)
              · rw [if_neg c8] at H
                exact absurd H (by simp)
            · rw [if_neg c7] at H
              exact absurd H (by simp)
          · rw [if_neg c6] at H
            exact absurd H (by simp)
        · rw [if_neg c5] at H
          have c5b0 : decide (0 ≤ x8_1) = false := decide_eq_false c5
          clear c5
          by_cases c14 : (x7_1.size : Int) > 16384
          · rw [if_pos c14] at H
            have c14b0 : decide (16384 < (x7_1.size : Int)) = true := decide_eq_true c14
            have c14b1 : decide (16384 < x7_1.size) = true := decide_eq_true (by omega)
            clear c14
            simp only [Option.some.injEq, Prod.mk.injEq] at H
            obtain ⟨rfl, rfl⟩ := H
            go_wp2
            repeat (go_quiet (fail); try go_wp2)
            go_ret2
            exact ⟨by first | rfl | (simp; done) | (simp [*]; done), by repeat (first | exact Drawn0.refl _ | apply Drawn0.step)⟩
          · rw [if_neg c14] at H
            have c14b0 : decide (16384 < (x7_1.size : Int)) = false := decide_eq_false c14
            have c14b1 : decide (16384 < x7_1.size) = false := decide_eq_false (by omega)
            clear c14
            simp only [Option.some.injEq, Prod.mk.injEq] at H
            obtain ⟨rfl, rfl⟩ := H
            go_wp2
            repeat (go_quiet (fail); try go_wp2)
            go_ret2
            exact ⟨by first | rfl | (simp; done) | (simp [*]; done), by repeat (first | exact Drawn0.refl _ | apply Drawn0.step)⟩
  · rw [if_neg c4] at H
    have c4b0 : (t167 == 0) = false := beq_eq_false_iff_ne.mpr c4
    have c4b1 : (t167 != 0) = true := bne_iff_ne.mpr c4
    simp only [Option.some.injEq, Prod.mk.injEq] at H
    obtain ⟨rfl, rfl⟩ := H
    go_enter Try.func15, Try.ntmps15
    go_wp2_with (first | (go_at_call 35; (with_reducible refine (assessorref01_Fits.calls k a0 _ _ l1 t167 _ ?side1 ?side2 A3.out).mono ?_); (case side1 => repeat (first | exact HR1.out | (with_reducible refine Kd.C_alloc ?_ _) | (with_reducible refine Kd.C_drewN ?_ _) | (with_reducible refine Kd.C_drew ?_))); (case side2 => exact HC1.out); rintro e w' ⟨rfl, ⟨nd, rfl⟩⟩; (try first | exact ⟨rfl, _, World.drewN_drewN _ _ _⟩ | exact ⟨rfl, _, Eq.trans (World.drewN_drewN _ _ _) (congrArg (World.drewN _) (Nat.add_assoc _ _ _))⟩)))
    repeat (go_quiet (first | (go_at_call 35; (with_reducible refine (assessorref01_Fits.calls k a0 _ _ l1 t167 _ ?side1 ?side2 A3.out).mono ?_); (case side1 => repeat (first | exact HR1.out | (with_reducible refine Kd.C_alloc ?_ _) | (with_reducible refine Kd.C_drewN ?_ _) | (with_reducible refine Kd.C_drew ?_))); (case side2 => exact HC1.out); rintro e w' ⟨rfl, ⟨nd, rfl⟩⟩; (try first | exact ⟨rfl, _, World.drewN_drewN _ _ _⟩ | exact ⟨rfl, _, Eq.trans (World.drewN_drewN _ _ _) (congrArg (World.drewN _) (Nat.add_assoc _ _ _))⟩))); try go_wp2_with (first | (go_at_call 35; (with_reducible refine (assessorref01_Fits.calls k a0 _ _ l1 t167 _ ?side1 ?side2 A3.out).mono ?_); (case side1 => repeat (first | exact HR1.out | (with_reducible refine Kd.C_alloc ?_ _) | (with_reducible refine Kd.C_drewN ?_ _) | (with_reducible refine Kd.C_drew ?_))); (case side2 => exact HC1.out); rintro e w' ⟨rfl, ⟨nd, rfl⟩⟩; (try first | exact ⟨rfl, _, World.drewN_drewN _ _ _⟩ | exact ⟨rfl, _, Eq.trans (World.drewN_drewN _ _ _) (congrArg (World.drewN _) (Nat.add_assoc _ _ _))⟩))))
    go_ret2
    exact ⟨by first | rfl | (simp; done) | (simp [*]; done), by repeat (first | exact Drawn0.refl _ | apply Drawn0.step)⟩

end Go.Proofs.Ytggcbcleocamlaa.P
