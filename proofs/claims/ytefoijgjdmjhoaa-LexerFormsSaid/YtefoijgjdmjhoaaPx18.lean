-- Written by a program of this session (jprint.py over the kit's print), for this claim. Lean checks it.
import Derived.Test.YtefoijgjdmjhoaaPx0
import Derived.Test.YtefoijgjdmjhoaaPx17
namespace Go.Proofs.Ytefoijgjdmjhoaa.P
open Go.RowKit Go.Proofs.YtefoijgjdmjhoaaW.PrintWords Go.Proofs.YtefoijgjdmjhoaaW.PrintLast Go.Proofs.YtefoijgjdmjhoaaW.PrintMore
attribute [local go_sem] max2_int min2_int max_two min_two max_three min_three max_four min_four   -- for this text's walks alone
set_option linter.unusedVariables false
set_option linter.unusedSimpArgs false

/-! ### assessorref02_Space: function 12 -/
def assessorref02_Space.j0 : Nat → ByteArray → ByteArray → Bool → Option (ByteArray)
  | 0, _, _, _ => none
  | k + 1, x0, x1, x14 => if x14 = true then (some (⟨#[32]⟩ : ByteArray)) else (if x0.size + x1.size ≤ 9223372036854775807 then ((assessorref02_Scan.f k (x0 ++ x1)).bind fun bt209 => (if bt209.2 = 0 then (if (bt209.1.length : Int) = 3 then (if 0 < (bt209.1.length : Int) then (if ((rd_T33 bt209.1 0).f2) = 0 then (if ((rd_T33 bt209.1 0).f3) = (x0.size : Int) then (if 1 < (bt209.1.length : Int) then (if ((rd_T33 bt209.1 1).f2) = (x0.size : Int) then (if ((rd_T33 bt209.1 1).f3) = ((x0 ++ x1).size : Int) then (some (⟨#[]⟩ : ByteArray)) else (some (⟨#[32]⟩ : ByteArray))) else (some (⟨#[32]⟩ : ByteArray))) else (none)) else (some (⟨#[32]⟩ : ByteArray))) else (some (⟨#[32]⟩ : ByteArray))) else (none)) else (some (⟨#[32]⟩ : ByteArray))) else (some (⟨#[32]⟩ : ByteArray)))) else (none))
def assessorref02_Space.f (k : Nat) (a0 : ByteArray) (a1 : ByteArray) : Option (ByteArray) := if (a0.size : Int) > 4096 then (assessorref02_Space.j0 k a0 a1 true) else (assessorref02_Space.j0 k a0 a1 (decide ((a1.size : Int) > 4096)))
theorem assessorref02_Space.mono_l : ∀ k, (∀ y0 y1 y2, LeO (assessorref02_Space.j0 k y0 y1 y2) (assessorref02_Space.j0 (k + 1) y0 y1 y2))
  | 0 => fun _ _ _ r h => by simp [assessorref02_Space.j0] at h
  | k + 1 => by
    have ih0 := assessorref02_Space.mono_l k
    · intro y0 y1 y2
      unfold assessorref02_Space.j0
      repeat' first
      | (with_reducible exact ih0 _ _ _)
      | (with_reducible exact assessorref02_Scan.mono _ _)
      | (with_reducible exact LeO.refl _)
      | (with_reducible exact LeO.none _)
      | (with_reducible refine LeO.ite ?_ ?_)
      | (with_reducible refine LeO.bind ?_ (fun _ => ?_))
      | exact ih0 _ _ _
      | exact assessorref02_Scan.mono _ _
      | exact LeO.none _
      | refine LeO.ite ?_ ?_
      | refine LeO.bind ?_ (fun _ => ?_)
theorem assessorref02_Space.mono : ∀ a0 a1 k, LeO (assessorref02_Space.f k a0 a1) (assessorref02_Space.f (k + 1) a0 a1) := by
  intro a0 a1 k
  have ih0 := assessorref02_Space.mono_l k
  unfold assessorref02_Space.f
  repeat' first
      | (with_reducible exact ih0 _ _ _)
      | (with_reducible exact assessorref02_Scan.mono _ _)
      | (with_reducible exact LeO.refl _)
      | (with_reducible exact LeO.none _)
      | (with_reducible refine LeO.ite ?_ ?_)
      | (with_reducible refine LeO.bind ?_ (fun _ => ?_))
      | exact ih0 _ _ _
      | exact assessorref02_Scan.mono _ _
      | exact LeO.none _
      | refine LeO.ite ?_ ?_
      | refine LeO.bind ?_ (fun _ => ?_)
set_option maxHeartbeats 8000000 in
set_option maxRecDepth 100000 in
theorem assessorref02_Space.calls (k : Nat) (a0 : ByteArray) (a1 : ByteArray) (r : ByteArray) (w : World) (h : assessorref02_Space.f k a0 a1 = some r) :
    Calls Try.prog 12 #[.string a0, .string a1] w fun e w' => e = .returned (.string r) ∧ Below w.heap.size w w' := by
  have HB := Aside0.mk (Below.refl w.heap.size w)
  have H : (if (a0.size : Int) > 4096 then (assessorref02_Space.j0 k a0 a1 true) else (assessorref02_Space.j0 k a0 a1 (decide ((a1.size : Int) > 4096)))) = some r := h
  clear h
  have HC3 := Aside0.mk H
  clear H
  go_enter Try.func12, Try.ntmps12
  go_upto_region 1 with (fail)
  go_cut [14] (fun v14 wc => ∃ (kq : Nat) (x14_2 : Bool), v14 = .bool x14_2 ∧ Aside0 (assessorref02_Space.j0 kq a0 a1 x14_2 = some r) ∧ Aside0 (kq ≤ k) ∧ Aside0 (Below w.heap.size w wc))
  case first =>
    have H := HC3.out
    clear HC3
    by_cases c4 : (a0.size : Int) > 4096
    · rw [if_pos c4] at H
      have c4b0 : decide (4096 < (a0.size : Int)) = true := decide_eq_true c4
      have c4b1 : decide (4096 < a0.size) = true := decide_eq_true (by omega)
      clear c4
      (first | rw [c4b0] | (simp only [i64_w, i32_w]; rw [c4b0]) | skip)
      have H' := Aside0.mk H
      clear H
      go_wp2
      go_meet
      case rel => exact ⟨_, (true), (by first | rfl | (simp; done) | (simp [*]; done)), H', ⟨by first | omega | exact Nat.le_refl _⟩, ⟨by repeat (first | (with_reducible first | exact HB.out | apply below_alloc | apply pw_below_drewN | apply below_drew1) | exact HB.out)⟩⟩
    · rw [if_neg c4] at H
      have c4b0 : decide (4096 < (a0.size : Int)) = false := decide_eq_false c4
      have c4b1 : decide (4096 < a0.size) = false := decide_eq_false (by omega)
      clear c4
      (first | rw [c4b0] | (simp only [i64_w, i32_w]; rw [c4b0]) | skip)
      have H' := Aside0.mk H
      clear H
      go_wp2
      go_meet
      case rel => exact ⟨_, (decide ((a1.size : Int) > 4096)), (by first | rfl | (simp; done) | (simp [*]; done)), H', ⟨by first | omega | exact Nat.le_refl _⟩, ⟨by repeat (first | (with_reducible first | exact HB.out | apply below_alloc | apply pw_below_drewN | apply below_drew1) | exact HB.out)⟩⟩
  case rest =>
    clear HC3
    try clear c1
    try clear p2
    try clear c4
    try clear c4b0
    try clear c4b1
    obtain ⟨kq, x14_2, rfl, HA, HJ2, HB⟩ := hcut
    cases kq with
    | zero => exact absurd HA.out (by simp [assessorref02_Space.j0])
    | succ kj2 =>
      have H := HA.out
      clear HA
      simp only [assessorref02_Space.j0] at H
      by_cases c5 : x14_2 = true
      · subst c5
        have H1 : (some (⟨#[32]⟩ : ByteArray)) = some r := by rw [if_pos rfl] at H; exact H
        clear H
        have H := H1
        clear H1
        obtain rfl := Option.some.inj H
        go_wp2
        go_ret
        exact ⟨by first | rfl | (simp [errW_none, errW_some] <;> rfl) | (simp [*, errW_none, errW_some] <;> rfl), by repeat (first | (with_reducible first | exact HB.out | apply below_alloc | apply pw_below_drewN | apply below_drew1) | exact HB.out)⟩
      · replace c5 := Bool.eq_false_iff.mpr c5
        subst c5
        have H1 : (if a0.size + a1.size ≤ 9223372036854775807 then ((assessorref02_Scan.f kj2 (a0 ++ a1)).bind fun bt209 => (if bt209.2 = 0 then (if (bt209.1.length : Int) = 3 then (if 0 < (bt209.1.length : Int) then (if ((rd_T33 bt209.1 0).f2) = 0 then (if ((rd_T33 bt209.1 0).f3) = (a0.size : Int) then (if 1 < (bt209.1.length : Int) then (if ((rd_T33 bt209.1 1).f2) = (a0.size : Int) then (if ((rd_T33 bt209.1 1).f3) = ((a0 ++ a1).size : Int) then (some (⟨#[]⟩ : ByteArray)) else (some (⟨#[32]⟩ : ByteArray))) else (some (⟨#[32]⟩ : ByteArray))) else (none)) else (some (⟨#[32]⟩ : ByteArray))) else (some (⟨#[32]⟩ : ByteArray))) else (none)) else (some (⟨#[32]⟩ : ByteArray))) else (some (⟨#[32]⟩ : ByteArray)))) else (none)) = some r := by rw [if_neg (show ¬ (false = true) by decide)] at H; exact H
        clear H
        have H := H1
        clear H1
        by_cases c6 : a0.size + a1.size ≤ 9223372036854775807
        · rw [if_pos c6] at H
          have c6b0 := eq_true c6
          have c6b1 : decide (a0.size + a1.size ≤ 9223372036854775807) = true := decide_eq_true c6
          try have c6b2 : (9223372036854775807 < a0.size + a1.size) = False := eq_false (Nat.not_lt.2 c6)
          replace H := Option.bind_eq_some_iff.mp H
          obtain ⟨⟨t209, t210⟩, A70, H⟩ := H
          replace H : (if t210 = 0 then (if (t209.length : Int) = 3 then (if 0 < (t209.length : Int) then (if ((rd_T33 t209 0).f2) = 0 then (if ((rd_T33 t209 0).f3) = (a0.size : Int) then (if 1 < (t209.length : Int) then (if ((rd_T33 t209 1).f2) = (a0.size : Int) then (if ((rd_T33 t209 1).f3) = ((a0 ++ a1).size : Int) then (some (⟨#[]⟩ : ByteArray)) else (some (⟨#[32]⟩ : ByteArray))) else (some (⟨#[32]⟩ : ByteArray))) else (none)) else (some (⟨#[32]⟩ : ByteArray))) else (some (⟨#[32]⟩ : ByteArray))) else (none)) else (some (⟨#[32]⟩ : ByteArray))) else (some (⟨#[32]⟩ : ByteArray))) = some r := H
          have A7 := Aside0.mk A70
          clear A70
          by_cases c8 : t210 = 0
          · rw [if_pos c8] at H
            have c8b0 : (t210 == 0) = true := beq_iff_eq.mpr c8
            have c8b1 : (t210 != 0) = false := bne_eq_false_iff_eq.mpr c8
            clear c8
            by_cases c9 : (t209.length : Int) = 3
            · rw [if_pos c9] at H
              have c9b0 : ((t209.length : Int) == 3) = true := beq_iff_eq.mpr c9
              have c9b1 : ((t209.length : Int) != 3) = false := bne_eq_false_iff_eq.mpr c9
              clear c9
              by_cases c10 : 0 < (t209.length : Int)
              · rw [if_pos c10] at H
                have c10b0 : decide (0 < (t209.length : Int)) = true := decide_eq_true c10
                have c10b1 : decide (0 < t209.length) = true := decide_eq_true (by omega)
                clear c10
                by_cases c11 : ((rd_T33 t209 0).f2) = 0
                · rw [if_pos c11] at H
                  have c11b0 : (((rd_T33 t209 0).f2) == 0) = true := beq_iff_eq.mpr c11
                  have c11b1 : (((rd_T33 t209 0).f2) != 0) = false := bne_eq_false_iff_eq.mpr c11
                  clear c11
                  by_cases c12 : ((rd_T33 t209 0).f3) = (a0.size : Int)
                  · rw [if_pos c12] at H
                    have c12b0 : (((rd_T33 t209 0).f3) == (a0.size : Int)) = true := beq_iff_eq.mpr c12
                    have c12b1 : (((rd_T33 t209 0).f3) != (a0.size : Int)) = false := bne_eq_false_iff_eq.mpr c12
                    clear c12
                    by_cases c13 : 1 < (t209.length : Int)
                    · rw [if_pos c13] at H
                      have c13b0 : decide (1 < (t209.length : Int)) = true := decide_eq_true c13
                      have c13b1 : decide (1 < t209.length) = true := decide_eq_true (by omega)
                      clear c13
                      by_cases c14 : ((rd_T33 t209 1).f2) = (a0.size : Int)
                      · rw [if_pos c14] at H
                        have c14b0 : (((rd_T33 t209 1).f2) == (a0.size : Int)) = true := beq_iff_eq.mpr c14
                        have c14b1 : (((rd_T33 t209 1).f2) != (a0.size : Int)) = false := bne_eq_false_iff_eq.mpr c14
                        clear c14
                        by_cases c15 : ((rd_T33 t209 1).f3) = ((a0 ++ a1).size : Int)
                        · rw [if_pos c15] at H
                          have c15b0 : (((rd_T33 t209 1).f3) == ((a0 ++ a1).size : Int)) = true := beq_iff_eq.mpr c15
                          have c15b0s : (((rd_T33 t209 1).f3) == ((a0.size : Int) + (a1.size : Int))) = true := by have h_ := c15b0; rwa [show ((a0 ++ a1).size : Int) = (a0.size : Int) + (a1.size : Int) from by simp [ByteArray.size_append]] at h_
                          have c15b1 : (((rd_T33 t209 1).f3) != ((a0 ++ a1).size : Int)) = false := bne_eq_false_iff_eq.mpr c15
                          have c15b1s : (((rd_T33 t209 1).f3) != ((a0.size : Int) + (a1.size : Int))) = false := by have h_ := c15b1; rwa [show ((a0 ++ a1).size : Int) = (a0.size : Int) + (a1.size : Int) from by simp [ByteArray.size_append]] at h_
                          clear c15
                          obtain rfl := Option.some.inj H
                          go_wp2_with (first | ((with_reducible refine gate_callee (f := 25) rfl ?_); refine goesL_ (some 19) rfl rfl Try.func25 (by kernel_rfl) rfl #[.string (a0 ++ a1)] rfl (by (try simp only [List.map_toArray, List.map_cons, List.map_nil]); first | done | rfl | (simp only [List.length_drop, List.length_take]; rfl)) ?_; (with_reducible refine (assessorref02_Scan.calls kj2 (a0 ++ a1) t209 t210 _ A7.out).mono ?_); rintro e w16 ⟨v211, rfl, ho0, hb⟩; refine ⟨_, rfl, ?_⟩; have n0_ := Aside0.mk (Kd.R_lower ho0 (below_size (by repeat (first | (with_reducible first | exact HB.out | apply below_alloc | apply pw_below_drewN | apply below_drew1) | exact HB.out)))); have n1_ := Aside0.mk (below_step (by repeat (first | (with_reducible first | exact HB.out | apply below_alloc | apply pw_below_drewN | apply below_drew1) | exact HB.out)) hb); clear HB; have HO212 := n0_; have HB := n1_; clear n0_ n1_; (try clear hb); (try clear hb2); (try clear hk); (try clear hi); (try clear ho0); obtain ⟨Ao17, co17, eo17⟩ := Kd.R_slice HO212.out; subst eo17; have p213 : 0 ≤ (0 : Int) := (by omega); have q213 : 0 < (t209.length : Int) := of_decide_eq_true (by first | (with_reducible assumption) | assumption); obtain ⟨ad213, e213, hx213_0, hx213_1, hx213_2, hx213_3⟩ := at_T33 (Kd.R_reads' HO212.out).2.2 0 p213 q213; cases e213; have qi213 : (0 < t209.length) = True := eq_true (by omega); (try rw [show ((0 : Int)).toNat = 0 from rfl] at hx213_0); (try rw [show 0 * 4 = 0 from rfl] at hx213_0); (try rw [Addr.add_zero'] at hx213_0); (try rw [show ((0 : Int)).toNat = 0 from rfl] at hx213_1); (try rw [show 0 * 4 = 0 from rfl] at hx213_1); (try rw [Addr.add_zero'] at hx213_1); (try rw [show ((0 : Int)).toNat = 0 from rfl] at hx213_2); (try rw [show 0 * 4 = 0 from rfl] at hx213_2); (try rw [Addr.add_zero'] at hx213_2); (try rw [show ((0 : Int)).toNat = 0 from rfl] at hx213_3); (try rw [show 0 * 4 = 0 from rfl] at hx213_3); (try rw [Addr.add_zero'] at hx213_3); replace p213 := eq_true p213; replace q213 := eq_true q213; have p214 : 0 ≤ (0 : Int) := (by omega); have q214 : 0 < (t209.length : Int) := of_decide_eq_true (by first | (with_reducible assumption) | assumption); obtain ⟨ad214, e214, hx214_0, hx214_1, hx214_2, hx214_3⟩ := at_T33 (Kd.R_reads' HO212.out).2.2 0 p214 q214; obtain rfl : ad213 = ad214 := (by injection e214); have qi214 : (0 < t209.length) = True := eq_true (by omega); (try rw [show ((0 : Int)).toNat = 0 from rfl] at hx214_0); (try rw [show 0 * 4 = 0 from rfl] at hx214_0); (try rw [Addr.add_zero'] at hx214_0); (try rw [show ((0 : Int)).toNat = 0 from rfl] at hx214_1); (try rw [show 0 * 4 = 0 from rfl] at hx214_1); (try rw [Addr.add_zero'] at hx214_1); (try rw [show ((0 : Int)).toNat = 0 from rfl] at hx214_2); (try rw [show 0 * 4 = 0 from rfl] at hx214_2); (try rw [Addr.add_zero'] at hx214_2); (try rw [show ((0 : Int)).toNat = 0 from rfl] at hx214_3); (try rw [show 0 * 4 = 0 from rfl] at hx214_3); (try rw [Addr.add_zero'] at hx214_3); replace p214 := eq_true p214; replace q214 := eq_true q214; have p215 : 0 ≤ (1 : Int) := (by omega); have q215 : 1 < (t209.length : Int) := of_decide_eq_true (by first | (with_reducible assumption) | assumption); obtain ⟨ad215, e215, hx215_0, hx215_1, hx215_2, hx215_3⟩ := at_T33 (Kd.R_reads' HO212.out).2.2 1 p215 q215; obtain rfl : ad213 = ad215 := (by injection e215); (try simp only [show (1 : Int).toNat = 1 from rfl, Nat.reduceMul, Nat.reduceEqDiff, Go.Addr.add, ↓reduceIte] at hx215_0); (try simp only [show (1 : Int).toNat = 1 from rfl, Nat.reduceMul, Nat.reduceEqDiff, Go.Addr.add, ↓reduceIte] at hx215_1); (try simp only [show (1 : Int).toNat = 1 from rfl, Nat.reduceMul, Nat.reduceEqDiff, Go.Addr.add, ↓reduceIte] at hx215_2); (try simp only [show (1 : Int).toNat = 1 from rfl, Nat.reduceMul, Nat.reduceEqDiff, Go.Addr.add, ↓reduceIte] at hx215_3); have qi215 : (1 < t209.length) = True := eq_true (by omega); (try rw [show ((1 : Int)).toNat = 1 from rfl] at hx215_0); (try rw [show 1 * 4 = 4 from rfl] at hx215_0); (try rw [show ((1 : Int)).toNat = 1 from rfl] at hx215_1); (try rw [show 1 * 4 = 4 from rfl] at hx215_1); (try rw [show ((1 : Int)).toNat = 1 from rfl] at hx215_2); (try rw [show 1 * 4 = 4 from rfl] at hx215_2); (try rw [show ((1 : Int)).toNat = 1 from rfl] at hx215_3); (try rw [show 1 * 4 = 4 from rfl] at hx215_3); replace p215 := eq_true p215; replace q215 := eq_true q215; have p216 : 0 ≤ (1 : Int) := (by omega); have q216 : 1 < (t209.length : Int) := of_decide_eq_true (by first | (with_reducible assumption) | assumption); obtain ⟨ad216, e216, hx216_0, hx216_1, hx216_2, hx216_3⟩ := at_T33 (Kd.R_reads' HO212.out).2.2 1 p216 q216; obtain rfl : ad213 = ad216 := (by injection e216); (try simp only [show (1 : Int).toNat = 1 from rfl, Nat.reduceMul, Nat.reduceEqDiff, Go.Addr.add, ↓reduceIte] at hx216_0); (try simp only [show (1 : Int).toNat = 1 from rfl, Nat.reduceMul, Nat.reduceEqDiff, Go.Addr.add, ↓reduceIte] at hx216_1); (try simp only [show (1 : Int).toNat = 1 from rfl, Nat.reduceMul, Nat.reduceEqDiff, Go.Addr.add, ↓reduceIte] at hx216_2); (try simp only [show (1 : Int).toNat = 1 from rfl, Nat.reduceMul, Nat.reduceEqDiff, Go.Addr.add, ↓reduceIte] at hx216_3); have qi216 : (1 < t209.length) = True := eq_true (by omega); (try rw [show ((1 : Int)).toNat = 1 from rfl] at hx216_0); (try rw [show 1 * 4 = 4 from rfl] at hx216_0); (try rw [show ((1 : Int)).toNat = 1 from rfl] at hx216_1); (try rw [show 1 * 4 = 4 from rfl] at hx216_1); (try rw [show ((1 : Int)).toNat = 1 from rfl] at hx216_2); (try rw [show 1 * 4 = 4 from rfl] at hx216_2); (try rw [show ((1 : Int)).toNat = 1 from rfl] at hx216_3); (try rw [show 1 * 4 = 4 from rfl] at hx216_3); replace p216 := eq_true p216; replace q216 := eq_true q216))
                          go_ret
                          exact ⟨by first | rfl | (simp [errW_none, errW_some] <;> rfl) | (simp [*, errW_none, errW_some] <;> rfl), by repeat (first | (with_reducible first | exact HB.out | apply below_alloc | apply pw_below_drewN | apply below_drew1) | exact HB.out)⟩
                        · rw [if_neg c15] at H
                          have c15b0 : (((rd_T33 t209 1).f3) == ((a0 ++ a1).size : Int)) = false := beq_eq_false_iff_ne.mpr c15
                          have c15b0s : (((rd_T33 t209 1).f3) == ((a0.size : Int) + (a1.size : Int))) = false := by have h_ := c15b0; rwa [show ((a0 ++ a1).size : Int) = (a0.size : Int) + (a1.size : Int) from by simp [ByteArray.size_append]] at h_
                          have c15b1 : (((rd_T33 t209 1).f3) != ((a0 ++ a1).size : Int)) = true := bne_iff_ne.mpr c15
                          have c15b1s : (((rd_T33 t209 1).f3) != ((a0.size : Int) + (a1.size : Int))) = true := by have h_ := c15b1; rwa [show ((a0 ++ a1).size : Int) = (a0.size : Int) + (a1.size : Int) from by simp [ByteArray.size_append]] at h_
                          obtain rfl := Option.some.inj H
                          go_wp2_with (first | ((with_reducible refine gate_callee (f := 25) rfl ?_); refine goesL_ (some 19) rfl rfl Try.func25 (by kernel_rfl) rfl #[.string (a0 ++ a1)] rfl (by (try simp only [List.map_toArray, List.map_cons, List.map_nil]); first | done | rfl | (simp only [List.length_drop, List.length_take]; rfl)) ?_; (with_reducible refine (assessorref02_Scan.calls kj2 (a0 ++ a1) t209 t210 _ A7.out).mono ?_); rintro e w18 ⟨v211, rfl, ho0, hb⟩; refine ⟨_, rfl, ?_⟩; have n0_ := Aside0.mk (Kd.R_lower ho0 (below_size (by repeat (first | (with_reducible first | exact HB.out | apply below_alloc | apply pw_below_drewN | apply below_drew1) | exact HB.out)))); have n1_ := Aside0.mk (below_step (by repeat (first | (with_reducible first | exact HB.out | apply below_alloc | apply pw_below_drewN | apply below_drew1) | exact HB.out)) hb); clear HB; have HO212 := n0_; have HB := n1_; clear n0_ n1_; (try clear hb); (try clear hb2); (try clear hk); (try clear hi); (try clear ho0); obtain ⟨Ao19, co19, eo19⟩ := Kd.R_slice HO212.out; subst eo19; have p213 : 0 ≤ (0 : Int) := (by omega); have q213 : 0 < (t209.length : Int) := of_decide_eq_true (by first | (with_reducible assumption) | assumption); obtain ⟨ad213, e213, hx213_0, hx213_1, hx213_2, hx213_3⟩ := at_T33 (Kd.R_reads' HO212.out).2.2 0 p213 q213; cases e213; have qi213 : (0 < t209.length) = True := eq_true (by omega); (try rw [show ((0 : Int)).toNat = 0 from rfl] at hx213_0); (try rw [show 0 * 4 = 0 from rfl] at hx213_0); (try rw [Addr.add_zero'] at hx213_0); (try rw [show ((0 : Int)).toNat = 0 from rfl] at hx213_1); (try rw [show 0 * 4 = 0 from rfl] at hx213_1); (try rw [Addr.add_zero'] at hx213_1); (try rw [show ((0 : Int)).toNat = 0 from rfl] at hx213_2); (try rw [show 0 * 4 = 0 from rfl] at hx213_2); (try rw [Addr.add_zero'] at hx213_2); (try rw [show ((0 : Int)).toNat = 0 from rfl] at hx213_3); (try rw [show 0 * 4 = 0 from rfl] at hx213_3); (try rw [Addr.add_zero'] at hx213_3); replace p213 := eq_true p213; replace q213 := eq_true q213; have p214 : 0 ≤ (0 : Int) := (by omega); have q214 : 0 < (t209.length : Int) := of_decide_eq_true (by first | (with_reducible assumption) | assumption); obtain ⟨ad214, e214, hx214_0, hx214_1, hx214_2, hx214_3⟩ := at_T33 (Kd.R_reads' HO212.out).2.2 0 p214 q214; obtain rfl : ad213 = ad214 := (by injection e214); have qi214 : (0 < t209.length) = True := eq_true (by omega); (try rw [show ((0 : Int)).toNat = 0 from rfl] at hx214_0); (try rw [show 0 * 4 = 0 from rfl] at hx214_0); (try rw [Addr.add_zero'] at hx214_0); (try rw [show ((0 : Int)).toNat = 0 from rfl] at hx214_1); (try rw [show 0 * 4 = 0 from rfl] at hx214_1); (try rw [Addr.add_zero'] at hx214_1); (try rw [show ((0 : Int)).toNat = 0 from rfl] at hx214_2); (try rw [show 0 * 4 = 0 from rfl] at hx214_2); (try rw [Addr.add_zero'] at hx214_2); (try rw [show ((0 : Int)).toNat = 0 from rfl] at hx214_3); (try rw [show 0 * 4 = 0 from rfl] at hx214_3); (try rw [Addr.add_zero'] at hx214_3); replace p214 := eq_true p214; replace q214 := eq_true q214; have p215 : 0 ≤ (1 : Int) := (by omega); have q215 : 1 < (t209.length : Int) := of_decide_eq_true (by first | (with_reducible assumption) | assumption); obtain ⟨ad215, e215, hx215_0, hx215_1, hx215_2, hx215_3⟩ := at_T33 (Kd.R_reads' HO212.out).2.2 1 p215 q215; obtain rfl : ad213 = ad215 := (by injection e215); (try simp only [show (1 : Int).toNat = 1 from rfl, Nat.reduceMul, Nat.reduceEqDiff, Go.Addr.add, ↓reduceIte] at hx215_0); (try simp only [show (1 : Int).toNat = 1 from rfl, Nat.reduceMul, Nat.reduceEqDiff, Go.Addr.add, ↓reduceIte] at hx215_1); (try simp only [show (1 : Int).toNat = 1 from rfl, Nat.reduceMul, Nat.reduceEqDiff, Go.Addr.add, ↓reduceIte] at hx215_2); (try simp only [show (1 : Int).toNat = 1 from rfl, Nat.reduceMul, Nat.reduceEqDiff, Go.Addr.add, ↓reduceIte] at hx215_3); have qi215 : (1 < t209.length) = True := eq_true (by omega); (try rw [show ((1 : Int)).toNat = 1 from rfl] at hx215_0); (try rw [show 1 * 4 = 4 from rfl] at hx215_0); (try rw [show ((1 : Int)).toNat = 1 from rfl] at hx215_1); (try rw [show 1 * 4 = 4 from rfl] at hx215_1); (try rw [show ((1 : Int)).toNat = 1 from rfl] at hx215_2); (try rw [show 1 * 4 = 4 from rfl] at hx215_2); (try rw [show ((1 : Int)).toNat = 1 from rfl] at hx215_3); (try rw [show 1 * 4 = 4 from rfl] at hx215_3); replace p215 := eq_true p215; replace q215 := eq_true q215; have p216 : 0 ≤ (1 : Int) := (by omega); have q216 : 1 < (t209.length : Int) := of_decide_eq_true (by first | (with_reducible assumption) | assumption); obtain ⟨ad216, e216, hx216_0, hx216_1, hx216_2, hx216_3⟩ := at_T33 (Kd.R_reads' HO212.out).2.2 1 p216 q216; obtain rfl : ad213 = ad216 := (by injection e216); (try simp only [show (1 : Int).toNat = 1 from rfl, Nat.reduceMul, Nat.reduceEqDiff, Go.Addr.add, ↓reduceIte] at hx216_0); (try simp only [show (1 : Int).toNat = 1 from rfl, Nat.reduceMul, Nat.reduceEqDiff, Go.Addr.add, ↓reduceIte] at hx216_1); (try simp only [show (1 : Int).toNat = 1 from rfl, Nat.reduceMul, Nat.reduceEqDiff, Go.Addr.add, ↓reduceIte] at hx216_2); (try simp only [show (1 : Int).toNat = 1 from rfl, Nat.reduceMul, Nat.reduceEqDiff, Go.Addr.add, ↓reduceIte] at hx216_3); have qi216 : (1 < t209.length) = True := eq_true (by omega); (try rw [show ((1 : Int)).toNat = 1 from rfl] at hx216_0); (try rw [show 1 * 4 = 4 from rfl] at hx216_0); (try rw [show ((1 : Int)).toNat = 1 from rfl] at hx216_1); (try rw [show 1 * 4 = 4 from rfl] at hx216_1); (try rw [show ((1 : Int)).toNat = 1 from rfl] at hx216_2); (try rw [show 1 * 4 = 4 from rfl] at hx216_2); (try rw [show ((1 : Int)).toNat = 1 from rfl] at hx216_3); (try rw [show 1 * 4 = 4 from rfl] at hx216_3); replace p216 := eq_true p216; replace q216 := eq_true q216))
                          go_ret
                          exact ⟨by first | rfl | (simp [errW_none, errW_some] <;> rfl) | (simp [*, errW_none, errW_some] <;> rfl), by repeat (first | (with_reducible first | exact HB.out | apply below_alloc | apply pw_below_drewN | apply below_drew1) | exact HB.out)⟩
                      · rw [if_neg c14] at H
                        have c14b0 : (((rd_T33 t209 1).f2) == (a0.size : Int)) = false := beq_eq_false_iff_ne.mpr c14
                        have c14b1 : (((rd_T33 t209 1).f2) != (a0.size : Int)) = true := bne_iff_ne.mpr c14
                        obtain rfl := Option.some.inj H
                        go_wp2_with (first | ((with_reducible refine gate_callee (f := 25) rfl ?_); refine goesL_ (some 19) rfl rfl Try.func25 (by kernel_rfl) rfl #[.string (a0 ++ a1)] rfl (by (try simp only [List.map_toArray, List.map_cons, List.map_nil]); first | done | rfl | (simp only [List.length_drop, List.length_take]; rfl)) ?_; (with_reducible refine (assessorref02_Scan.calls kj2 (a0 ++ a1) t209 t210 _ A7.out).mono ?_); rintro e w20 ⟨v211, rfl, ho0, hb⟩; refine ⟨_, rfl, ?_⟩; have n0_ := Aside0.mk (Kd.R_lower ho0 (below_size (by repeat (first | (with_reducible first | exact HB.out | apply below_alloc | apply pw_below_drewN | apply below_drew1) | exact HB.out)))); have n1_ := Aside0.mk (below_step (by repeat (first | (with_reducible first | exact HB.out | apply below_alloc | apply pw_below_drewN | apply below_drew1) | exact HB.out)) hb); clear HB; have HO212 := n0_; have HB := n1_; clear n0_ n1_; (try clear hb); (try clear hb2); (try clear hk); (try clear hi); (try clear ho0); obtain ⟨Ao21, co21, eo21⟩ := Kd.R_slice HO212.out; subst eo21; have p213 : 0 ≤ (0 : Int) := (by omega); have q213 : 0 < (t209.length : Int) := of_decide_eq_true (by first | (with_reducible assumption) | assumption); obtain ⟨ad213, e213, hx213_0, hx213_1, hx213_2, hx213_3⟩ := at_T33 (Kd.R_reads' HO212.out).2.2 0 p213 q213; cases e213; have qi213 : (0 < t209.length) = True := eq_true (by omega); (try rw [show ((0 : Int)).toNat = 0 from rfl] at hx213_0); (try rw [show 0 * 4 = 0 from rfl] at hx213_0); (try rw [Addr.add_zero'] at hx213_0); (try rw [show ((0 : Int)).toNat = 0 from rfl] at hx213_1); (try rw [show 0 * 4 = 0 from rfl] at hx213_1); (try rw [Addr.add_zero'] at hx213_1); (try rw [show ((0 : Int)).toNat = 0 from rfl] at hx213_2); (try rw [show 0 * 4 = 0 from rfl] at hx213_2); (try rw [Addr.add_zero'] at hx213_2); (try rw [show ((0 : Int)).toNat = 0 from rfl] at hx213_3); (try rw [show 0 * 4 = 0 from rfl] at hx213_3); (try rw [Addr.add_zero'] at hx213_3); replace p213 := eq_true p213; replace q213 := eq_true q213; have p214 : 0 ≤ (0 : Int) := (by omega); have q214 : 0 < (t209.length : Int) := of_decide_eq_true (by first | (with_reducible assumption) | assumption); obtain ⟨ad214, e214, hx214_0, hx214_1, hx214_2, hx214_3⟩ := at_T33 (Kd.R_reads' HO212.out).2.2 0 p214 q214; obtain rfl : ad213 = ad214 := (by injection e214); have qi214 : (0 < t209.length) = True := eq_true (by omega); (try rw [show ((0 : Int)).toNat = 0 from rfl] at hx214_0); (try rw [show 0 * 4 = 0 from rfl] at hx214_0); (try rw [Addr.add_zero'] at hx214_0); (try rw [show ((0 : Int)).toNat = 0 from rfl] at hx214_1); (try rw [show 0 * 4 = 0 from rfl] at hx214_1); (try rw [Addr.add_zero'] at hx214_1); (try rw [show ((0 : Int)).toNat = 0 from rfl] at hx214_2); (try rw [show 0 * 4 = 0 from rfl] at hx214_2); (try rw [Addr.add_zero'] at hx214_2); (try rw [show ((0 : Int)).toNat = 0 from rfl] at hx214_3); (try rw [show 0 * 4 = 0 from rfl] at hx214_3); (try rw [Addr.add_zero'] at hx214_3); replace p214 := eq_true p214; replace q214 := eq_true q214; have p215 : 0 ≤ (1 : Int) := (by omega); have q215 : 1 < (t209.length : Int) := of_decide_eq_true (by first | (with_reducible assumption) | assumption); obtain ⟨ad215, e215, hx215_0, hx215_1, hx215_2, hx215_3⟩ := at_T33 (Kd.R_reads' HO212.out).2.2 1 p215 q215; obtain rfl : ad213 = ad215 := (by injection e215); (try simp only [show (1 : Int).toNat = 1 from rfl, Nat.reduceMul, Nat.reduceEqDiff, Go.Addr.add, ↓reduceIte] at hx215_0); (try simp only [show (1 : Int).toNat = 1 from rfl, Nat.reduceMul, Nat.reduceEqDiff, Go.Addr.add, ↓reduceIte] at hx215_1); (try simp only [show (1 : Int).toNat = 1 from rfl, Nat.reduceMul, Nat.reduceEqDiff, Go.Addr.add, ↓reduceIte] at hx215_2); (try simp only [show (1 : Int).toNat = 1 from rfl, Nat.reduceMul, Nat.reduceEqDiff, Go.Addr.add, ↓reduceIte] at hx215_3); have qi215 : (1 < t209.length) = True := eq_true (by omega); (try rw [show ((1 : Int)).toNat = 1 from rfl] at hx215_0); (try rw [show 1 * 4 = 4 from rfl] at hx215_0); (try rw [show ((1 : Int)).toNat = 1 from rfl] at hx215_1); (try rw [show 1 * 4 = 4 from rfl] at hx215_1); (try rw [show ((1 : Int)).toNat = 1 from rfl] at hx215_2); (try rw [show 1 * 4 = 4 from rfl] at hx215_2); (try rw [show ((1 : Int)).toNat = 1 from rfl] at hx215_3); (try rw [show 1 * 4 = 4 from rfl] at hx215_3); replace p215 := eq_true p215; replace q215 := eq_true q215))
                        go_ret
                        exact ⟨by first | rfl | (simp [errW_none, errW_some] <;> rfl) | (simp [*, errW_none, errW_some] <;> rfl), by repeat (first | (with_reducible first | exact HB.out | apply below_alloc | apply pw_below_drewN | apply below_drew1) | exact HB.out)⟩
                    · rw [if_neg c13] at H
                      exact absurd H (by simp)
                  · rw [if_neg c12] at H
                    have c12b0 : (((rd_T33 t209 0).f3) == (a0.size : Int)) = false := beq_eq_false_iff_ne.mpr c12
                    have c12b1 : (((rd_T33 t209 0).f3) != (a0.size : Int)) = true := bne_iff_ne.mpr c12
                    obtain rfl := Option.some.inj H
                    go_wp2_with (first | ((with_reducible refine gate_callee (f := 25) rfl ?_); refine goesL_ (some 19) rfl rfl Try.func25 (by kernel_rfl) rfl #[.string (a0 ++ a1)] rfl (by (try simp only [List.map_toArray, List.map_cons, List.map_nil]); first | done | rfl | (simp only [List.length_drop, List.length_take]; rfl)) ?_; (with_reducible refine (assessorref02_Scan.calls kj2 (a0 ++ a1) t209 t210 _ A7.out).mono ?_); rintro e w22 ⟨v211, rfl, ho0, hb⟩; refine ⟨_, rfl, ?_⟩; have n0_ := Aside0.mk (Kd.R_lower ho0 (below_size (by repeat (first | (with_reducible first | exact HB.out | apply below_alloc | apply pw_below_drewN | apply below_drew1) | exact HB.out)))); have n1_ := Aside0.mk (below_step (by repeat (first | (with_reducible first | exact HB.out | apply below_alloc | apply pw_below_drewN | apply below_drew1) | exact HB.out)) hb); clear HB; have HO212 := n0_; have HB := n1_; clear n0_ n1_; (try clear hb); (try clear hb2); (try clear hk); (try clear hi); (try clear ho0); obtain ⟨Ao23, co23, eo23⟩ := Kd.R_slice HO212.out; subst eo23; have p213 : 0 ≤ (0 : Int) := (by omega); have q213 : 0 < (t209.length : Int) := of_decide_eq_true (by first | (with_reducible assumption) | assumption); obtain ⟨ad213, e213, hx213_0, hx213_1, hx213_2, hx213_3⟩ := at_T33 (Kd.R_reads' HO212.out).2.2 0 p213 q213; cases e213; have qi213 : (0 < t209.length) = True := eq_true (by omega); (try rw [show ((0 : Int)).toNat = 0 from rfl] at hx213_0); (try rw [show 0 * 4 = 0 from rfl] at hx213_0); (try rw [Addr.add_zero'] at hx213_0); (try rw [show ((0 : Int)).toNat = 0 from rfl] at hx213_1); (try rw [show 0 * 4 = 0 from rfl] at hx213_1); (try rw [Addr.add_zero'] at hx213_1); (try rw [show ((0 : Int)).toNat = 0 from rfl] at hx213_2); (try rw [show 0 * 4 = 0 from rfl] at hx213_2); (try rw [Addr.add_zero'] at hx213_2); (try rw [show ((0 : Int)).toNat = 0 from rfl] at hx213_3); (try rw [show 0 * 4 = 0 from rfl] at hx213_3); (try rw [Addr.add_zero'] at hx213_3); replace p213 := eq_true p213; replace q213 := eq_true q213; have p214 : 0 ≤ (0 : Int) := (by omega); have q214 : 0 < (t209.length : Int) := of_decide_eq_true (by first | (with_reducible assumption) | assumption); obtain ⟨ad214, e214, hx214_0, hx214_1, hx214_2, hx214_3⟩ := at_T33 (Kd.R_reads' HO212.out).2.2 0 p214 q214; obtain rfl : ad213 = ad214 := (by injection e214); have qi214 : (0 < t209.length) = True := eq_true (by omega); (try rw [show ((0 : Int)).toNat = 0 from rfl] at hx214_0); (try rw [show 0 * 4 = 0 from rfl] at hx214_0); (try rw [Addr.add_zero'] at hx214_0); (try rw [show ((0 : Int)).toNat = 0 from rfl] at hx214_1); (try rw [show 0 * 4 = 0 from rfl] at hx214_1); (try rw [Addr.add_zero'] at hx214_1); (try rw [show ((0 : Int)).toNat = 0 from rfl] at hx214_2); (try rw [show 0 * 4 = 0 from rfl] at hx214_2); (try rw [Addr.add_zero'] at hx214_2); (try rw [show ((0 : Int)).toNat = 0 from rfl] at hx214_3); (try rw [show 0 * 4 = 0 from rfl] at hx214_3); (try rw [Addr.add_zero'] at hx214_3); replace p214 := eq_true p214; replace q214 := eq_true q214))
                    go_ret
                    exact ⟨by first | rfl | (simp [errW_none, errW_some] <;> rfl) | (simp [*, errW_none, errW_some] <;> rfl), by repeat (first | (with_reducible first | exact HB.out | apply below_alloc | apply pw_below_drewN | apply below_drew1) | exact HB.out)⟩
                · rw [if_neg c11] at H
                  have c11b0 : (((rd_T33 t209 0).f2) == 0) = false := beq_eq_false_iff_ne.mpr c11
                  have c11b1 : (((rd_T33 t209 0).f2) != 0) = true := bne_iff_ne.mpr c11
                  obtain rfl := Option.some.inj H
                  go_wp2_with (first | ((with_reducible refine gate_callee (f := 25) rfl ?_); refine goesL_ (some 19) rfl rfl Try.func25 (by kernel_rfl) rfl #[.string (a0 ++ a1)] rfl (by (try simp only [List.map_toArray, List.map_cons, List.map_nil]); first | done | rfl | (simp only [List.length_drop, List.length_take]; rfl)) ?_; (with_reducible refine (assessorref02_Scan.calls kj2 (a0 ++ a1) t209 t210 _ A7.out).mono ?_); rintro e w24 ⟨v211, rfl, ho0, hb⟩; refine ⟨_, rfl, ?_⟩; have n0_ := Aside0.mk (Kd.R_lower ho0 (below_size (by repeat (first | (with_reducible first | exact HB.out | apply below_alloc | apply pw_below_drewN | apply below_drew1) | exact HB.out)))); have n1_ := Aside0.mk (below_step (by repeat (first | (with_reducible first | exact HB.out | apply below_alloc | apply pw_below_drewN | apply below_drew1) | exact HB.out)) hb); clear HB; have HO212 := n0_; have HB := n1_; clear n0_ n1_; (try clear hb); (try clear hb2); (try clear hk); (try clear hi); (try clear ho0); obtain ⟨Ao25, co25, eo25⟩ := Kd.R_slice HO212.out; subst eo25; have p213 : 0 ≤ (0 : Int) := (by omega); have q213 : 0 < (t209.length : Int) := of_decide_eq_true (by first | (with_reducible assumption) | assumption); obtain ⟨ad213, e213, hx213_0, hx213_1, hx213_2, hx213_3⟩ := at_T33 (Kd.R_reads' HO212.out).2.2 0 p213 q213; cases e213; have qi213 : (0 < t209.length) = True := eq_true (by omega); (try rw [show ((0 : Int)).toNat = 0 from rfl] at hx213_0); (try rw [show 0 * 4 = 0 from rfl] at hx213_0); (try rw [Addr.add_zero'] at hx213_0); (try rw [show ((0 : Int)).toNat = 0 from rfl] at hx213_1); (try rw [show 0 * 4 = 0 from rfl] at hx213_1); (try rw [Addr.add_zero'] at hx213_1); (try rw [show ((0 : Int)).toNat = 0 from rfl] at hx213_2); (try rw [show 0 * 4 = 0 from rfl] at hx213_2); (try rw [Addr.add_zero'] at hx213_2); (try rw [show ((0 : Int)).toNat = 0 from rfl] at hx213_3); (try rw [show 0 * 4 = 0 from rfl] at hx213_3); (try rw [Addr.add_zero'] at hx213_3); replace p213 := eq_true p213; replace q213 := eq_true q213))
                  go_ret
                  exact ⟨by first | rfl | (simp [errW_none, errW_some] <;> rfl) | (simp [*, errW_none, errW_some] <;> rfl), by repeat (first | (with_reducible first | exact HB.out | apply below_alloc | apply pw_below_drewN | apply below_drew1) | exact HB.out)⟩
              · rw [if_neg c10] at H
                exact absurd H (by simp)
            · rw [if_neg c9] at H
              have c9b0 : ((t209.length : Int) == 3) = false := beq_eq_false_iff_ne.mpr c9
              have c9b1 : ((t209.length : Int) != 3) = true := bne_iff_ne.mpr c9
              obtain rfl := Option.some.inj H
              go_wp2_with (first | ((with_reducible refine gate_callee (f := 25) rfl ?_); refine goesL_ (some 19) rfl rfl Try.func25 (by kernel_rfl) rfl #[.string (a0 ++ a1)] rfl (by (try simp only [List.map_toArray, List.map_cons, List.map_nil]); first | done | rfl | (simp only [List.length_drop, List.length_take]; rfl)) ?_; (with_reducible refine (assessorref02_Scan.calls kj2 (a0 ++ a1) t209 t210 _ A7.out).mono ?_); rintro e w26 ⟨v211, rfl, ho0, hb⟩; refine ⟨_, rfl, ?_⟩; have n0_ := Aside0.mk (Kd.R_lower ho0 (below_size (by repeat (first | (with_reducible first | exact HB.out | apply below_alloc | apply pw_below_drewN | apply below_drew1) | exact HB.out)))); have n1_ := Aside0.mk (below_step (by repeat (first | (with_reducible first | exact HB.out | apply below_alloc | apply pw_below_drewN | apply below_drew1) | exact HB.out)) hb); clear HB; have HO212 := n0_; have HB := n1_; clear n0_ n1_; (try clear hb); (try clear hb2); (try clear hk); (try clear hi); (try clear ho0); obtain ⟨Ao27, co27, eo27⟩ := Kd.R_slice HO212.out; subst eo27))
              go_ret
              exact ⟨by first | rfl | (simp [errW_none, errW_some] <;> rfl) | (simp [*, errW_none, errW_some] <;> rfl), by repeat (first | (with_reducible first | exact HB.out | apply below_alloc | apply pw_below_drewN | apply below_drew1) | exact HB.out)⟩
          · rw [if_neg c8] at H
            have c8b0 : (t210 == 0) = false := beq_eq_false_iff_ne.mpr c8
            have c8b1 : (t210 != 0) = true := bne_iff_ne.mpr c8
            obtain rfl := Option.some.inj H
            go_wp2_with (first | ((with_reducible refine gate_callee (f := 25) rfl ?_); refine goesL_ (some 19) rfl rfl Try.func25 (by kernel_rfl) rfl #[.string (a0 ++ a1)] rfl (by (try simp only [List.map_toArray, List.map_cons, List.map_nil]); first | done | rfl | (simp only [List.length_drop, List.length_take]; rfl)) ?_; (with_reducible refine (assessorref02_Scan.calls kj2 (a0 ++ a1) t209 t210 _ A7.out).mono ?_); rintro e w28 ⟨v211, rfl, ho0, hb⟩; refine ⟨_, rfl, ?_⟩; have n0_ := Aside0.mk (Kd.R_lower ho0 (below_size (by repeat (first | (with_reducible first | exact HB.out | apply below_alloc | apply pw_below_drewN | apply below_drew1) | exact HB.out)))); have n1_ := Aside0.mk (below_step (by repeat (first | (with_reducible first | exact HB.out | apply below_alloc | apply pw_below_drewN | apply below_drew1) | exact HB.out)) hb); clear HB; have HO212 := n0_; have HB := n1_; clear n0_ n1_; (try clear hb); (try clear hb2); (try clear hk); (try clear hi); (try clear ho0)))
            go_ret
            exact ⟨by first | rfl | (simp [errW_none, errW_some] <;> rfl) | (simp [*, errW_none, errW_some] <;> rfl), by repeat (first | (with_reducible first | exact HB.out | apply below_alloc | apply pw_below_drewN | apply below_drew1) | exact HB.out)⟩
        · rw [if_neg c6] at H
          exact absurd H (by simp)

end Go.Proofs.Ytefoijgjdmjhoaa.P
