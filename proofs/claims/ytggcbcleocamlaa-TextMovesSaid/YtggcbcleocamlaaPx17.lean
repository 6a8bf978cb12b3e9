-- Written by a program of this session (jprint.py over the kit's print), for this claim. Lean checks it.
import Derived.Test.YtggcbcleocamlaaPx0
namespace Go.Proofs.Ytggcbcleocamlaa.P
open Go.RowKit Go.Proofs.YtggcbcleocamlaaW.PrintWords Go.Proofs.YtggcbcleocamlaaW.PrintLast Go.Proofs.YtggcbcleocamlaaW.PrintMore
attribute [local go_sem] max2_int min2_int max_two min_two max_three min_three max_four min_four   -- for this text's walks alone
set_option linter.unusedVariables false
set_option linter.unusedSimpArgs false

/-! ### assessorref01_Move: function 19 -/
mutual
def assessorref01_Move.j0 : Nat → List (S24) → Int → Bool → Option (Int)
  | 0, _, _, _ => none
  | k + 1, x0, x1, x14 => if x14 = true then (some (-1)) else (assessorref01_Move.l0 k x0 x1 0 0)
def assessorref01_Move.l0 : Nat → List (S24) → Int → Int → Int → Option (Int)
  | 0, _, _, _, _ => none
  | k + 1, x0, x1, x5, x6 => if x6 < (x0.length : Int) then (if 0 ≤ x6 then (if ((rd_T24 x0 x6).f0) < x5 then (some (-1)) else (if ((rd_T24 x0 x6).f1) < ((rd_T24 x0 x6).f0) then (some (-1)) else (if ((rd_T24 x0 x6).f1) > 16384 then (some (-1)) else (assessorref01_Move.l0 k x0 x1 ((rd_T24 x0 x6).f1) (wrap64 (x6 + 1)))))) else (none)) else (assessorref01_Move.l1 k x0 x1 0 0)
def assessorref01_Move.l1 : Nat → List (S24) → Int → Int → Int → Option (Int)
  | 0, _, _, _, _ => none
  | k + 1, x0, x1, x7, x8 => if x8 < (x0.length : Int) then (if 0 ≤ x8 then (if ((rd_T24 x0 x8).f0) ≤ x1 then (assessorref01_Move.j3 k x0 x1 x7 x8 (decide (x1 < ((rd_T24 x0 x8).f1)))) else (assessorref01_Move.j3 k x0 x1 x7 x8 false)) else (none)) else (some (wrap64 (x1 + x7)))
def assessorref01_Move.j3 : Nat → List (S24) → Int → Int → Int → Bool → Option (Int)
  | 0, _, _, _, _, _ => none
  | k + 1, x0, x1, x7, x8, x75 => if x75 = true then (if 0 ≤ x8 then (if x8 < (x0.length : Int) then (some (wrap64 ((wrap64 (((rd_T24 x0 x8).f0) + x7)) + (mn (wrap64 (x1 - ((rd_T24 x0 x8).f0))) (((rd_T24 x0 x8).f2).size : Int))))) else (none)) else (none)) else (if 0 ≤ x8 then (if x8 < (x0.length : Int) then (if ((rd_T24 x0 x8).f1) ≤ x1 then (assessorref01_Move.l1 k x0 x1 (wrap64 ((wrap64 (x7 + (((rd_T24 x0 x8).f2).size : Int))) - (wrap64 (((rd_T24 x0 x8).f1) - ((rd_T24 x0 x8).f0))))) (wrap64 (x8 + 1))) else (assessorref01_Move.l1 k x0 x1 x7 (wrap64 (x8 + 1)))) else (none)) else (none))
end
def assessorref01_Move.f (k : Nat) (l0 : List (S24)) (a1 : Int) : Option (Int) := if a1 < 0 then (assessorref01_Move.j0 k l0 a1 true) else (assessorref01_Move.j0 k l0 a1 (decide (a1 > 16384)))
theorem assessorref01_Move.mono_l : ∀ k, (∀ y0 y1 y2, LeO (assessorref01_Move.j0 k y0 y1 y2) (assessorref01_Move.j0 (k + 1) y0 y1 y2)) ∧ (∀ y0 y1 y2 y3, LeO (assessorref01_Move.l0 k y0 y1 y2 y3) (assessorref01_Move.l0 (k + 1) y0 y1 y2 y3)) ∧ (∀ y0 y1 y2 y3, LeO (assessorref01_Move.l1 k y0 y1 y2 y3) (assessorref01_Move.l1 (k + 1) y0 y1 y2 y3)) ∧ (∀ y0 y1 y2 y3 y4, LeO (assessorref01_Move.j3 k y0 y1 y2 y3 y4) (assessorref01_Move.j3 (k + 1) y0 y1 y2 y3 y4))
  | 0 => ⟨fun _ _ _ r h => by simp [assessorref01_Move.j0] at h, fun _ _ _ _ r h => by simp [assessorref01_Move.l0] at h, fun _ _ _ _ r h => by simp [assessorref01_Move.l1] at h, fun _ _ _ _ _ r h => by simp [assessorref01_Move.j3] at h⟩
  | k + 1 => by
    obtain ⟨ih0, ih1, ih2, ih3⟩ := assessorref01_Move.mono_l k
    refine ⟨?_, ?_, ?_, ?_⟩
    · intro y0 y1 y2
      unfold assessorref01_Move.j0
      repeat' first
      | (with_reducible exact ih0 _ _ _)
      | (with_reducible exact ih1 _ _ _ _)
      | (with_reducible exact ih2 _ _ _ _)
      | (with_reducible exact ih3 _ _ _ _ _)
      | (with_reducible exact LeO.refl _)
      | (with_reducible exact LeO.none _)
      | (with_reducible refine LeO.ite ?_ ?_)
      | (with_reducible refine LeO.bind ?_ (fun _ => ?_))
      | exact ih0 _ _ _
      | exact ih1 _ _ _ _
      | exact ih2 _ _ _ _
      | exact ih3 _ _ _ _ _
      | exact LeO.none _
      | refine LeO.ite ?_ ?_
      | refine LeO.bind ?_ (fun _ => ?_)
    · intro y0 y1 y2 y3
      unfold assessorref01_Move.l0
      repeat' first
      | (with_reducible exact ih0 _ _ _)
      | (with_reducible exact ih1 _ _ _ _)
      | (with_reducible exact ih2 _ _ _ _)
      | (with_reducible exact ih3 _ _ _ _ _)
      | (with_reducible exact LeO.refl _)
      | (with_reducible exact LeO.none _)
      | (with_reducible refine LeO.ite ?_ ?_)
      | (with_reducible refine LeO.bind ?_ (fun _ => ?_))
      | exact ih0 _ _ _
      | exact ih1 _ _ _ _
      | exact ih2 _ _ _ _
      | exact ih3 _ _ _ _ _
      | exact LeO.none _
      | refine LeO.ite ?_ ?_
      | refine LeO.bind ?_ (fun _ => ?_)
    · intro y0 y1 y2 y3
      unfold assessorref01_Move.l1
      repeat' first
      | (with_reducible exact ih0 _ _ _)
      | (with_reducible exact ih1 _ _ _ _)
      | (with_reducible exact ih2 _ _ _ _)
      | (with_reducible exact ih3 _ _ _ _ _)
      | (with_reducible exact LeO.refl _)
      | (with_reducible exact LeO.none _)
      | (with_reducible refine LeO.ite ?_ ?_)
      | (with_reducible refine LeO.bind ?_ (fun _ => ?_))
      | exact ih0 _ _ _
      | exact ih1 _ _ _ _
      | exact ih2 _ _ _ _
      | exact ih3 _ _ _ _ _
      | exact LeO.none _
      | refine LeO.ite ?_ ?_
      | refine LeO.bind ?_ (fun _ => ?_)
    · intro y0 y1 y2 y3 y4
      unfold assessorref01_Move.j3
      repeat' first
      | (with_reducible exact ih0 _ _ _)
      | (with_reducible exact ih1 _ _ _ _)
      | (with_reducible exact ih2 _ _ _ _)
      | (with_reducible exact ih3 _ _ _ _ _)
      | (with_reducible exact LeO.refl _)
      | (with_reducible exact LeO.none _)
      | (with_reducible refine LeO.ite ?_ ?_)
      | (with_reducible refine LeO.bind ?_ (fun _ => ?_))
      | exact ih0 _ _ _
      | exact ih1 _ _ _ _
      | exact ih2 _ _ _ _
      | exact ih3 _ _ _ _ _
      | exact LeO.none _
      | refine LeO.ite ?_ ?_
      | refine LeO.bind ?_ (fun _ => ?_)
theorem assessorref01_Move.mono : ∀ a0 a1 k, LeO (assessorref01_Move.f k a0 a1) (assessorref01_Move.f (k + 1) a0 a1) := by
  intro a0 a1 k
  obtain ⟨ih0, ih1, ih2, ih3⟩ := assessorref01_Move.mono_l k
  unfold assessorref01_Move.f
  repeat' first
      | (with_reducible exact ih0 _ _ _)
      | (with_reducible exact ih1 _ _ _ _)
      | (with_reducible exact ih2 _ _ _ _)
      | (with_reducible exact ih3 _ _ _ _ _)
      | (with_reducible exact LeO.refl _)
      | (with_reducible exact LeO.none _)
      | (with_reducible refine LeO.ite ?_ ?_)
      | (with_reducible refine LeO.bind ?_ (fun _ => ?_))
      | exact ih0 _ _ _
      | exact ih1 _ _ _ _
      | exact ih2 _ _ _ _
      | exact ih3 _ _ _ _ _
      | exact LeO.none _
      | refine LeO.ite ?_ ?_
      | refine LeO.bind ?_ (fun _ => ?_)
set_option maxHeartbeats 8000000 in
set_option maxRecDepth 100000 in
theorem assessorref01_Move.calls (k : Nat) (A0 : Option Addr) (c0 : Nat) (l0 : List (S24)) (a1 : Int) (r : Int) (w : World) (hr0 : Kd.C k24 w A0 l0.length l0) (hc0 : l0.length ≤ c0) (h : assessorref01_Move.f k l0 a1 = some r) :
    Calls Try.prog 19 #[.slice A0 l0.length c0, .int .i64 a1] w fun e w' => e = .returned (.int .i64 r) ∧ Below w.heap.size w w' := by
  have HR0 := Aside0.mk hr0
  have HC0 := Aside0.mk hc0
  clear hr0 hc0
  have HB := Aside0.mk (Below.refl w.heap.size w)
  have H : (if a1 < 0 then (assessorref01_Move.j0 k l0 a1 true) else (assessorref01_Move.j0 k l0 a1 (decide (a1 > 16384)))) = some r := h
  clear h
  have HC3 := Aside0.mk H
  clear H
  go_enter Try.func19, Try.ntmps19
  go_upto_region 1 with (fail)
  repeat (go_quiet (fail); go_upto_region 1 with (fail))
  go_cut [14] (fun v14 wc => ∃ (kq : Nat) (x14_2 : Bool), v14 = .bool x14_2 ∧ Aside0 (assessorref01_Move.j0 kq l0 a1 x14_2 = some r) ∧ Aside0 (kq ≤ k) ∧ Aside0 (Below w.heap.size w wc))
  case first =>
    have H := HC3.out
    clear HC3
    by_cases c4 : a1 < 0
    · rw [if_pos c4] at H
      have c4b0 : decide (a1 < 0) = true := decide_eq_true c4
      clear c4
      (first | rw [c4b0] | (simp only [i64_w, i32_w]; rw [c4b0]) | skip)
      have H' := Aside0.mk H
      clear H
      go_wp2
      repeat (go_quiet (fail); try go_wp2)
      go_meet
      case rel => exact ⟨_, (true), (by first | rfl | (simp; done) | (simp [*]; done)), H', ⟨by first | omega | exact Nat.le_refl _⟩, ⟨by repeat (first | (with_reducible first | exact HB.out | apply below_alloc | apply pw_below_drewN | apply below_drew1) | exact HB.out)⟩⟩
    · rw [if_neg c4] at H
      have c4b0 : decide (a1 < 0) = false := decide_eq_false c4
      clear c4
      (first | rw [c4b0] | (simp only [i64_w, i32_w]; rw [c4b0]) | skip)
      have H' := Aside0.mk H
      clear H
      go_wp2
      repeat (go_quiet (fail); try go_wp2)
      go_meet
      case rel => exact ⟨_, (decide (a1 > 16384)), (by first | rfl | (simp; done) | (simp [*]; done)), H', ⟨by first | omega | exact Nat.le_refl _⟩, ⟨by repeat (first | (with_reducible first | exact HB.out | apply below_alloc | apply pw_below_drewN | apply below_drew1) | exact HB.out)⟩⟩
  case rest =>
    clear HC3
    try clear c1
    try clear p2
    try clear c4
    try clear c4b0
    obtain ⟨kq, x14_2, rfl, HA, HJ2, HB⟩ := hcut
    cases kq with
    | zero => exact absurd HA.out (by simp [assessorref01_Move.j0])
    | succ kj2 =>
      have H := HA.out
      clear HA
      simp only [assessorref01_Move.j0] at H
      by_cases c5 : x14_2 = true
      · subst c5
        have H1 : (some (-1)) = some r := by rw [if_pos rfl] at H; exact H
        clear H
        have H := H1
        clear H1
        obtain rfl := Option.some.inj H
        go_wp2
        repeat (go_quiet (fail); try go_wp2)
        go_ret
        exact ⟨by first | rfl | (simp [errW_none, errW_some] <;> rfl) | (simp [*, errW_none, errW_some] <;> rfl), by repeat (first | (with_reducible first | exact HB.out | apply below_alloc | apply pw_below_drewN | apply below_drew1) | exact HB.out)⟩
      · replace c5 := Bool.eq_false_iff.mpr c5
        subst c5
        have H1 : (assessorref01_Move.l0 kj2 l0 a1 0 0) = some r := by rw [if_neg (show ¬ (false = true) by decide)] at H; exact H
        clear H
        have H := H1
        clear H1
        have H' := Aside0.mk H
        clear H
        go_wp2
        repeat (go_quiet (fail); try go_wp2)
        go_loopg [5, 6] kj2 (fun kq v5 v6 w' => ∃ (x5_2 : Int) (x6_2 : Int), v5 = .int .i64 x5_2 ∧ v6 = .int .i64 x6_2 ∧ Aside0 (assessorref01_Move.l0 kq l0 a1 x5_2 x6_2 = some r) ∧ Aside0 (kq ≤ kj2) ∧ Aside0 (Below w.heap.size w w'))
        case atStart => exact ⟨(0), (0), (by first | rfl | (simp; done) | (simp [*]; done)), (by first | rfl | (simp; done) | (simp [*]; done)), H', ⟨Nat.le_refl _⟩, ⟨by repeat (first | (with_reducible first | exact HB.out | apply below_alloc | apply pw_below_drewN | apply below_drew1) | exact HB.out)⟩⟩
        case round =>
          clear H'
          try clear c1
          try clear p2
          try clear c4
          try clear c4b0
          try clear c5
          try clear p2
          obtain ⟨x5_2, x6_2, rfl, rfl, HA, HK2, HB⟩ := hrel
          cases gk with
          | zero => exact absurd HA.out (by simp [assessorref01_Move.l0])
          | succ k2 =>
            have H := HA.out
            clear HA
            simp only [assessorref01_Move.l0] at H
            by_cases c6 : x6_2 < (l0.length : Int)
            · rw [if_pos c6] at H
              have c6b0 : decide (x6_2 < (l0.length : Int)) = true := decide_eq_true c6
              clear c6
              by_cases c7 : 0 ≤ x6_2
              · rw [if_pos c7] at H
                have c7b0 : decide (0 ≤ x6_2) = true := decide_eq_true c7
                clear c7
                by_cases c8 : ((rd_T24 l0 x6_2).f0) < x5_2
                · rw [if_pos c8] at H
                  have c8b0 : decide (((rd_T24 l0 x6_2).f0) < x5_2) = true := decide_eq_true c8
                  clear c8
                  obtain rfl := Option.some.inj H
                  have p196 : 0 ≤ (x6_2 : Int) := of_decide_eq_true (by first | (with_reducible assumption) | assumption)
                  have q196 : x6_2 < (l0.length : Int) := of_decide_eq_true (by first | (with_reducible assumption) | assumption)
                  obtain ⟨ad196, e196, hx196_0, hx196_1, hx196_2⟩ := at_T24 HR0.out x6_2 p196 q196
                  cases e196
                  replace hx196_0 := (HB.out.cell (World.block_lt_of_cell? w _ hx196_0)).trans hx196_0
                  replace hx196_1 := (HB.out.cell (World.block_lt_of_cell? w _ hx196_1)).trans hx196_1
                  replace hx196_2 := (HB.out.cell (World.block_lt_of_cell? w _ hx196_2)).trans hx196_2
                  replace p196 := eq_true p196
                  replace q196 := eq_true q196
                  go_wp2
                  repeat (go_quiet (fail); try go_wp2)
                  go_ret
                  exact ⟨by first | rfl | (simp [errW_none, errW_some] <;> rfl) | (simp [*, errW_none, errW_some] <;> rfl), by repeat (first | (with_reducible first | exact HB.out | apply below_alloc | apply pw_below_drewN | apply below_drew1) | exact HB.out)⟩
                · rw [if_neg c8] at H
                  have c8b0 : decide (((rd_T24 l0 x6_2).f0) < x5_2) = false := decide_eq_false c8
                  clear c8
                  by_cases c9 : ((rd_T24 l0 x6_2).f1) < ((rd_T24 l0 x6_2).f0)
                  · rw [if_pos c9] at H
                    have c9b0 : decide (((rd_T24 l0 x6_2).f1) < ((rd_T24 l0 x6_2).f0)) = true := decide_eq_true c9
                    clear c9
                    obtain rfl := Option.some.inj H
                    have p196 : 0 ≤ (x6_2 : Int) := of_decide_eq_true (by first | (with_reducible assumption) | assumption)
                    have q196 : x6_2 < (l0.length : Int) := of_decide_eq_true (by first | (with_reducible assumption) | assumption)
                    obtain ⟨ad196, e196, hx196_0, hx196_1, hx196_2⟩ := at_T24 HR0.out x6_2 p196 q196
                    cases e196
                    replace hx196_0 := (HB.out.cell (World.block_lt_of_cell? w _ hx196_0)).trans hx196_0
                    replace hx196_1 := (HB.out.cell (World.block_lt_of_cell? w _ hx196_1)).trans hx196_1
                    replace hx196_2 := (HB.out.cell (World.block_lt_of_cell? w _ hx196_2)).trans hx196_2
                    replace p196 := eq_true p196
                    replace q196 := eq_true q196
                    have p197 : 0 ≤ (x6_2 : Int) := of_decide_eq_true (by first | (with_reducible assumption) | assumption)
                    have q197 : x6_2 < (l0.length : Int) := of_decide_eq_true (by first | (with_reducible assumption) | assumption)
                    obtain ⟨ad197, e197, hx197_0, hx197_1, hx197_2⟩ := at_T24 HR0.out x6_2 p197 q197
                    obtain rfl : ad196 = ad197 := (by injection e197)
                    replace hx197_0 := (HB.out.cell (World.block_lt_of_cell? w _ hx197_0)).trans hx197_0
                    replace hx197_1 := (HB.out.cell (World.block_lt_of_cell? w _ hx197_1)).trans hx197_1
                    replace hx197_2 := (HB.out.cell (World.block_lt_of_cell? w _ hx197_2)).trans hx197_2
                    replace p197 := eq_true p197
                    replace q197 := eq_true q197
                    have p198 : 0 ≤ (x6_2 : Int) := of_decide_eq_true (by first | (with_reducible assumption) | assumption)
                    have q198 : x6_2 < (l0.length : Int) := of_decide_eq_true (by first | (with_reducible assumption) | assumption)
                    obtain ⟨ad198, e198, hx198_0, hx198_1, hx198_2⟩ := at_T24 HR0.out x6_2 p198 q198
                    obtain rfl : ad196 = ad198 := (by injection e198)
                    replace hx198_0 := (HB.out.cell (World.block_lt_of_cell? w _ hx198_0)).trans hx198_0
                    replace hx198_1 := (HB.out.cell (World.block_lt_of_cell? w _ hx198_1)).trans hx198_1
                    replace hx198_2 := (HB.out.cell (World.block_lt_of_cell? w _ hx198_2)).trans hx198_2
                    replace p198 := eq_true p198
                    replace q198 := eq_true q198
                    go_wp2
                    repeat (go_quiet (fail); try go_wp2)
                    go_ret
                    exact ⟨by first | rfl | (simp [errW_none, errW_some] <;> rfl) | (simp [*, errW_none, errW_some] <;> rfl), by repeat (first | (with_reducible first | exact HB.out | apply below_alloc | apply pw_below_drewN | apply below_drew1) | exact HB.out)⟩
                  · rw [if_neg c9] at H
                    have c9b0 : decide (((rd_T24 l0 x6_2).f1) < ((rd_T24 l0 x6_2).f0)) = false := decide_eq_false c9
                    clear c9
                    by_cases c10 : ((rd_T24 l0 x6_2).f1) > 16384
                    · rw [if_pos c10] at H
                      have c10b0 : decide (16384 < ((rd_T24 l0 x6_2).f1)) = true := decide_eq_true c10
                      clear c10
                      obtain rfl := Option.some.inj H
                      have p196 : 0 ≤ (x6_2 : Int) := of_decide_eq_true (by first | (with_reducible assumption) | assumption)
                      have q196 : x6_2 < (l0.length : Int) := of_decide_eq_true (by first | (with_reducible assumption) | assumption)
                      obtain ⟨ad196, e196, hx196_0, hx196_1, hx196_2⟩ := at_T24 HR0.out x6_2 p196 q196
                      cases e196
                      replace hx196_0 := (HB.out.cell (World.block_lt_of_cell? w _ hx196_0)).trans hx196_0
                      replace hx196_1 := (HB.out.cell (World.block_lt_of_cell? w _ hx196_1)).trans hx196_1
                      replace hx196_2 := (HB.out.cell (World.block_lt_of_cell? w _ hx196_2)).trans hx196_2
                      replace p196 := eq_true p196
                      replace q196 := eq_true q196
                      have p197 : 0 ≤ (x6_2 : Int) := of_decide_eq_true (by first | (with_reducible assumption) | assumption)
                      have q197 : x6_2 < (l0.length : Int) := of_decide_eq_true (by first | (with_reducible assumption) | assumption)
                      obtain ⟨ad197, e197, hx197_0, hx197_1, hx197_2⟩ := at_T24 HR0.out x6_2 p197 q197
                      obtain rfl : ad196 = ad197 := (by injection e197)
                      replace hx197_0 := (HB.out.cell (World.block_lt_of_cell? w _ hx197_0)).trans hx197_0
                      replace hx197_1 := (HB.out.cell (World.block_lt_of_cell? w _ hx197_1)).trans hx197_1
                      replace hx197_2 := (HB.out.cell (World.block_lt_of_cell? w _ hx197_2)).trans hx197_2
                      replace p197 := eq_true p197
                      replace q197 := eq_true q197
                      have p198 : 0 ≤ (x6_2 : Int) := of_decide_eq_true (by first | (with_reducible assumption) | assumption)
                      have q198 : x6_2 < (l0.length : Int) := of_decide_eq_true (by first | (with_reducible assumption) | assumption)
                      obtain ⟨ad198, e198, hx198_0, hx198_1, hx198_2⟩ := at_T24 HR0.out x6_2 p198 q198
                      obtain rfl : ad196 = ad198 := (by injection e198)
                      replace hx198_0 := (HB.out.cell (World.block_lt_of_cell? w _ hx198_0)).trans hx198_0
                      replace hx198_1 := (HB.out.cell (World.block_lt_of_cell? w _ hx198_1)).trans hx198_1
                      replace hx198_2 := (HB.out.cell (World.block_lt_of_cell? w _ hx198_2)).trans hx198_2
                      replace p198 := eq_true p198
                      replace q198 := eq_true q198
                      have p199 : 0 ≤ (x6_2 : Int) := of_decide_eq_true (by first | (with_reducible assumption) | assumption)
                      have q199 : x6_2 < (l0.length : Int) := of_decide_eq_true (by first | (with_reducible assumption) | assumption)
                      obtain ⟨ad199, e199, hx199_0, hx199_1, hx199_2⟩ := at_T24 HR0.out x6_2 p199 q199
                      obtain rfl : ad196 = ad199 := (by injection e199)
                      replace hx199_0 := (HB.out.cell (World.block_lt_of_cell? w _ hx199_0)).trans hx199_0
                      replace hx199_1 := (HB.out.cell (World.block_lt_of_cell? w _ hx199_1)).trans hx199_1
                      replace hx199_2 := (HB.out.cell (World.block_lt_of_cell? w _ hx199_2)).trans hx199_2
                      replace p199 := eq_true p199
                      replace q199 := eq_true q199
                      go_wp2
                      repeat (go_quiet (fail); try go_wp2)
                      go_ret
                      exact ⟨by first | rfl | (simp [errW_none, errW_some] <;> rfl) | (simp [*, errW_none, errW_some] <;> rfl), by repeat (first | (with_reducible first | exact HB.out | apply below_alloc | apply pw_below_drewN | apply below_drew1) | exact HB.out)⟩
                    · rw [if_neg c10] at H
                      have c10b0 : decide (16384 < ((rd_T24 l0 x6_2).f1)) = false := decide_eq_false c10
                      clear c10
                      have H' := Aside0.mk H
                      clear H
                      have p196 : 0 ≤ (x6_2 : Int) := of_decide_eq_true (by first | (with_reducible assumption) | assumption)
                      have q196 : x6_2 < (l0.length : Int) := of_decide_eq_true (by first | (with_reducible assumption) | assumption)
                      obtain ⟨ad196, e196, hx196_0, hx196_1, hx196_2⟩ := at_T24 HR0.out x6_2 p196 q196
                      cases e196
                      replace hx196_0 := (HB.out.cell (World.block_lt_of_cell? w _ hx196_0)).trans hx196_0
                      replace hx196_1 := (HB.out.cell (World.block_lt_of_cell? w _ hx196_1)).trans hx196_1
                      replace hx196_2 := (HB.out.cell (World.block_lt_of_cell? w _ hx196_2)).trans hx196_2
                      replace p196 := eq_true p196
                      replace q196 := eq_true q196
                      have p197 : 0 ≤ (x6_2 : Int) := of_decide_eq_true (by first | (with_reducible assumption) | assumption)
                      have q197 : x6_2 < (l0.length : Int) := of_decide_eq_true (by first | (with_reducible assumption) | assumption)
                      obtain ⟨ad197, e197, hx197_0, hx197_1, hx197_2⟩ := at_T24 HR0.out x6_2 p197 q197
                      obtain rfl : ad196 = ad197 := (by injection e197)
                      replace hx197_0 := (HB.out.cell (World.block_lt_of_cell? w _ hx197_0)).trans hx197_0
                      replace hx197_1 := (HB.out.cell (World.block_lt_of_cell? w _ hx197_1)).trans hx197_1
                      replace hx197_2 := (HB.out.cell (World.block_lt_of_cell? w _ hx197_2)).trans hx197_2
                      replace p197 := eq_true p197
                      replace q197 := eq_true q197
                      have p198 : 0 ≤ (x6_2 : Int) := of_decide_eq_true (by first | (with_reducible assumption) | assumption)
                      have q198 : x6_2 < (l0.length : Int) := of_decide_eq_true (by first | (with_reducible assumption) | assumption)
                      obtain ⟨ad198, e198, hx198_0, hx198_1, hx198_2⟩ := at_T24 HR0.out x6_2 p198 q198
                      obtain rfl : ad196 = ad198 := (by injection e198)
                      replace hx198_0 := (HB.out.cell (World.block_lt_of_cell? w _ hx198_0)).trans hx198_0
                      replace hx198_1 := (HB.out.cell (World.block_lt_of_cell? w _ hx198_1)).trans hx198_1
                      replace hx198_2 := (HB.out.cell (World.block_lt_of_cell? w _ hx198_2)).trans hx198_2
                      replace p198 := eq_true p198
                      replace q198 := eq_true q198
                      have p199 : 0 ≤ (x6_2 : Int) := of_decide_eq_true (by first | (with_reducible assumption) | assumption)
                      have q199 : x6_2 < (l0.length : Int) := of_decide_eq_true (by first | (with_reducible assumption) | assumption)
                      obtain ⟨ad199, e199, hx199_0, hx199_1, hx199_2⟩ := at_T24 HR0.out x6_2 p199 q199
                      obtain rfl : ad196 = ad199 := (by injection e199)
                      replace hx199_0 := (HB.out.cell (World.block_lt_of_cell? w _ hx199_0)).trans hx199_0
                      replace hx199_1 := (HB.out.cell (World.block_lt_of_cell? w _ hx199_1)).trans hx199_1
                      replace hx199_2 := (HB.out.cell (World.block_lt_of_cell? w _ hx199_2)).trans hx199_2
                      replace p199 := eq_true p199
                      replace q199 := eq_true q199
                      have p200 : 0 ≤ (x6_2 : Int) := of_decide_eq_true (by first | (with_reducible assumption) | assumption)
                      have q200 : x6_2 < (l0.length : Int) := of_decide_eq_true (by first | (with_reducible assumption) | assumption)
                      obtain ⟨ad200, e200, hx200_0, hx200_1, hx200_2⟩ := at_T24 HR0.out x6_2 p200 q200
                      obtain rfl : ad196 = ad200 := (by injection e200)
                      replace hx200_0 := (HB.out.cell (World.block_lt_of_cell? w _ hx200_0)).trans hx200_0
                      replace hx200_1 := (HB.out.cell (World.block_lt_of_cell? w _ hx200_1)).trans hx200_1
                      replace hx200_2 := (HB.out.cell (World.block_lt_of_cell? w _ hx200_2)).trans hx200_2
                      replace p200 := eq_true p200
                      replace q200 := eq_true q200
                      go_wp2
                      repeat (go_quiet (fail); try go_wp2)
                      go_roundg k2
                      case measure => have := HJ2.out; have := HK2.out; omega
                      case rel => exact ⟨((rd_T24 l0 x6_2).f1), (wrap64 (x6_2 + 1)), (by first | rfl | (simp; done) | (simp [*]; done)), (by first | rfl | (simp; done) | (simp [*]; done)), H', ⟨by have := HJ2.out; have := HK2.out; omega⟩, ⟨by repeat (first | (with_reducible first | exact HB.out | apply below_alloc | apply pw_below_drewN | apply below_drew1) | exact HB.out)⟩⟩
              · rw [if_neg c7] at H
                exact absurd H (by simp)
            · rw [if_neg c6] at H
              have c6b0 : decide (x6_2 < (l0.length : Int)) = false := decide_eq_false c6
              clear c6
              have H' := Aside0.mk H
              clear H
              go_wp2
              repeat (go_quiet (fail); try go_wp2)
              go_loopg [7, 8] k2 (fun kq v7 v8 w' => ∃ (x7_3 : Int) (x8_3 : Int), v7 = .int .i64 x7_3 ∧ v8 = .int .i64 x8_3 ∧ Aside0 (assessorref01_Move.l1 kq l0 a1 x7_3 x8_3 = some r) ∧ Aside0 (kq ≤ k2) ∧ Aside0 (Below w.heap.size w w'))
              case atStart => exact ⟨(0), (0), (by first | rfl | (simp; done) | (simp [*]; done)), (by first | rfl | (simp; done) | (simp [*]; done)), H', ⟨Nat.le_refl _⟩, ⟨by repeat (first | (with_reducible first | exact HB.out | apply below_alloc | apply pw_below_drewN | apply below_drew1) | exact HB.out)⟩⟩
              case round =>
                clear H'
                try clear c1
                try clear p1
                try clear q1
                try clear hx1
                try clear p2
                try clear q2
                try clear hx2
                try clear c4
                try clear c4b0
                try clear c5
                try clear c6
                try clear c6b0
                try clear p6
                try clear c7
                try clear c7b0
                try clear c8
                try clear c8b0
                try clear c9
                try clear c9b0
                try clear c10
                try clear c10b0
                try clear hx196_0
                try clear hx196_1
                try clear hx196_2
                try clear hx197_0
                try clear hx197_1
                try clear hx197_2
                try clear hx198_0
                try clear hx198_1
                try clear hx198_2
                try clear hx199_0
                try clear hx199_1
                try clear hx199_2
                try clear hx200_0
                try clear hx200_1
                try clear hx200_2
                try clear p196
                try clear p197
                try clear p198
                try clear p199
                try clear p2
                try clear p200
                try clear q196
                try clear q197
                try clear q198
                try clear q199
                try clear q200
                obtain ⟨x7_3, x8_3, rfl, rfl, HA, HK3, HB⟩ := hrel
                cases gk with
                | zero => exact absurd HA.out (by simp [assessorref01_Move.l1])
                | succ k3 =>
                  have H := HA.out
                  clear HA
                  simp only [assessorref01_Move.l1] at H
                  by_cases c11 : x8_3 < (l0.length : Int)
                  · rw [if_pos c11] at H
                    have c11b0 : decide (x8_3 < (l0.length : Int)) = true := decide_eq_true c11
                    clear c11
                    have HC12 := Aside0.mk H
                    clear H
                    go_upto_region 14 with (fail)
                    repeat (go_quiet (fail); go_upto_region 14 with (fail))
                    go_cut [75] (fun v75 wc => ∃ (kq : Nat) (x75_11 : Bool), v75 = .bool x75_11 ∧ Aside0 (assessorref01_Move.j3 kq l0 a1 x7_3 x8_3 x75_11 = some r) ∧ Aside0 (kq ≤ k3) ∧ Aside0 (Below w.heap.size w wc))
                    case first =>
                      have H := HC12.out
                      clear HC12
                      by_cases c13 : 0 ≤ x8_3
                      · rw [if_pos c13] at H
                        have c13b0 : decide (0 ≤ x8_3) = true := decide_eq_true c13
                        clear c13
                        (first | rw [c13b0] | (simp only [i64_w, i32_w]; rw [c13b0]) | skip)
                        by_cases c14 : ((rd_T24 l0 x8_3).f0) ≤ a1
                        · rw [if_pos c14] at H
                          have c14b0 : decide (((rd_T24 l0 x8_3).f0) ≤ a1) = true := decide_eq_true c14
                          clear c14
                          have H' := Aside0.mk H
                          clear H
                          have p201 : 0 ≤ (x8_3 : Int) := of_decide_eq_true (by first | (with_reducible assumption) | assumption)
                          have q201 : x8_3 < (l0.length : Int) := of_decide_eq_true (by first | (with_reducible assumption) | assumption)
                          obtain ⟨ad201, e201, hx201_0, hx201_1, hx201_2⟩ := at_T24 HR0.out x8_3 p201 q201
                          cases e201
                          replace hx201_0 := (HB.out.cell (World.block_lt_of_cell? w _ hx201_0)).trans hx201_0
                          replace hx201_1 := (HB.out.cell (World.block_lt_of_cell? w _ hx201_1)).trans hx201_1
                          replace hx201_2 := (HB.out.cell (World.block_lt_of_cell? w _ hx201_2)).trans hx201_2
                          replace p201 := eq_true p201
                          replace q201 := eq_true q201
                          have p202 : 0 ≤ (x8_3 : Int) := of_decide_eq_true (by first | (with_reducible assumption) | assumption)
                          have q202 : x8_3 < (l0.length : Int) := of_decide_eq_true (by first | (with_reducible assumption) | assumption)
                          obtain ⟨ad202, e202, hx202_0, hx202_1, hx202_2⟩ := at_T24 HR0.out x8_3 p202 q202
                          obtain rfl : ad201 = ad202 := (by injection e202)
                          replace hx202_0 := (HB.out.cell (World.block_lt_of_cell? w _ hx202_0)).trans hx202_0
                          replace hx202_1 := (HB.out.cell (World.block_lt_of_cell? w _ hx202_1)).trans hx202_1
                          replace hx202_2 := (HB.out.cell (World.block_lt_of_cell? w _ hx202_2)).trans hx202_2
                          replace p202 := eq_true p202
                          replace q202 := eq_true q202
                          go_wp2
                          repeat (go_quiet (fail); try go_wp2)
                          go_meet
                          case rel => exact ⟨_, (decide (a1 < ((rd_T24 l0 x8_3).f1))), (by first | rfl | (simp; done) | (simp [*]; done)), H', ⟨by have := HJ2.out; have := HK2.out; have := HK3.out; first | omega | exact Nat.le_refl _⟩, ⟨by repeat (first | (with_reducible first | exact HB.out | apply below_alloc | apply pw_below_drewN | apply below_drew1) | exact HB.out)⟩⟩
                        · rw [if_neg c14] at H
                          have c14b0 : decide (((rd_T24 l0 x8_3).f0) ≤ a1) = false := decide_eq_false c14
                          clear c14
                          have H' := Aside0.mk H
                          clear H
                          have p201 : 0 ≤ (x8_3 : Int) := of_decide_eq_true (by first | (with_reducible assumption) | assumption)
                          have q201 : x8_3 < (l0.length : Int) := of_decide_eq_true (by first | (with_reducible assumption) | assumption)
                          obtain ⟨ad201, e201, hx201_0, hx201_1, hx201_2⟩ := at_T24 HR0.out x8_3 p201 q201
                          cases e201
                          replace hx201_0 := (HB.out.cell (World.block_lt_of_cell? w _ hx201_0)).trans hx201_0
                          replace hx201_1 := (HB.out.cell (World.block_lt_of_cell? w _ hx201_1)).trans hx201_1
                          replace hx201_2 := (HB.out.cell (World.block_lt_of_cell? w _ hx201_2)).trans hx201_2
                          replace p201 := eq_true p201
                          replace q201 := eq_true q201
                          go_wp2
                          repeat (go_quiet (fail); try go_wp2)
                          go_meet
                          case rel => exact ⟨_, (false), (by first | rfl | (simp; done) | (simp [*]; done)), H', ⟨by have := HJ2.out; have := HK2.out; have := HK3.out; first | omega | exact Nat.le_refl _⟩, ⟨by repeat (first | (with_reducible first | exact HB.out | apply below_alloc | apply pw_below_drewN | apply below_drew1) | exact HB.out)⟩⟩
                      · rw [if_neg c13] at H
                        exact absurd H (by simp)
                    case rest =>
                      clear HC12
                      try clear c1
                      try clear p1
                      try clear q1
                      try clear hx1
                      try clear p2
                      try clear q2
                      try clear hx2
                      try clear c4
                      try clear c4b0
                      try clear c5
                      try clear c6
                      try clear c6b0
                      try clear p6
                      try clear c7
                      try clear c7b0
                      try clear c8
                      try clear c8b0
                      try clear c9
                      try clear c9b0
                      try clear c10
                      try clear c10b0
                      try clear c11
                      try clear c11b0
                      try clear c13
                      try clear c13b0
                      try clear c14
                      try clear c14b0
                      try clear hx196_0
                      try clear hx196_1
                      try clear hx196_2
                      try clear hx197_0
                      try clear hx197_1
                      try clear hx197_2
                      try clear hx198_0
                      try clear hx198_1
                      try clear hx198_2
                      try clear hx199_0
                      try clear hx199_1
                      try clear hx199_2
                      try clear hx200_0
                      try clear hx200_1
                      try clear hx200_2
                      try clear hx201_0
                      try clear hx201_1
                      try clear hx201_2
                      try clear hx202_0
                      try clear hx202_1
                      try clear hx202_2
                      try clear p1
                      try clear p196
                      try clear p197
                      try clear p198
                      try clear p199
                      try clear p2
                      try clear p200
                      try clear p201
                      try clear p202
                      try clear p6
                      try clear q1
                      try clear q196
                      try clear q197
                      try clear q198
                      try clear q199
                      try clear q2
                      try clear q200
                      try clear q201
                      try clear q202
                      obtain ⟨kq, x75_11, rfl, HA, HJ11, HB⟩ := hcut
                      cases kq with
                      | zero => exact absurd HA.out (by simp [assessorref01_Move.j3])
                      | succ kj11 =>
                        have H := HA.out
                        clear HA
                        simp only [assessorref01_Move.j3] at H
                        by_cases c15 : x75_11 = true
                        · subst c15
                          have H1 : (if 0 ≤ x8_3 then (if x8_3 < (l0.length : Int) then (some (wrap64 ((wrap64 (((rd_T24 l0 x8_3).f0) + x7_3)) + (mn (wrap64 (a1 - ((rd_T24 l0 x8_3).f0))) (((rd_T24 l0 x8_3).f2).size : Int))))) else (none)) else (none)) = some r := by rw [if_pos rfl] at H; exact H
                          clear H
                          have H := H1
                          clear H1
                          by_cases c16 : 0 ≤ x8_3
                          · rw [if_pos c16] at H
                            have c16b0 : decide (0 ≤ x8_3) = true := decide_eq_true c16
                            clear c16
                            by_cases c17 : x8_3 < (l0.length : Int)
                            · rw [if_pos c17] at H
                              have c17b0 : decide (x8_3 < (l0.length : Int)) = true := decide_eq_true c17
                              clear c17
                              obtain ⟨ji18, hji18⟩ : ∃ j_ : Int, (mn (wrap64 (a1 - ((rd_T24 l0 x8_3).f0))) (((rd_T24 l0 x8_3).f2).size : Int)) = j_ := ⟨_, rfl⟩
                              replace H : (some (wrap64 ((wrap64 (((rd_T24 l0 x8_3).f0) + x7_3)) + (ji18)))) = some r := by first | (rw [hji18] at H; exact H) | (simp only [hji18] at H ⊢; exact H)
                              have hji18_ : (if (((rd_T24 l0 x8_3).f2).size : Int) < (wrap64 (a1 - ((rd_T24 l0 x8_3).f0))) then (((rd_T24 l0 x8_3).f2).size : Int) else (wrap64 (a1 - ((rd_T24 l0 x8_3).f0)))) = ji18 := hji18
                              obtain rfl := Option.some.inj H
                              have p203 : 0 ≤ (x8_3 : Int) := of_decide_eq_true (by first | (with_reducible assumption) | assumption)
                              have q203 : x8_3 < (l0.length : Int) := of_decide_eq_true (by first | (with_reducible assumption) | assumption)
                              obtain ⟨ad203, e203, hx203_0, hx203_1, hx203_2⟩ := at_T24 HR0.out x8_3 p203 q203
                              cases e203
                              replace hx203_0 := (HB.out.cell (World.block_lt_of_cell? w _ hx203_0)).trans hx203_0
                              replace hx203_1 := (HB.out.cell (World.block_lt_of_cell? w _ hx203_1)).trans hx203_1
                              replace hx203_2 := (HB.out.cell (World.block_lt_of_cell? w _ hx203_2)).trans hx203_2
                              replace p203 := eq_true p203
                              replace q203 := eq_true q203
                              have p204 : 0 ≤ (x8_3 : Int) := of_decide_eq_true (by first | (with_reducible assumption) | assumption)
                              have q204 : x8_3 < (l0.length : Int) := of_decide_eq_true (by first | (with_reducible assumption) | assumption)
                              obtain ⟨ad204, e204, hx204_0, hx204_1, hx204_2⟩ := at_T24 HR0.out x8_3 p204 q204
                              obtain rfl : ad203 = ad204 := (by injection e204)
                              replace hx204_0 := (HB.out.cell (World.block_lt_of_cell? w _ hx204_0)).trans hx204_0
                              replace hx204_1 := (HB.out.cell (World.block_lt_of_cell? w _ hx204_1)).trans hx204_1
                              replace hx204_2 := (HB.out.cell (World.block_lt_of_cell? w _ hx204_2)).trans hx204_2
                              replace p204 := eq_true p204
                              replace q204 := eq_true q204
                              have p205 : 0 ≤ (x8_3 : Int) := of_decide_eq_true (by first | (with_reducible assumption) | assumption)
                              have q205 : x8_3 < (l0.length : Int) := of_decide_eq_true (by first | (with_reducible assumption) | assumption)
                              obtain ⟨ad205, e205, hx205_0, hx205_1, hx205_2⟩ := at_T24 HR0.out x8_3 p205 q205
                              obtain rfl : ad203 = ad205 := (by injection e205)
                              replace hx205_0 := (HB.out.cell (World.block_lt_of_cell? w _ hx205_0)).trans hx205_0
                              replace hx205_1 := (HB.out.cell (World.block_lt_of_cell? w _ hx205_1)).trans hx205_1
                              replace hx205_2 := (HB.out.cell (World.block_lt_of_cell? w _ hx205_2)).trans hx205_2
                              replace p205 := eq_true p205
                              replace q205 := eq_true q205
                              go_wp2
                              repeat (go_quiet (fail); try go_wp2)
                              go_ret
                              exact ⟨by first | rfl | (simp [errW_none, errW_some] <;> rfl) | (simp only [← hji18]; first | rfl | (simp [errW_none, errW_some] <;> rfl)) | (simp [*, errW_none, errW_some] <;> rfl), by repeat (first | (with_reducible first | exact HB.out | apply below_alloc | apply pw_below_drewN | apply below_drew1) | exact HB.out)⟩
                            · rw [if_neg c17] at H
                              exact absurd H (by simp)
                          · rw [if_neg c16] at H
                            exact absurd H (by simp)
                        · replace c15 := Bool.eq_false_iff.mpr c15
                          subst c15
                          have H1 : (if 0 ≤ x8_3 then (if x8_3 < (l0.length : Int) then (if ((rd_T24 l0 x8_3).f1) ≤ a1 then (assessorref01_Move.l1 kj11 l0 a1 (wrap64 ((wrap64 (x7_3 + (((rd_T24 l0 x8_3).f2).size : Int))) - (wrap64 (((rd_T24 l0 x8_3).f1) - ((rd_T24 l0 x8_3).f0))))) (wrap64 (x8_3 + 1))) else (assessorref01_Move.l1 kj11 l0 a1 x7_3 (wrap64 (x8_3 + 1)))) else (none)) else (none)) = some r := by rw [if_neg (show ¬ (false = true) by decide)] at H; exact H
                          clear H
                          have H := H1
                          clear H1
                          by_cases c19 : 0 ≤ x8_3
                          · rw [if_pos c19] at H
                            have c19b0 : decide (0 ≤ x8_3) = true := decide_eq_true c19
                            clear c19
                            by_cases c20 : x8_3 < (l0.length : Int)
                            · rw [if_pos c20] at H
                              have c20b0 : decide (x8_3 < (l0.length : Int)) = true := decide_eq_true c20
                              clear c20
                              by_cases c21 : ((rd_T24 l0 x8_3).f1) ≤ a1
                              · rw [if_pos c21] at H
                                have c21b0 : decide (((rd_T24 l0 x8_3).f1) ≤ a1) = true := decide_eq_true c21
                                clear c21
                                have H' := Aside0.mk H
                                clear H
                                have p206 : 0 ≤ (x8_3 : Int) := of_decide_eq_true (by first | (with_reducible assumption) | assumption)
                                have q206 : x8_3 < (l0.length : Int) := of_decide_eq_true (by first | (with_reducible assumption) | assumption)
                                obtain ⟨ad206, e206, hx206_0, hx206_1, hx206_2⟩ := at_T24 HR0.out x8_3 p206 q206
                                cases e206
                                replace hx206_0 := (HB.out.cell (World.block_lt_of_cell? w _ hx206_0)).trans hx206_0
                                replace hx206_1 := (HB.out.cell (World.block_lt_of_cell? w _ hx206_1)).trans hx206_1
                                replace hx206_2 := (HB.out.cell (World.block_lt_of_cell? w _ hx206_2)).trans hx206_2
                                replace p206 := eq_true p206
                                replace q206 := eq_true q206
                                have p207 : 0 ≤ (x8_3 : Int) := of_decide_eq_true (by first | (with_reducible assumption) | assumption)
                                have q207 : x8_3 < (l0.length : Int) := of_decide_eq_true (by first | (with_reducible assumption) | assumption)
                                obtain ⟨ad207, e207, hx207_0, hx207_1, hx207_2⟩ := at_T24 HR0.out x8_3 p207 q207
                                obtain rfl : ad206 = ad207 := (by injection e207)
                                replace hx207_0 := (HB.out.cell (World.block_lt_of_cell? w _ hx207_0)).trans hx207_0
                                replace hx207_1 := (HB.out.cell (World.block_lt_of_cell? w _ hx207_1)).trans hx207_1
                                replace hx207_2 := (HB.out.cell (World.block_lt_of_cell? w _ hx207_2)).trans hx207_2
                                replace p207 := eq_true p207
                                replace q207 := eq_true q207
                                have p208 : 0 ≤ (x8_3 : Int) := of_decide_eq_true (by first | (with_reducible assumption) | assumption)
                                have q208 : x8_3 < (l0.length : Int) := of_decide_eq_true (by first | (with_reducible assumption) | assumption)
                                obtain ⟨ad208, e208, hx208_0, hx208_1, hx208_2⟩ := at_T24 HR0.out x8_3 p208 q208
                                obtain rfl : ad206 = ad208 := (by injection e208)
                                replace hx208_0 := (HB.out.cell (World.block_lt_of_cell? w _ hx208_0)).trans hx208_0
                                replace hx208_1 := (HB.out.cell (World.block_lt_of_cell? w _ hx208_1)).trans hx208_1
                                replace hx208_2 := (HB.out.cell (World.block_lt_of_cell? w _ hx208_2)).trans hx208_2
                                replace p208 := eq_true p208
                                replace q208 := eq_true q208
                                have p209 : 0 ≤ (x8_3 : Int) := of_decide_eq_true (by first | (with_reducible assumption) | assumption)
                                have q209 : x8_3 < (l0.length : Int) := of_decide_eq_true (by first | (with_reducible assumption) | assumption)
                                obtain ⟨ad209, e209, hx209_0, hx209_1, hx209_2⟩ := at_T24 HR0.out x8_3 p209 q209
                                obtain rfl : ad206 = ad209 := (by injection e209)
                                replace hx209_0 := (HB.out.cell (World.block_lt_of_cell? w _ hx209_0)).trans hx209_0
                                replace hx209_1 := (HB.out.cell (World.block_lt_of_cell? w _ hx209_1)).trans hx209_1
                                replace hx209_2 := (HB.out.cell (World.block_lt_of_cell? w _ hx209_2)).trans hx209_2
                                replace p209 := eq_true p209
                                replace q209 := eq_true q209
                                go_wp2
                                repeat (go_quiet (fail); try go_wp2)
                                go_roundg kj11
                                case measure => have := HJ2.out; have := HK2.out; have := HK3.out; have := HJ11.out; omega
                                case rel => exact ⟨(wrap64 ((wrap64 (x7_3 + (((rd_T24 l0 x8_3).f2).size : Int))) - (wrap64 (((rd_T24 l0 x8_3).f1) - ((rd_T24 l0 x8_3).f0))))), (wrap64 (x8_3 + 1)), (by first | rfl | (simp; done) | (simp [*]; done)), (by first | rfl | (simp; done) | (simp [*]; done)), H', ⟨by have := HJ2.out; have := HK2.out; have := HK3.out; have := HJ11.out; omega⟩, ⟨by repeat (first | (with_reducible first | exact HB.out | apply below_alloc | apply pw_below_drewN | apply below_drew1) | exact HB.out)⟩⟩
                              · rw [if_neg c21] at H
                                have c21b0 : decide (((rd_T24 l0 x8_3).f1) ≤ a1) = false := decide_eq_false c21
                                clear c21
                                have H' := Aside0.mk H
                                clear H
                                have p206 : 0 ≤ (x8_3 : Int) := of_decide_eq_true (by first | (with_reducible assumption) | assumption)
                                have q206 : x8_3 < (l0.length : Int) := of_decide_eq_true (by first | (with_reducible assumption) | assumption)
                                obtain ⟨ad206, e206, hx206_0, hx206_1, hx206_2⟩ := at_T24 HR0.out x8_3 p206 q206
                                cases e206
                                replace hx206_0 := (HB.out.cell (World.block_lt_of_cell? w _ hx206_0)).trans hx206_0
                                replace hx206_1 := (HB.out.cell (World.block_lt_of_cell? w _ hx206_1)).trans hx206_1
                                replace hx206_2 := (HB.out.cell (World.block_lt_of_cell? w _ hx206_2)).trans hx206_2
                                replace p206 := eq_true p206
                                replace q206 := eq_true q206
                                go_wp2
                                repeat (go_quiet (fail); try go_wp2)
                                go_roundg kj11
                                case measure => have := HJ2.out; have := HK2.out; have := HK3.out; have := HJ11.out; omega
                                case rel => exact ⟨(x7_3), (wrap64 (x8_3 + 1)), (by first | rfl | (simp; done) | (simp [*]; done)), (by first | rfl | (simp; done) | (simp [*]; done)), H', ⟨by have := HJ2.out; have := HK2.out; have := HK3.out; have := HJ11.out; omega⟩, ⟨by repeat (first | (with_reducible first | exact HB.out | apply below_alloc | apply pw_below_drewN | apply below_drew1) | exact HB.out)⟩⟩
                            · rw [if_neg c20] at H
                              exact absurd H (by simp)
                          · rw [if_neg c19] at H
                            exact absurd H (by simp)
                  · rw [if_neg c11] at H
                    have c11b0 : decide (x8_3 < (l0.length : Int)) = false := decide_eq_false c11
                    clear c11
                    obtain rfl := Option.some.inj H
                    go_wp2
                    repeat (go_quiet (fail); try go_wp2)
                    go_ret
                    exact ⟨by first | rfl | (simp [errW_none, errW_some] <;> rfl) | (simp [*, errW_none, errW_some] <;> rfl), by repeat (first | (with_reducible first | exact HB.out | apply below_alloc | apply pw_below_drewN | apply below_drew1) | exact HB.out)⟩

end Go.Proofs.Ytggcbcleocamlaa.P
