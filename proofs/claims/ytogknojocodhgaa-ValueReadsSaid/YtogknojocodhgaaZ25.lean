-- Texts of this claim, put together and cut down to what is used (trim.py, a program of this session).
import Derived.Test.YtogknojocodhgaaZ2
import Derived.Test.YtogknojocodhgaaZ3
import Derived.Test.YtogknojocodhgaaZ21
section
namespace Go.Proofs.Ytogknojocodhgaa.P
open Go.RowKit Go.Proofs.YtogknojocodhgaaW.PrintWords Go.Proofs.YtogknojocodhgaaW.PrintLast Go.Proofs.YtogknojocodhgaaW.PrintMore
attribute [local go_sem] max2_int min2_int max_two min_two max_three min_three max_four min_four   -- for this text's walks alone
set_option linter.unusedVariables false
set_option linter.unusedSimpArgs false
mutual
def value_Valid.j0 : Nat → Int → List (S57) → List Int → Bool → Int → Int → ByteArray → Option (Bool)
  | 0, _, _, _, _, _, _, _ => none
  | k + 1, x0, x2, x3, x20, x188000, x188001, x188002 => if x20 = true then (some false) else ((types_Scalars.f x2 (([(⟨x188000, x188001, x188002⟩ : S39)] : List (S39)))).bind fun t193 => (if (t193.length : Int) = (x3.length : Int) then (value_Valid.l0 k x0 t193 x3 (x3.length : Int) 0) else (some false)))
def value_Valid.l0 : Nat → Int → List (S39) → List Int → Int → Int → Option (Bool)
  | 0, _, _, _, _, _ => none
  | k + 1, x0, x9, x30, x31, x32 => if x32 < x31 then (if 0 ≤ x32 then (if x32 < (x30.length : Int) then (if x32 < (x9.length : Int) then (if ((rd_T39 x9 x32).f0) = 2 then ((value_isBool.f (rd x30 x32)).bind fun t198 => (if t198 = true then ((value_isInt.f x0 (rd x30 x32)).bind fun t199 => (if t199 = true then (value_Valid.l0 k x0 x9 x30 x31 (wrap64 (x32 + 1))) else (some false))) else (some false))) else ((value_isInt.f x0 (rd x30 x32)).bind fun t200 => (if t200 = true then (value_Valid.l0 k x0 x9 x30 x31 (wrap64 (x32 + 1))) else (some false)))) else (none)) else (none)) else (none)) else (some true)
end
def value_Valid.f (k : Nat) (a0 : Int) (a1_0 : Int) (a1_1 : Int) (a1_2 : ByteArray) (l2 : List (S57)) (l3 : List Int) : Option (Bool) := (value_isWidth.f a0).bind fun t188 => (if t188 = true then ((types_Valid.f a1_0 a1_1 a1_2 l2).bind fun t189 => (value_Valid.j0 k a0 l2 l3 (!t189) a1_0 a1_1 a1_2)) else (value_Valid.j0 k a0 l2 l3 true a1_0 a1_1 a1_2))
theorem value_Valid.mono_l : ∀ k, (∀ y0 y1 y2 y3 y4 y5 y6, LeO (value_Valid.j0 k y0 y1 y2 y3 y4 y5 y6) (value_Valid.j0 (k + 1) y0 y1 y2 y3 y4 y5 y6)) ∧ (∀ y0 y1 y2 y3 y4, LeO (value_Valid.l0 k y0 y1 y2 y3 y4) (value_Valid.l0 (k + 1) y0 y1 y2 y3 y4))
  | 0 => ⟨fun _ _ _ _ _ _ _ r h => by simp [value_Valid.j0] at h, fun _ _ _ _ _ r h => by simp [value_Valid.l0] at h⟩
  | k + 1 => by
    obtain ⟨ih0, ih1⟩ := value_Valid.mono_l k
    refine ⟨?_, ?_⟩
    · intro y0 y1 y2 y3 y4 y5 y6
      unfold value_Valid.j0
      repeat' first
      | (with_reducible exact ih0 _ _ _ _ _ _ _)
      | (with_reducible exact ih1 _ _ _ _ _)
      | (with_reducible exact LeO.refl _)
      | (with_reducible exact LeO.none _)
      | (with_reducible refine LeO.ite ?_ ?_)
      | (with_reducible refine LeO.bind ?_ (fun _ => ?_))
      | exact ih0 _ _ _ _ _ _ _
      | exact ih1 _ _ _ _ _
      | exact LeO.none _
      | refine LeO.ite ?_ ?_
      | refine LeO.bind ?_ (fun _ => ?_)
    · intro y0 y1 y2 y3 y4
      unfold value_Valid.l0
      repeat' first
      | (with_reducible exact ih0 _ _ _ _ _ _ _)
      | (with_reducible exact ih1 _ _ _ _ _)
      | (with_reducible exact LeO.refl _)
      | (with_reducible exact LeO.none _)
      | (with_reducible refine LeO.ite ?_ ?_)
      | (with_reducible refine LeO.bind ?_ (fun _ => ?_))
      | exact ih0 _ _ _ _ _ _ _
      | exact ih1 _ _ _ _ _
      | exact LeO.none _
      | refine LeO.ite ?_ ?_
      | refine LeO.bind ?_ (fun _ => ?_)
theorem value_Valid.mono : ∀ a0 a1 a2 a3 a4 a5 k, LeO (value_Valid.f k a0 a1 a2 a3 a4 a5) (value_Valid.f (k + 1) a0 a1 a2 a3 a4 a5) := by
  intro a0 a1 a2 a3 a4 a5 k
  obtain ⟨ih0, ih1⟩ := value_Valid.mono_l k
  unfold value_Valid.f
  repeat' first
      | (with_reducible exact ih0 _ _ _ _ _ _ _)
      | (with_reducible exact ih1 _ _ _ _ _)
      | (with_reducible exact LeO.refl _)
      | (with_reducible exact LeO.none _)
      | (with_reducible refine LeO.ite ?_ ?_)
      | (with_reducible refine LeO.bind ?_ (fun _ => ?_))
      | exact ih0 _ _ _ _ _ _ _
      | exact ih1 _ _ _ _ _
      | exact LeO.none _
      | refine LeO.ite ?_ ?_
      | refine LeO.bind ?_ (fun _ => ?_)
set_option maxHeartbeats 8000000 in
set_option maxRecDepth 100000 in
theorem value_Valid.calls (k : Nat) (a0 : Int) (a1_0 : Int) (a1_1 : Int) (a1_2 : ByteArray) (A2 : Option Addr) (c2 : Nat) (l2 : List (S57)) (A3 : Option Addr) (c3 : Nat) (l3 : List Int) (r : Bool) (w : World) (hr2 : Kd.C k57 w A2 l2.length l2) (hc2 : l2.length ≤ c2) (hr3 : Kd.C (Kd.int .i64) w A3 l3.length l3) (hc3 : l3.length ≤ c3) (h : value_Valid.f k a0 a1_0 a1_1 a1_2 l2 l3 = some r) :
    Calls Try.prog 25 #[.int .i64 a0, .agg #[.int .i64 a1_0, .int .i64 a1_1, .string a1_2], .slice A2 l2.length c2, .slice A3 l3.length c3] w fun e w' => e = .returned (.bool r) ∧ Below w.heap.size w w' := by
  have hu39 := Try.underlying39
  have HR2 := Aside0.mk hr2
  have HC2 := Aside0.mk hc2
  clear hr2 hc2
  have HR3 := Aside0.mk hr3
  have HC3 := Aside0.mk hc3
  clear hr3 hc3
  have HB := Aside0.mk (Below.refl w.heap.size w)
  have H : ((value_isWidth.f a0).bind fun t188 => (if t188 = true then ((types_Valid.f a1_0 a1_1 a1_2 l2).bind fun t189 => (value_Valid.j0 k a0 l2 l3 (!t189) a1_0 a1_1 a1_2)) else (value_Valid.j0 k a0 l2 l3 true a1_0 a1_1 a1_2))) = some r := h
  clear h
  have HC5 := Aside0.mk H
  clear H
  go_enter Try.func25, Try.ntmps25
  go_upto_region 1 with (first | ((with_reducible refine gate_dst (N := 5) rfl ?_); refine box_event ?hg (N := 5) ?hd (cs := #[.int .i64 a1_0, .int .i64 a1_1, .string a1_2]) (t := 39) ?hr ?_; (case hd => rfl); (case hg => rfl); (case hr => first | (go_simp; done) | (go_simp; rfl)); intro gb187 hg w6 hbox hb; have n0_ := Aside0.mk (below_step (by repeat (first | (with_reducible first | exact HB.out | apply below_alloc | apply pw_below_drewN | apply below_drew1) | exact HB.out)) hb); have n1_ := Aside0.mk (hbox); have n2_ := Aside0.mk ((by rw [hg]; exact (below_size (by repeat (first | (with_reducible first | exact HB.out | apply below_alloc | apply pw_below_drewN | apply below_drew1) | exact HB.out))) : w.heap.size ≤ gb187)); have n3_ := Aside0.mk ((by rw [hg]; exact (below_size (by repeat (first | (with_reducible first | exact HB.out | apply below_alloc | apply pw_below_drewN | apply below_drew1) | exact HB.out))) : w.heap.size ≤ gb187)); clear HB; have HB := n0_; have BK187 := n1_; have GW187 := n2_; have GE187 := n3_; clear n0_ n1_ n2_ n3_; clear hb hbox hg))
  (try simp only [Act.put, List.setIfInBounds_toArray, List.set_cons_zero, List.set_cons_succ])
  go_cut [20] (fun v20 wc => ∃ (kq : Nat) (x20_4 : Bool), v20 = .bool x20_4 ∧ Aside0 (value_Valid.j0 kq a0 l2 l3 x20_4 a1_0 a1_1 a1_2 = some r) ∧ Aside0 (kq ≤ k) ∧ Aside0 (wc.heap[gb187]? = some (.cells #[.int .i64 a1_0, .int .i64 a1_1, .string a1_2] 39 (0, 0))) ∧ Aside0 (Below w.heap.size w wc))
  case first =>
    have H := HC5.out
    clear HC5
    replace H := Option.bind_eq_some_iff.mp H
    obtain ⟨t188, A70, H⟩ := H
    replace H : (if t188 = true then ((types_Valid.f a1_0 a1_1 a1_2 l2).bind fun t189 => (value_Valid.j0 k a0 l2 l3 (!t189) a1_0 a1_1 a1_2)) else (value_Valid.j0 k a0 l2 l3 true a1_0 a1_1 a1_2)) = some r := H
    have A7 := Aside0.mk A70
    clear A70
    by_cases c8 : t188 = true
    · subst c8
      have H1 : ((types_Valid.f a1_0 a1_1 a1_2 l2).bind fun t189 => (value_Valid.j0 k a0 l2 l3 (!t189) a1_0 a1_1 a1_2)) = some r := by rw [if_pos rfl] at H; exact H
      clear H
      have H := H1
      clear H1
      replace H := Option.bind_eq_some_iff.mp H
      obtain ⟨t189, A90, H⟩ := H
      replace H : (value_Valid.j0 k a0 l2 l3 (!t189) a1_0 a1_1 a1_2) = some r := H
      have A9 := Aside0.mk A90
      clear A90
      have H' := Aside0.mk H
      clear H
      go_wp2_with (first | ((with_reducible refine gate_callee (f := 32) rfl ?_); refine goesL_ (some 13) rfl rfl Try.func32 (by kernel_rfl) rfl #[.int .i64 a0] rfl (by (try simp only [List.map_toArray, List.map_cons, List.map_nil]); first | done | rfl | (simp only [List.length_drop, List.length_take]; rfl)) ?_; (with_reducible refine (value_isWidth.calls a0 true _ A7.out).mono ?_); rintro e w' ⟨rfl, ⟨nd, rfl⟩⟩; refine ⟨_, rfl, ?_⟩; have hcz10_0 : w6.cell? ⟨gb187, 0, none⟩ = some (.int .i64 a1_0) := (blk_cell BK187.out 0).trans rfl; have hcz10_1 : w6.cell? ⟨gb187, 1, none⟩ = some (.int .i64 a1_1) := (blk_cell BK187.out 1).trans rfl; have hcz10_2 : w6.cell? ⟨gb187, 2, none⟩ = some (.string a1_2) := (blk_cell BK187.out 2).trans rfl; have hfz10_0 := blk_frozen BK187.out 0; have hfz10_1 := blk_frozen BK187.out 1; have hfz10_2 := blk_frozen BK187.out 2) | (go_at_call 44; (with_reducible refine (types_Valid.calls a1_0 a1_1 a1_2 _ _ l2 t189 _ ?side1 ?side2 A9.out).mono ?_); (case side1 => repeat (first | exact (Kd.C_below HR2.out (by repeat (first | (with_reducible first | exact HB.out | apply below_alloc | apply pw_below_drewN | apply below_drew1 | refine below_set ?_ GE187.out) | exact HB.out))) | (with_reducible refine Kd.C_alloc ?_ _) | (with_reducible refine Kd.C_drewN ?_ _) | (with_reducible refine Kd.C_drew ?_))); (case side2 => exact HC2.out); rintro e w11 ⟨rfl, hb⟩; have n0_ := Aside0.mk (blk_below (g := gb187) (o := .cells #[.int .i64 a1_0, .int .i64 a1_1, .string a1_2] 39 (0, 0)) (by (with_reducible repeat (first | refine blk_drewN ?_ _ | refine blk_drew ?_ | refine blk_alloc ?_ _)); exact BK187.out) hb); have n1_ := Aside0.mk (below_step (by repeat (first | (with_reducible first | exact HB.out | apply below_alloc | apply pw_below_drewN | apply below_drew1 | refine below_set ?_ GE187.out) | exact HB.out)) hb); clear BK187; clear HB; have BK187 := n0_; have HB := n1_; clear n0_ n1_; (try clear hb); (try clear hb2); (try clear hk); (try clear hi)))
      go_meet
      case rel => exact ⟨_, (!t189), (by first | rfl | (simp; done) | (simp [*]; done)), H', ⟨by first | omega | exact Nat.le_refl _⟩, ⟨by (with_reducible repeat (first | refine blk_drewN ?_ _ | refine blk_drew ?_ | refine blk_alloc ?_ _)); exact BK187.out⟩, ⟨by repeat (first | (with_reducible first | exact HB.out | apply below_alloc | apply pw_below_drewN | apply below_drew1 | refine below_set ?_ GE187.out) | exact HB.out)⟩⟩
    · replace c8 := Bool.eq_false_iff.mpr c8
      subst c8
      have H1 : (value_Valid.j0 k a0 l2 l3 true a1_0 a1_1 a1_2) = some r := by rw [if_neg (show ¬ (false = true) by decide)] at H; exact H
      clear H
      have H := H1
      clear H1
      have H' := Aside0.mk H
      clear H
      go_wp2_with (first | ((with_reducible refine gate_callee (f := 32) rfl ?_); refine goesL_ (some 13) rfl rfl Try.func32 (by kernel_rfl) rfl #[.int .i64 a0] rfl (by (try simp only [List.map_toArray, List.map_cons, List.map_nil]); first | done | rfl | (simp only [List.length_drop, List.length_take]; rfl)) ?_; (with_reducible refine (value_isWidth.calls a0 false _ A7.out).mono ?_); rintro e w' ⟨rfl, ⟨nd, rfl⟩⟩; refine ⟨_, rfl, ?_⟩))
      go_meet
      case rel => exact ⟨_, (true), (by first | rfl | (simp; done) | (simp [*]; done)), H', ⟨by first | omega | exact Nat.le_refl _⟩, ⟨by (with_reducible repeat (first | refine blk_drewN ?_ _ | refine blk_drew ?_ | refine blk_alloc ?_ _)); exact BK187.out⟩, ⟨by repeat (first | (with_reducible first | exact HB.out | apply below_alloc | apply pw_below_drewN | apply below_drew1 | refine below_set ?_ GE187.out) | exact HB.out)⟩⟩
  case rest =>
    clear HC5
    try clear c2
    try clear p2
    try clear c3
    try clear c8
    try clear hcz10_0
    try clear hcz10_1
    try clear hcz10_2
    try clear hfz10_0
    try clear hfz10_1
    try clear hfz10_2
    obtain ⟨kq, x20_4, rfl, HA, HJ4, BK187, HB⟩ := hcut
    cases kq with
    | zero => exact absurd HA.out (by simp [value_Valid.j0])
    | succ kj4 =>
      have H := HA.out
      clear HA
      simp only [value_Valid.j0] at H
      by_cases c12 : x20_4 = true
      · subst c12
        have H1 : (some false) = some r := by rw [if_pos rfl] at H; exact H
        clear H
        have H := H1
        clear H1
        obtain rfl := Option.some.inj H
        go_wp2
        go_ret
        exact ⟨by first | rfl | (simp [errW_none, errW_some] <;> rfl) | (simp [*, errW_none, errW_some] <;> rfl), by repeat (first | (with_reducible first | exact HB.out | apply below_alloc | apply pw_below_drewN | apply below_drew1 | refine below_set ?_ GE187.out) | exact HB.out)⟩
      · replace c12 := Bool.eq_false_iff.mpr c12
        subst c12
        have H1 : ((types_Scalars.f l2 (([(⟨a1_0, a1_1, a1_2⟩ : S39)] : List (S39)))).bind fun t193 => (if (t193.length : Int) = (l3.length : Int) then (value_Valid.l0 kj4 a0 t193 l3 (l3.length : Int) 0) else (some false))) = some r := by rw [if_neg (show ¬ (false = true) by decide)] at H; exact H
        clear H
        have H := H1
        clear H1
        obtain ⟨y190, hy190⟩ : ∃ y_ : List (S39), y_ = (([(⟨a1_0, a1_1, a1_2⟩ : S39)] : List (S39))) := ⟨_, rfl⟩
        replace H : ((types_Scalars.f l2 y190).bind fun t193 => (if (t193.length : Int) = (l3.length : Int) then (value_Valid.l0 kj4 a0 t193 l3 (l3.length : Int) 0) else (some false))) = some r := by first | (rw [hy190]; with_reducible exact H) | (have H2_ := (Option.bind_some _ _).symm.trans H; rw [hy190]; with_reducible exact H2_) | (have H2_ := (Option.bind_some _ _).symm.trans H; with_reducible exact H2_) | with_reducible exact H | (rw [hy190]; exact H) | exact H
        have Ny190 := Aside0.mk hy190
        clear hy190
        replace H := Option.bind_eq_some_iff.mp H
        obtain ⟨t193, A130, H⟩ := H
        replace H : (if (t193.length : Int) = (l3.length : Int) then (value_Valid.l0 kj4 a0 t193 l3 (l3.length : Int) 0) else (some false)) = some r := H
        have A13 := Aside0.mk A130
        clear A130
        by_cases c14 : (t193.length : Int) = (l3.length : Int)
        · rw [if_pos c14] at H
          have c14b0 : ((t193.length : Int) == (l3.length : Int)) = true := beq_iff_eq.mpr c14
          have c14b1 : ((t193.length : Int) != (l3.length : Int)) = false := bne_eq_false_iff_eq.mpr c14
          have c14b2 : (t193.length == l3.length) = true := by first | simpa using c14 | (simp at c14 ⊢; omega)
          clear c14
          have H' := Aside0.mk H
          clear H
          have hcz15_0 : wc.cell? ⟨gb187, 0, none⟩ = some (.int .i64 a1_0) := (blk_cell BK187.out 0).trans rfl
          have hcz15_1 : wc.cell? ⟨gb187, 1, none⟩ = some (.int .i64 a1_1) := (blk_cell BK187.out 1).trans rfl
          have hcz15_2 : wc.cell? ⟨gb187, 2, none⟩ = some (.string a1_2) := (blk_cell BK187.out 2).trans rfl
          have hfz15_0 := blk_frozen BK187.out 0
          have hfz15_1 := blk_frozen BK187.out 1
          have hfz15_2 := blk_frozen BK187.out 2
          go_wp2_with (first | ((with_reducible refine gate_dst (N := 23) rfl ?_); refine Kd.R_lit k39 _ 39 ?hg (N := 23) ?hd (xs := ([(⟨a1_0, a1_1, a1_2⟩ : S39)] : List (S39))) (inner := [.int .i64 a1_0, .int .i64 a1_1, .string a1_2]) (ok := fun _ => True) (okp := fun _ => True) ?hr ?hp (fun _ hk => hk) trivial (Below.refl _ _) (Nat.le_refl _) (by simp) ?_; (case hd => rfl); (case hg => rfl); (case hr => first | (go_simp; done) | (go_simp; rfl)); (case hp => exact (Reps.c3 (show Kd.M k39 _ _ _ (⟨a1_0, a1_1, a1_2⟩ : S39) [.int .i64 a1_0, .int .i64 a1_1, .string a1_2] from (k39_mkM _ _ _ (⟨a1_0, a1_1, a1_2⟩ : S39) )) (Reps.none _ _))); intro v191 w16 ho17 hb hg_ hnew_; clear hg_ hnew_; (first | rw [← Ny190.out] at ho17 | (simp only [Int.reduceToNat] at ho17; rw [← Ny190.out] at ho17)); have n0_ := Aside0.mk (Kd.R_lower (Kd.R_newB ho17 (g := gb187) (o := .cells #[.int .i64 a1_0, .int .i64 a1_1, .string a1_2] 39 (0, 0)) (by (with_reducible repeat (first | refine blk_drewN ?_ _ | refine blk_drew ?_ | refine blk_alloc ?_ _)); exact BK187.out)) (below_size (by repeat (first | (with_reducible first | exact HB.out | apply below_alloc | apply pw_below_drewN | apply below_drew1 | refine below_set ?_ GE187.out) | exact HB.out)))); have n1_ := Aside0.mk (blk_below (g := gb187) (o := .cells #[.int .i64 a1_0, .int .i64 a1_1, .string a1_2] 39 (0, 0)) (by (with_reducible repeat (first | refine blk_drewN ?_ _ | refine blk_drew ?_ | refine blk_alloc ?_ _)); exact BK187.out) hb); have n2_ := Aside0.mk (below_step (by repeat (first | (with_reducible first | exact HB.out | apply below_alloc | apply pw_below_drewN | apply below_drew1 | refine below_set ?_ GE187.out) | exact HB.out)) hb); clear BK187; clear HB; have HO192 := n0_; have BK187 := n1_; have HB := n2_; clear n0_ n1_ n2_; clear hb ho17; obtain ⟨Ao18, co18, eo18⟩ := Kd.R_slice HO192.out; subst eo18) | ((with_reducible refine gate_callee (f := 45) rfl ?_); refine goesL_ (some 24) rfl rfl Try.func45 (by kernel_rfl) rfl #[.slice A2 l2.length c2, .slice Ao18 y190.length co18] rfl (by (try simp only [List.map_toArray, List.map_cons, List.map_nil]); first | done | rfl | (simp only [List.length_drop, List.length_take]; rfl)) ?_; (with_reducible refine (types_Scalars.calls _ _ l2 _ _ y190 t193 _ ?side1 ?side2 ?side3 ?side4 A13.out).mono ?_); (case side1 => repeat (first | exact (Kd.C_below HR2.out HB.out) | (with_reducible refine Kd.C_alloc ?_ _) | (with_reducible refine Kd.C_drewN ?_ _) | (with_reducible refine Kd.C_drew ?_))); (case side2 => exact HC2.out); (case side3 => repeat (first | exact (Kd.R_reads' HO192.out).2.2 | (with_reducible refine Kd.C_alloc ?_ _) | (with_reducible refine Kd.C_drewN ?_ _) | (with_reducible refine Kd.C_drew ?_))); (case side4 => exact (Kd.R_reads' HO192.out).2.1); rintro e w19 ⟨v194, rfl, ho0, hb⟩; refine ⟨_, rfl, ?_⟩; have n0_ := Aside0.mk (Kd.R_elder' (by (with_reducible repeat (first | apply Kd.R_alloc | apply Kd.R_drewN | apply Kd.R_drew)); exact HO192.out) (Kd.R_base ho0) hb); have n1_ := Aside0.mk (Kd.R_lower (Kd.R_newB (Kd.R_new' ho0 (Kd.R_lt (by (with_reducible repeat (first | apply Kd.R_alloc | apply Kd.R_drewN | apply Kd.R_drew)); exact HO192.out))) (g := gb187) (o := .cells #[.int .i64 a1_0, .int .i64 a1_1, .string a1_2] 39 (0, 0)) (by (with_reducible repeat (first | refine blk_drewN ?_ _ | refine blk_drew ?_ | refine blk_alloc ?_ _)); exact BK187.out)) (below_size (by repeat (first | (with_reducible first | exact HB.out | apply below_alloc | apply pw_below_drewN | apply below_drew1 | refine below_set ?_ GE187.out) | exact HB.out)))); have n2_ := Aside0.mk (blk_below (g := gb187) (o := .cells #[.int .i64 a1_0, .int .i64 a1_1, .string a1_2] 39 (0, 0)) (by (with_reducible repeat (first | refine blk_drewN ?_ _ | refine blk_drew ?_ | refine blk_alloc ?_ _)); exact BK187.out) hb); have n3_ := Aside0.mk (below_step (by repeat (first | (with_reducible first | exact HB.out | apply below_alloc | apply pw_below_drewN | apply below_drew1 | refine below_set ?_ GE187.out) | exact HB.out)) hb); clear HO192; clear BK187; clear HB; have HO192 := n0_; have HO195 := n1_; have BK187 := n2_; have HB := n3_; clear n0_ n1_ n2_ n3_; (try clear hb); (try clear hb2); (try clear hk); (try clear hi); (try clear ho0); obtain ⟨Ao20, co20, eo20⟩ := Kd.R_slice HO195.out; subst eo20))
          go_loopg [32] kj4 (fun kq v32 w' => ∃ (x32_2 : Int), v32 = .int .i64 x32_2 ∧ Aside0 (value_Valid.l0 kq a0 t193 l3 (l3.length : Int) x32_2 = some r) ∧ Aside0 (kq ≤ kj4) ∧ Aside0 (Kd.R k39 39 w' w.heap.size (fun k_ => k_ ≠ gb187) (.slice Ao20 t193.length co20) t193) ∧ Aside0 (w'.heap[gb187]? = some (.cells #[.int .i64 a1_0, .int .i64 a1_1, .string a1_2] 39 (0, 0))) ∧ Aside0 (Below w.heap.size w w'))
          case atStart => exact ⟨(0), (by first | rfl | (simp; done) | (simp [*]; done)), H', ⟨Nat.le_refl _⟩, ⟨by (with_reducible repeat (first | apply Kd.R_alloc | apply Kd.R_drewN | apply Kd.R_drew)); exact Kd.R_mono HO195.out (fun _ hk => hk.2)⟩, ⟨by (with_reducible repeat (first | refine blk_drewN ?_ _ | refine blk_drew ?_ | refine blk_alloc ?_ _)); exact BK187.out⟩, ⟨by repeat (first | (with_reducible first | exact HB.out | apply below_alloc | apply pw_below_drewN | apply below_drew1 | refine below_set ?_ GE187.out) | exact HB.out)⟩⟩
          case round =>
            clear H'
            try clear c1
            try clear c2
            try clear p2
            try clear c3
            try clear c4
            try clear c8
            try clear c12
            try clear c14
            try clear c14b0
            try clear c14b1
            try clear c14b2
            try clear hcz10_0
            try clear hcz10_1
            try clear hcz10_2
            try clear hcz15_0
            try clear hcz15_1
            try clear hcz15_2
            try clear hfz10_0
            try clear hfz10_1
            try clear hfz10_2
            try clear hfz15_0
            try clear hfz15_1
            try clear hfz15_2
            try clear p2
            obtain ⟨x32_2, rfl, HA, HK2, HO_9, BK187, HB⟩ := hrel
            cases gk with
            | zero => exact absurd HA.out (by simp [value_Valid.l0])
            | succ k2 =>
              have H := HA.out
              clear HA
              simp only [value_Valid.l0] at H
              by_cases c21 : x32_2 < (l3.length : Int)
              · rw [if_pos c21] at H
                have c21b0 : decide (x32_2 < (l3.length : Int)) = true := decide_eq_true c21
                clear c21
                by_cases c22 : 0 ≤ x32_2
                · rw [if_pos c22] at H
                  have c22b0 : decide (0 ≤ x32_2) = true := decide_eq_true c22
                  clear c22
                  by_cases c23 : x32_2 < (l3.length : Int)
                  · rw [if_pos c23] at H
                    have c23b0 : decide (x32_2 < (l3.length : Int)) = true := decide_eq_true c23
                    clear c23
                    by_cases c24 : x32_2 < (t193.length : Int)
                    · rw [if_pos c24] at H
                      have c24b0 : decide (x32_2 < (t193.length : Int)) = true := decide_eq_true c24
                      clear c24
                      by_cases c25 : ((rd_T39 t193 x32_2).f0) = 2
                      · rw [if_pos c25] at H
                        have c25b0 : (((rd_T39 t193 x32_2).f0) == 2) = true := beq_iff_eq.mpr c25
                        have c25b1 : (((rd_T39 t193 x32_2).f0) != 2) = false := bne_eq_false_iff_eq.mpr c25
                        clear c25
                        replace H := Option.bind_eq_some_iff.mp H
                        obtain ⟨t198, A260, H⟩ := H
                        replace H : (if t198 = true then ((value_isInt.f a0 (rd l3 x32_2)).bind fun t199 => (if t199 = true then (value_Valid.l0 k2 a0 t193 l3 (l3.length : Int) (wrap64 (x32_2 + 1))) else (some false))) else (some false)) = some r := H
                        have A26 := Aside0.mk A260
                        clear A260
                        by_cases c27 : t198 = true
                        · subst c27
                          have H1 : ((value_isInt.f a0 (rd l3 x32_2)).bind fun t199 => (if t199 = true then (value_Valid.l0 k2 a0 t193 l3 (l3.length : Int) (wrap64 (x32_2 + 1))) else (some false))) = some r := by rw [if_pos rfl] at H; exact H
                          clear H
                          have H := H1
                          clear H1
                          replace H := Option.bind_eq_some_iff.mp H
                          obtain ⟨t199, A280, H⟩ := H
                          replace H : (if t199 = true then (value_Valid.l0 k2 a0 t193 l3 (l3.length : Int) (wrap64 (x32_2 + 1))) else (some false)) = some r := H
                          have A28 := Aside0.mk A280
                          clear A280
                          by_cases c29 : t199 = true
                          · subst c29
                            have H1 : (value_Valid.l0 k2 a0 t193 l3 (l3.length : Int) (wrap64 (x32_2 + 1))) = some r := by rw [if_pos rfl] at H; exact H
                            clear H
                            have H := H1
                            clear H1
                            have H' := Aside0.mk H
                            clear H
                            have p196 : 0 ≤ (x32_2 : Int) := of_decide_eq_true (by first | (with_reducible assumption) | assumption)
                            have q196 : x32_2 < (l3.length : Int) := of_decide_eq_true (by first | (with_reducible assumption) | assumption)
                            obtain ⟨ad196, e196, hx196_0⟩ := Kd.at_int HR3.out x32_2 p196 q196
                            cases e196
                            replace hx196_0 := (HB.out.cell (World.block_lt_of_cell? w _ hx196_0)).trans hx196_0
                            replace p196 := eq_true p196
                            replace q196 := eq_true q196
                            have p197 : 0 ≤ (x32_2 : Int) := of_decide_eq_true (by first | (with_reducible assumption) | assumption)
                            have q197 : x32_2 < (t193.length : Int) := of_decide_eq_true (by first | (with_reducible assumption) | assumption)
                            obtain ⟨ad197, e197, hx197_0, hx197_1, hx197_2⟩ := at_T39 (Kd.R_reads' HO_9.out).2.2 x32_2 p197 q197
                            cases e197
                            replace p197 := eq_true p197
                            replace q197 := eq_true q197
                            go_wp2_with (first | (go_at_call 34; (with_reducible refine (value_isBool.calls (rd l3 x32_2) true _ A26.out).mono ?_); rintro e w' ⟨rfl, ⟨nd, rfl⟩⟩) | (go_at_call 35; (with_reducible refine (value_isInt.calls a0 (rd l3 x32_2) true _ A28.out).mono ?_); rintro e w' ⟨rfl, ⟨nd, rfl⟩⟩))
                            go_roundg k2
                            case measure => have := HJ4.out; have := HK2.out; omega
                            case rel => exact ⟨(wrap64 (x32_2 + 1)), (by first | rfl | (simp; done) | (simp [*]; done)), H', ⟨by have := HJ4.out; have := HK2.out; omega⟩, ⟨by (with_reducible repeat (first | apply Kd.R_alloc | apply Kd.R_drewN | apply Kd.R_drew)); exact HO_9.out⟩, ⟨by (with_reducible repeat (first | refine blk_drewN ?_ _ | refine blk_drew ?_ | refine blk_alloc ?_ _)); exact BK187.out⟩, ⟨by repeat (first | (with_reducible first | exact HB.out | apply below_alloc | apply pw_below_drewN | apply below_drew1 | refine below_set ?_ GE187.out) | exact HB.out)⟩⟩
                          · replace c29 := Bool.eq_false_iff.mpr c29
                            subst c29
                            have H1 : (some false) = some r := by rw [if_neg (show ¬ (false = true) by decide)] at H; exact H
                            clear H
                            have H := H1
                            clear H1
                            obtain rfl := Option.some.inj H
                            have p196 : 0 ≤ (x32_2 : Int) := of_decide_eq_true (by first | (with_reducible assumption) | assumption)
                            have q196 : x32_2 < (l3.length : Int) := of_decide_eq_true (by first | (with_reducible assumption) | assumption)
                            obtain ⟨ad196, e196, hx196_0⟩ := Kd.at_int HR3.out x32_2 p196 q196
                            cases e196
                            replace hx196_0 := (HB.out.cell (World.block_lt_of_cell? w _ hx196_0)).trans hx196_0
                            replace p196 := eq_true p196
                            replace q196 := eq_true q196
                            have p197 : 0 ≤ (x32_2 : Int) := of_decide_eq_true (by first | (with_reducible assumption) | assumption)
                            have q197 : x32_2 < (t193.length : Int) := of_decide_eq_true (by first | (with_reducible assumption) | assumption)
                            obtain ⟨ad197, e197, hx197_0, hx197_1, hx197_2⟩ := at_T39 (Kd.R_reads' HO_9.out).2.2 x32_2 p197 q197
                            cases e197
                            replace p197 := eq_true p197
                            replace q197 := eq_true q197
                            go_wp2_with (first | (go_at_call 34; (with_reducible refine (value_isBool.calls (rd l3 x32_2) true _ A26.out).mono ?_); rintro e w' ⟨rfl, ⟨nd, rfl⟩⟩) | (go_at_call 35; (with_reducible refine (value_isInt.calls a0 (rd l3 x32_2) false _ A28.out).mono ?_); rintro e w' ⟨rfl, ⟨nd, rfl⟩⟩))
                            go_ret
                            exact ⟨by first | rfl | (simp [errW_none, errW_some] <;> rfl) | (simp [*, errW_none, errW_some] <;> rfl), by repeat (first | (with_reducible first | exact HB.out | apply below_alloc | apply pw_below_drewN | apply below_drew1 | refine below_set ?_ GE187.out) | exact HB.out)⟩
                        · replace c27 := Bool.eq_false_iff.mpr c27
                          subst c27
                          have H1 : (some false) = some r := by rw [if_neg (show ¬ (false = true) by decide)] at H; exact H
                          clear H
                          have H := H1
                          clear H1
                          obtain rfl := Option.some.inj H
                          have p196 : 0 ≤ (x32_2 : Int) := of_decide_eq_true (by first | (with_reducible assumption) | assumption)
                          have q196 : x32_2 < (l3.length : Int) := of_decide_eq_true (by first | (with_reducible assumption) | assumption)
                          obtain ⟨ad196, e196, hx196_0⟩ := Kd.at_int HR3.out x32_2 p196 q196
                          cases e196
                          replace hx196_0 := (HB.out.cell (World.block_lt_of_cell? w _ hx196_0)).trans hx196_0
                          replace p196 := eq_true p196
                          replace q196 := eq_true q196
                          have p197 : 0 ≤ (x32_2 : Int) := of_decide_eq_true (by first | (with_reducible assumption) | assumption)
                          have q197 : x32_2 < (t193.length : Int) := of_decide_eq_true (by first | (with_reducible assumption) | assumption)
                          obtain ⟨ad197, e197, hx197_0, hx197_1, hx197_2⟩ := at_T39 (Kd.R_reads' HO_9.out).2.2 x32_2 p197 q197
                          cases e197
                          replace p197 := eq_true p197
                          replace q197 := eq_true q197
                          go_wp2_with (first | (go_at_call 34; (with_reducible refine (value_isBool.calls (rd l3 x32_2) false _ A26.out).mono ?_); rintro e w' ⟨rfl, ⟨nd, rfl⟩⟩))
                          go_ret
                          exact ⟨by first | rfl | (simp [errW_none, errW_some] <;> rfl) | (simp [*, errW_none, errW_some] <;> rfl), by repeat (first | (with_reducible first | exact HB.out | apply below_alloc | apply pw_below_drewN | apply below_drew1 | refine below_set ?_ GE187.out) | exact HB.out)⟩
                      · rw [if_neg c25] at H
                        have c25b0 : (((rd_T39 t193 x32_2).f0) == 2) = false := beq_eq_false_iff_ne.mpr c25
                        have c25b1 : (((rd_T39 t193 x32_2).f0) != 2) = true := bne_iff_ne.mpr c25
                        replace H := Option.bind_eq_some_iff.mp H
                        obtain ⟨t200, A300, H⟩ := H
                        replace H : (if t200 = true then (value_Valid.l0 k2 a0 t193 l3 (l3.length : Int) (wrap64 (x32_2 + 1))) else (some false)) = some r := H
                        have A30 := Aside0.mk A300
                        clear A300
                        by_cases c31 : t200 = true
                        · subst c31
                          have H1 : (value_Valid.l0 k2 a0 t193 l3 (l3.length : Int) (wrap64 (x32_2 + 1))) = some r := by rw [if_pos rfl] at H; exact H
                          clear H
                          have H := H1
                          clear H1
                          have H' := Aside0.mk H
                          clear H
                          have p196 : 0 ≤ (x32_2 : Int) := of_decide_eq_true (by first | (with_reducible assumption) | assumption)
                          have q196 : x32_2 < (l3.length : Int) := of_decide_eq_true (by first | (with_reducible assumption) | assumption)
                          obtain ⟨ad196, e196, hx196_0⟩ := Kd.at_int HR3.out x32_2 p196 q196
                          cases e196
                          replace hx196_0 := (HB.out.cell (World.block_lt_of_cell? w _ hx196_0)).trans hx196_0
                          replace p196 := eq_true p196
                          replace q196 := eq_true q196
                          have p197 : 0 ≤ (x32_2 : Int) := of_decide_eq_true (by first | (with_reducible assumption) | assumption)
                          have q197 : x32_2 < (t193.length : Int) := of_decide_eq_true (by first | (with_reducible assumption) | assumption)
                          obtain ⟨ad197, e197, hx197_0, hx197_1, hx197_2⟩ := at_T39 (Kd.R_reads' HO_9.out).2.2 x32_2 p197 q197
                          cases e197
                          replace p197 := eq_true p197
                          replace q197 := eq_true q197
                          go_wp2_with (first | (go_at_call 35; (with_reducible refine (value_isInt.calls a0 (rd l3 x32_2) true _ A30.out).mono ?_); rintro e w' ⟨rfl, ⟨nd, rfl⟩⟩))
                          go_roundg k2
                          case measure => have := HJ4.out; have := HK2.out; omega
                          case rel => exact ⟨(wrap64 (x32_2 + 1)), (by first | rfl | (simp; done) | (simp [*]; done)), H', ⟨by have := HJ4.out; have := HK2.out; omega⟩, ⟨by (with_reducible repeat (first | apply Kd.R_alloc | apply Kd.R_drewN | apply Kd.R_drew)); exact HO_9.out⟩, ⟨by (with_reducible repeat (first | refine blk_drewN ?_ _ | refine blk_drew ?_ | refine blk_alloc ?_ _)); exact BK187.out⟩, ⟨by repeat (first | (with_reducible first | exact HB.out | apply below_alloc | apply pw_below_drewN | apply below_drew1 | refine below_set ?_ GE187.out) | exact HB.out)⟩⟩
                        · replace c31 := Bool.eq_false_iff.mpr c31
                          subst c31
                          have H1 : (some false) = some r := by rw [if_neg (show ¬ (false = true) by decide)] at H; exact H
                          clear H
                          have H := H1
                          clear H1
                          obtain rfl := Option.some.inj H
                          have p196 : 0 ≤ (x32_2 : Int) := of_decide_eq_true (by first | (with_reducible assumption) | assumption)
                          have q196 : x32_2 < (l3.length : Int) := of_decide_eq_true (by first | (with_reducible assumption) | assumption)
                          obtain ⟨ad196, e196, hx196_0⟩ := Kd.at_int HR3.out x32_2 p196 q196
                          cases e196
                          replace hx196_0 := (HB.out.cell (World.block_lt_of_cell? w _ hx196_0)).trans hx196_0
                          replace p196 := eq_true p196
                          replace q196 := eq_true q196
                          have p197 : 0 ≤ (x32_2 : Int) := of_decide_eq_true (by first | (with_reducible assumption) | assumption)
                          have q197 : x32_2 < (t193.length : Int) := of_decide_eq_true (by first | (with_reducible assumption) | assumption)
                          obtain ⟨ad197, e197, hx197_0, hx197_1, hx197_2⟩ := at_T39 (Kd.R_reads' HO_9.out).2.2 x32_2 p197 q197
                          cases e197
                          replace p197 := eq_true p197
                          replace q197 := eq_true q197
                          go_wp2_with (first | (go_at_call 35; (with_reducible refine (value_isInt.calls a0 (rd l3 x32_2) false _ A30.out).mono ?_); rintro e w' ⟨rfl, ⟨nd, rfl⟩⟩))
                          go_ret
                          exact ⟨by first | rfl | (simp [errW_none, errW_some] <;> rfl) | (simp [*, errW_none, errW_some] <;> rfl), by repeat (first | (with_reducible first | exact HB.out | apply below_alloc | apply pw_below_drewN | apply below_drew1 | refine below_set ?_ GE187.out) | exact HB.out)⟩
                    · rw [if_neg c24] at H
                      exact absurd H (by simp)
                  · rw [if_neg c23] at H
                    exact absurd H (by simp)
                · rw [if_neg c22] at H
                  exact absurd H (by simp)
              · rw [if_neg c21] at H
                have c21b0 : decide (x32_2 < (l3.length : Int)) = false := decide_eq_false c21
                clear c21
                obtain rfl := Option.some.inj H
                go_wp2
                go_ret
                exact ⟨by first | rfl | (simp [errW_none, errW_some] <;> rfl) | (simp [*, errW_none, errW_some] <;> rfl), by repeat (first | (with_reducible first | exact HB.out | apply below_alloc | apply pw_below_drewN | apply below_drew1 | refine below_set ?_ GE187.out) | exact HB.out)⟩
        · rw [if_neg c14] at H
          have c14b0 : ((t193.length : Int) == (l3.length : Int)) = false := beq_eq_false_iff_ne.mpr c14
          have c14b1 : ((t193.length : Int) != (l3.length : Int)) = true := bne_iff_ne.mpr c14
          have c14b2 : (t193.length == l3.length) = false := by first | simpa using c14 | (simp at c14 ⊢; omega)
          obtain rfl := Option.some.inj H
          have hcz32_0 : wc.cell? ⟨gb187, 0, none⟩ = some (.int .i64 a1_0) := (blk_cell BK187.out 0).trans rfl
          have hcz32_1 : wc.cell? ⟨gb187, 1, none⟩ = some (.int .i64 a1_1) := (blk_cell BK187.out 1).trans rfl
          have hcz32_2 : wc.cell? ⟨gb187, 2, none⟩ = some (.string a1_2) := (blk_cell BK187.out 2).trans rfl
          have hfz32_0 := blk_frozen BK187.out 0
          have hfz32_1 := blk_frozen BK187.out 1
          have hfz32_2 := blk_frozen BK187.out 2
          go_wp2_with (first | ((with_reducible refine gate_dst (N := 23) rfl ?_); refine Kd.R_lit k39 _ 39 ?hg (N := 23) ?hd (xs := ([(⟨a1_0, a1_1, a1_2⟩ : S39)] : List (S39))) (inner := [.int .i64 a1_0, .int .i64 a1_1, .string a1_2]) (ok := fun _ => True) (okp := fun _ => True) ?hr ?hp (fun _ hk => hk) trivial (Below.refl _ _) (Nat.le_refl _) (by simp) ?_; (case hd => rfl); (case hg => rfl); (case hr => first | (go_simp; done) | (go_simp; rfl)); (case hp => exact (Reps.c3 (show Kd.M k39 _ _ _ (⟨a1_0, a1_1, a1_2⟩ : S39) [.int .i64 a1_0, .int .i64 a1_1, .string a1_2] from (k39_mkM _ _ _ (⟨a1_0, a1_1, a1_2⟩ : S39) )) (Reps.none _ _))); intro v191 w33 ho34 hb hg_ hnew_; clear hg_ hnew_; (first | rw [← Ny190.out] at ho34 | (simp only [Int.reduceToNat] at ho34; rw [← Ny190.out] at ho34)); have n0_ := Aside0.mk (Kd.R_lower (Kd.R_newB ho34 (g := gb187) (o := .cells #[.int .i64 a1_0, .int .i64 a1_1, .string a1_2] 39 (0, 0)) (by (with_reducible repeat (first | refine blk_drewN ?_ _ | refine blk_drew ?_ | refine blk_alloc ?_ _)); exact BK187.out)) (below_size (by repeat (first | (with_reducible first | exact HB.out | apply below_alloc | apply pw_below_drewN | apply below_drew1 | refine below_set ?_ GE187.out) | exact HB.out)))); have n1_ := Aside0.mk (blk_below (g := gb187) (o := .cells #[.int .i64 a1_0, .int .i64 a1_1, .string a1_2] 39 (0, 0)) (by (with_reducible repeat (first | refine blk_drewN ?_ _ | refine blk_drew ?_ | refine blk_alloc ?_ _)); exact BK187.out) hb); have n2_ := Aside0.mk (below_step (by repeat (first | (with_reducible first | exact HB.out | apply below_alloc | apply pw_below_drewN | apply below_drew1 | refine below_set ?_ GE187.out) | exact HB.out)) hb); clear BK187; clear HB; have HO192 := n0_; have BK187 := n1_; have HB := n2_; clear n0_ n1_ n2_; clear hb ho34; obtain ⟨Ao35, co35, eo35⟩ := Kd.R_slice HO192.out; subst eo35) | ((with_reducible refine gate_callee (f := 45) rfl ?_); refine goesL_ (some 24) rfl rfl Try.func45 (by kernel_rfl) rfl #[.slice A2 l2.length c2, .slice Ao35 y190.length co35] rfl (by (try simp only [List.map_toArray, List.map_cons, List.map_nil]); first | done | rfl | (simp only [List.length_drop, List.length_take]; rfl)) ?_; (with_reducible refine (types_Scalars.calls _ _ l2 _ _ y190 t193 _ ?side1 ?side2 ?side3 ?side4 A13.out).mono ?_); (case side1 => repeat (first | exact (Kd.C_below HR2.out HB.out) | (with_reducible refine Kd.C_alloc ?_ _) | (with_reducible refine Kd.C_drewN ?_ _) | (with_reducible refine Kd.C_drew ?_))); (case side2 => exact HC2.out); (case side3 => repeat (first | exact (Kd.R_reads' HO192.out).2.2 | (with_reducible refine Kd.C_alloc ?_ _) | (with_reducible refine Kd.C_drewN ?_ _) | (with_reducible refine Kd.C_drew ?_))); (case side4 => exact (Kd.R_reads' HO192.out).2.1); rintro e w36 ⟨v194, rfl, ho0, hb⟩; refine ⟨_, rfl, ?_⟩; have n0_ := Aside0.mk (Kd.R_elder' (by (with_reducible repeat (first | apply Kd.R_alloc | apply Kd.R_drewN | apply Kd.R_drew)); exact HO192.out) (Kd.R_base ho0) hb); have n1_ := Aside0.mk (Kd.R_lower (Kd.R_newB (Kd.R_new' ho0 (Kd.R_lt (by (with_reducible repeat (first | apply Kd.R_alloc | apply Kd.R_drewN | apply Kd.R_drew)); exact HO192.out))) (g := gb187) (o := .cells #[.int .i64 a1_0, .int .i64 a1_1, .string a1_2] 39 (0, 0)) (by (with_reducible repeat (first | refine blk_drewN ?_ _ | refine blk_drew ?_ | refine blk_alloc ?_ _)); exact BK187.out)) (below_size (by repeat (first | (with_reducible first | exact HB.out | apply below_alloc | apply pw_below_drewN | apply below_drew1 | refine below_set ?_ GE187.out) | exact HB.out)))); have n2_ := Aside0.mk (blk_below (g := gb187) (o := .cells #[.int .i64 a1_0, .int .i64 a1_1, .string a1_2] 39 (0, 0)) (by (with_reducible repeat (first | refine blk_drewN ?_ _ | refine blk_drew ?_ | refine blk_alloc ?_ _)); exact BK187.out) hb); have n3_ := Aside0.mk (below_step (by repeat (first | (with_reducible first | exact HB.out | apply below_alloc | apply pw_below_drewN | apply below_drew1 | refine below_set ?_ GE187.out) | exact HB.out)) hb); clear HO192; clear BK187; clear HB; have HO192 := n0_; have HO195 := n1_; have BK187 := n2_; have HB := n3_; clear n0_ n1_ n2_ n3_; (try clear hb); (try clear hb2); (try clear hk); (try clear hi); (try clear ho0); obtain ⟨Ao37, co37, eo37⟩ := Kd.R_slice HO195.out; subst eo37))
          go_ret
          exact ⟨by first | rfl | (simp [errW_none, errW_some] <;> rfl) | (simp [*, errW_none, errW_some] <;> rfl), by repeat (first | (with_reducible first | exact HB.out | apply below_alloc | apply pw_below_drewN | apply below_drew1 | refine below_set ?_ GE187.out) | exact HB.out)⟩
end Go.Proofs.Ytogknojocodhgaa.P
end
