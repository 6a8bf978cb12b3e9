-- Texts of this claim, put together and cut down to what is used (trim.py, a program of this session).
import Derived.Test.YtogknojocodhgaaZ2
import Derived.Test.YtogknojocodhgaaZ6
import Derived.Test.YtogknojocodhgaaZ15
import Derived.Test.YtogknojocodhgaaZ21
section
namespace Go.Proofs.Ytogknojocodhgaa.P
open Go.RowKit Go.Proofs.YtogknojocodhgaaW.PrintWords Go.Proofs.YtogknojocodhgaaW.PrintLast Go.Proofs.YtogknojocodhgaaW.PrintMore
attribute [local go_sem] max2_int min2_int max_two min_two max_three min_three max_four min_four   -- for this text's walks alone
set_option linter.unusedVariables false
set_option linter.unusedSimpArgs false
mutual
def value_Format.j0 : Nat → List Int → List (S39) → Bool → Int → Int → ByteArray → Option (ByteArray)
  | 0, _, _, _, _, _, _ => none
  | k + 1, x2, x7, x26, x122000, x122001, x122002 => if x26 = true then (some (⟨#[]⟩ : ByteArray)) else (value_Format.l0 k x7 ([] : List ByteArray) x2 (x2.length : Int) 0 x122000 x122001 x122002)
def value_Format.l0 : Nat → List (S39) → List ByteArray → List Int → Int → Int → Int → Int → ByteArray → Option (ByteArray)
  | 0, _, _, _, _, _, _, _, _ => none
  | k + 1, x7, x8, x27, x28, x29, x122000, x122001, x122002 => if x29 < x28 then (if 0 ≤ x29 then (if x29 < (x27.length : Int) then (if x29 < (x7.length : Int) then (if ((rd_T39 x7 x29).f0) = 2 then (if (rd x27 x29) = 0 then (if x8.length < 8796093022208 then (value_Format.l0 k x7 (x8 ++ [(⟨#[102, 97, 108, 115, 101]⟩ : ByteArray)]) x27 x28 (wrap64 (x29 + 1)) x122000 x122001 x122002) else (none)) else (if x8.length < 8796093022208 then (value_Format.l0 k x7 (x8 ++ [(⟨#[116, 114, 117, 101]⟩ : ByteArray)]) x27 x28 (wrap64 (x29 + 1)) x122000 x122001 x122002) else (none))) else ((value_decimal.f (rd x27 x29)).bind fun t137 => (if x8.length < 8796093022208 then (value_Format.l0 k x7 (x8 ++ [t137]) x27 x28 (wrap64 (x29 + 1)) x122000 x122001 x122002) else (none)))) else (none)) else (none)) else (none)) else ((strings_Join.f x8 (⟨#[44, 32]⟩ : ByteArray)).bind fun t141 => (if x122000 = 3 then (if 1 + t141.size ≤ 9223372036854775807 then (if ((⟨#[91]⟩ : ByteArray) ++ t141).size + 1 ≤ 9223372036854775807 then (some (((⟨#[91]⟩ : ByteArray) ++ t141) ++ (⟨#[93]⟩ : ByteArray))) else (none)) else (none)) else (if x122000 = 4 then (if x122002.size + 1 ≤ 9223372036854775807 then (if (x122002 ++ (⟨#[40]⟩ : ByteArray)).size + t141.size ≤ 9223372036854775807 then (if ((x122002 ++ (⟨#[40]⟩ : ByteArray)) ++ t141).size + 1 ≤ 9223372036854775807 then (some (((x122002 ++ (⟨#[40]⟩ : ByteArray)) ++ t141) ++ (⟨#[41]⟩ : ByteArray))) else (none)) else (none)) else (none)) else (some t141))))
end
def value_Format.f (k : Nat) (a0_0 : Int) (a0_1 : Int) (a0_2 : ByteArray) (l1 : List (S57)) (l2 : List Int) : Option (ByteArray) := (types_Scalars.f l1 (([(⟨a0_0, a0_1, a0_2⟩ : S39)] : List (S39)))).bind fun t125 => ((types_Valid.f a0_0 a0_1 a0_2 l1).bind fun t128 => (if t128 = true then (value_Format.j0 k l2 t125 ((t125.length : Int) != (l2.length : Int)) a0_0 a0_1 a0_2) else (value_Format.j0 k l2 t125 true a0_0 a0_1 a0_2)))
theorem value_Format.mono_l : ∀ k, (∀ y0 y1 y2 y3 y4 y5, LeO (value_Format.j0 k y0 y1 y2 y3 y4 y5) (value_Format.j0 (k + 1) y0 y1 y2 y3 y4 y5)) ∧ (∀ y0 y1 y2 y3 y4 y5 y6 y7, LeO (value_Format.l0 k y0 y1 y2 y3 y4 y5 y6 y7) (value_Format.l0 (k + 1) y0 y1 y2 y3 y4 y5 y6 y7))
  | 0 => ⟨fun _ _ _ _ _ _ r h => by simp [value_Format.j0] at h, fun _ _ _ _ _ _ _ _ r h => by simp [value_Format.l0] at h⟩
  | k + 1 => by
    obtain ⟨ih0, ih1⟩ := value_Format.mono_l k
    refine ⟨?_, ?_⟩
    · intro y0 y1 y2 y3 y4 y5
      unfold value_Format.j0
      repeat' first
      | (with_reducible exact ih0 _ _ _ _ _ _)
      | (with_reducible exact ih1 _ _ _ _ _ _ _ _)
      | (with_reducible exact LeO.refl _)
      | (with_reducible exact LeO.none _)
      | (with_reducible refine LeO.ite ?_ ?_)
      | (with_reducible refine LeO.bind ?_ (fun _ => ?_))
      | exact ih0 _ _ _ _ _ _
      | exact ih1 _ _ _ _ _ _ _ _
      | exact LeO.none _
      | refine LeO.ite ?_ ?_
      | refine LeO.bind ?_ (fun _ => ?_)
    · intro y0 y1 y2 y3 y4 y5 y6 y7
      unfold value_Format.l0
      repeat' first
      | (with_reducible exact ih0 _ _ _ _ _ _)
      | (with_reducible exact ih1 _ _ _ _ _ _ _ _)
      | (with_reducible exact LeO.refl _)
      | (with_reducible exact LeO.none _)
      | (with_reducible refine LeO.ite ?_ ?_)
      | (with_reducible refine LeO.bind ?_ (fun _ => ?_))
      | exact ih0 _ _ _ _ _ _
      | exact ih1 _ _ _ _ _ _ _ _
      | exact LeO.none _
      | refine LeO.ite ?_ ?_
      | refine LeO.bind ?_ (fun _ => ?_)
theorem value_Format.mono : ∀ a0 a1 a2 a3 a4 k, LeO (value_Format.f k a0 a1 a2 a3 a4) (value_Format.f (k + 1) a0 a1 a2 a3 a4) := by
  intro a0 a1 a2 a3 a4 k
  obtain ⟨ih0, ih1⟩ := value_Format.mono_l k
  unfold value_Format.f
  repeat' first
      | (with_reducible exact ih0 _ _ _ _ _ _)
      | (with_reducible exact ih1 _ _ _ _ _ _ _ _)
      | (with_reducible exact LeO.refl _)
      | (with_reducible exact LeO.none _)
      | (with_reducible refine LeO.ite ?_ ?_)
      | (with_reducible refine LeO.bind ?_ (fun _ => ?_))
      | exact ih0 _ _ _ _ _ _
      | exact ih1 _ _ _ _ _ _ _ _
      | exact LeO.none _
      | refine LeO.ite ?_ ?_
      | refine LeO.bind ?_ (fun _ => ?_)
set_option maxHeartbeats 8000000 in
set_option maxRecDepth 100000 in
theorem value_Format.calls (k : Nat) (a0_0 : Int) (a0_1 : Int) (a0_2 : ByteArray) (A1 : Option Addr) (c1 : Nat) (l1 : List (S57)) (A2 : Option Addr) (c2 : Nat) (l2 : List Int) (r : ByteArray) (w : World) (hr1 : Kd.C k57 w A1 l1.length l1) (hc1 : l1.length ≤ c1) (hr2 : Kd.C (Kd.int .i64) w A2 l2.length l2) (hc2 : l2.length ≤ c2) (h : value_Format.f k a0_0 a0_1 a0_2 l1 l2 = some r) :
    Calls Try.prog 27 #[.agg #[.int .i64 a0_0, .int .i64 a0_1, .string a0_2], .slice A1 l1.length c1, .slice A2 l2.length c2] w fun e w' => e = .returned (.string r) ∧ Below w.heap.size w w' := by
  have hu39 := Try.underlying39
  have HR1 := Aside0.mk hr1
  have HC1 := Aside0.mk hc1
  clear hr1 hc1
  have HR2 := Aside0.mk hr2
  have HC2 := Aside0.mk hc2
  clear hr2 hc2
  have HB := Aside0.mk (Below.refl w.heap.size w)
  have H : ((types_Scalars.f l1 (([(⟨a0_0, a0_1, a0_2⟩ : S39)] : List (S39)))).bind fun t125 => ((types_Valid.f a0_0 a0_1 a0_2 l1).bind fun t128 => (if t128 = true then (value_Format.j0 k l2 t125 ((t125.length : Int) != (l2.length : Int)) a0_0 a0_1 a0_2) else (value_Format.j0 k l2 t125 true a0_0 a0_1 a0_2)))) = some r := h
  clear h
  obtain ⟨y122, hy122⟩ : ∃ y_ : List (S39), y_ = (([(⟨a0_0, a0_1, a0_2⟩ : S39)] : List (S39))) := ⟨_, rfl⟩
  replace H : ((types_Scalars.f l1 y122).bind fun t125 => ((types_Valid.f a0_0 a0_1 a0_2 l1).bind fun t128 => (if t128 = true then (value_Format.j0 k l2 t125 ((t125.length : Int) != (l2.length : Int)) a0_0 a0_1 a0_2) else (value_Format.j0 k l2 t125 true a0_0 a0_1 a0_2)))) = some r := by first | (rw [hy122]; with_reducible exact H) | (have H2_ := (Option.bind_some _ _).symm.trans H; rw [hy122]; with_reducible exact H2_) | (have H2_ := (Option.bind_some _ _).symm.trans H; with_reducible exact H2_) | with_reducible exact H | (rw [hy122]; exact H) | exact H
  have Ny122 := Aside0.mk hy122
  clear hy122
  replace H := Option.bind_eq_some_iff.mp H
  obtain ⟨t125, A40, H⟩ := H
  replace H : ((types_Valid.f a0_0 a0_1 a0_2 l1).bind fun t128 => (if t128 = true then (value_Format.j0 k l2 t125 ((t125.length : Int) != (l2.length : Int)) a0_0 a0_1 a0_2) else (value_Format.j0 k l2 t125 true a0_0 a0_1 a0_2))) = some r := H
  have A4 := Aside0.mk A40
  clear A40
  have HC5 := Aside0.mk H
  clear H
  go_enter Try.func27, Try.ntmps27
  go_upto_region 2 with (first | ((with_reducible refine gate_dst (N := 3) rfl ?_); (try (refine gate_guard (by rfl) ?_; dsimp only)); refine box_event ?hg (N := 3) ?hd (cs := #[.int .i64 a0_0, .int .i64 a0_1, .string a0_2]) (t := 39) ?hr ?_; (case hd => rfl); (case hg => rfl); (case hr => first | (go_simp; done) | (go_simp; rfl)); intro gb121 hg w6 hbox hb; have n0_ := Aside0.mk (below_step (by repeat (first | (with_reducible first | exact HB.out | apply below_alloc | apply pw_below_drewN | apply below_drew1) | exact HB.out)) hb); have n1_ := Aside0.mk (hbox); have n2_ := Aside0.mk ((by rw [hg]; exact (below_size (by repeat (first | (with_reducible first | exact HB.out | apply below_alloc | apply pw_below_drewN | apply below_drew1) | exact HB.out))) : w.heap.size ≤ gb121)); have n3_ := Aside0.mk ((by rw [hg]; exact (below_size (by repeat (first | (with_reducible first | exact HB.out | apply below_alloc | apply pw_below_drewN | apply below_drew1) | exact HB.out))) : w.heap.size ≤ gb121)); clear HB; have HB := n0_; have BK121 := n1_; have GW121 := n2_; have GE121 := n3_; clear n0_ n1_ n2_ n3_; clear hb hbox hg; have hcz7_0 : w6.cell? ⟨gb121, 0, none⟩ = some (.int .i64 a0_0) := (blk_cell BK121.out 0).trans rfl; have hcz7_1 : w6.cell? ⟨gb121, 1, none⟩ = some (.int .i64 a0_1) := (blk_cell BK121.out 1).trans rfl; have hcz7_2 : w6.cell? ⟨gb121, 2, none⟩ = some (.string a0_2) := (blk_cell BK121.out 2).trans rfl; have hfz7_0 := blk_frozen BK121.out 0; have hfz7_1 := blk_frozen BK121.out 1; have hfz7_2 := blk_frozen BK121.out 2) | ((with_reducible refine gate_dst (N := 14) rfl ?_); (try (refine gate_guard (by rfl) ?_; dsimp only)); refine Kd.R_lit k39 _ 39 ?hg (N := 14) ?hd (xs := ([(⟨a0_0, a0_1, a0_2⟩ : S39)] : List (S39))) (inner := [.int .i64 a0_0, .int .i64 a0_1, .string a0_2]) (ok := fun _ => True) (okp := fun _ => True) ?hr ?hp (fun _ hk => hk) trivial (Below.refl _ _) (Nat.le_refl _) (by simp) ?_; (case hd => rfl); (case hg => rfl); (case hr => first | (go_simp; done) | (go_simp; rfl)); (case hp => exact (Reps.c3 (show Kd.M k39 _ _ _ (⟨a0_0, a0_1, a0_2⟩ : S39) [.int .i64 a0_0, .int .i64 a0_1, .string a0_2] from (k39_mkM _ _ _ (⟨a0_0, a0_1, a0_2⟩ : S39) )) (Reps.none _ _))); intro v123 w8 ho9 hb hg_ hnew_; clear hg_ hnew_; (first | rw [← Ny122.out] at ho9 | (simp only [Int.reduceToNat] at ho9; rw [← Ny122.out] at ho9)); have n0_ := Aside0.mk (Kd.R_lower (Kd.R_newB ho9 (g := gb121) (o := .cells #[.int .i64 a0_0, .int .i64 a0_1, .string a0_2] 39 (0, 0)) (by (with_reducible repeat (first | refine blk_drewN ?_ _ | refine blk_drew ?_ | refine blk_alloc ?_ _)); exact BK121.out)) (below_size (by repeat (first | (with_reducible first | exact HB.out | apply below_alloc | apply pw_below_drewN | apply below_drew1 | refine below_set ?_ GE121.out) | exact HB.out)))); have n1_ := Aside0.mk (blk_below (g := gb121) (o := .cells #[.int .i64 a0_0, .int .i64 a0_1, .string a0_2] 39 (0, 0)) (by (with_reducible repeat (first | refine blk_drewN ?_ _ | refine blk_drew ?_ | refine blk_alloc ?_ _)); exact BK121.out) hb); have n2_ := Aside0.mk (below_step (by repeat (first | (with_reducible first | exact HB.out | apply below_alloc | apply pw_below_drewN | apply below_drew1 | refine below_set ?_ GE121.out) | exact HB.out)) hb); clear BK121; clear HB; have HO124 := n0_; have BK121 := n1_; have HB := n2_; clear n0_ n1_ n2_; clear hb ho9; obtain ⟨Ao10, co10, eo10⟩ := Kd.R_slice HO124.out; subst eo10) | ((with_reducible refine gate_callee (f := 45) rfl ?_); refine goesL_ (some 15) rfl rfl Try.func45 (by kernel_rfl) rfl #[.slice A1 l1.length c1, .slice Ao10 y122.length co10] rfl (by (try simp only [List.map_toArray, List.map_cons, List.map_nil]); first | done | rfl | (simp only [List.length_drop, List.length_take]; rfl)) ?_; (with_reducible refine (types_Scalars.calls _ _ l1 _ _ y122 t125 _ ?side1 ?side2 ?side3 ?side4 A4.out).mono ?_); (case side1 => repeat (first | exact (Kd.C_below HR1.out HB.out) | (with_reducible refine Kd.C_alloc ?_ _) | (with_reducible refine Kd.C_drewN ?_ _) | (with_reducible refine Kd.C_drew ?_))); (case side2 => exact HC1.out); (case side3 => repeat (first | exact (Kd.R_reads' HO124.out).2.2 | (with_reducible refine Kd.C_alloc ?_ _) | (with_reducible refine Kd.C_drewN ?_ _) | (with_reducible refine Kd.C_drew ?_))); (case side4 => exact (Kd.R_reads' HO124.out).2.1); rintro e w11 ⟨v126, rfl, ho0, hb⟩; refine ⟨_, rfl, ?_⟩; have n0_ := Aside0.mk (Kd.R_elder' (by (with_reducible repeat (first | apply Kd.R_alloc | apply Kd.R_drewN | apply Kd.R_drew)); exact HO124.out) (Kd.R_base ho0) hb); have n1_ := Aside0.mk (Kd.R_lower (Kd.R_newB (Kd.R_new' ho0 (Kd.R_lt (by (with_reducible repeat (first | apply Kd.R_alloc | apply Kd.R_drewN | apply Kd.R_drew)); exact HO124.out))) (g := gb121) (o := .cells #[.int .i64 a0_0, .int .i64 a0_1, .string a0_2] 39 (0, 0)) (by (with_reducible repeat (first | refine blk_drewN ?_ _ | refine blk_drew ?_ | refine blk_alloc ?_ _)); exact BK121.out)) (below_size (by repeat (first | (with_reducible first | exact HB.out | apply below_alloc | apply pw_below_drewN | apply below_drew1 | refine below_set ?_ GE121.out) | exact HB.out)))); have n2_ := Aside0.mk (blk_below (g := gb121) (o := .cells #[.int .i64 a0_0, .int .i64 a0_1, .string a0_2] 39 (0, 0)) (by (with_reducible repeat (first | refine blk_drewN ?_ _ | refine blk_drew ?_ | refine blk_alloc ?_ _)); exact BK121.out) hb); have n3_ := Aside0.mk (below_step (by repeat (first | (with_reducible first | exact HB.out | apply below_alloc | apply pw_below_drewN | apply below_drew1 | refine below_set ?_ GE121.out) | exact HB.out)) hb); clear HO124; clear BK121; clear HB; have HO124 := n0_; have HO127 := n1_; have BK121 := n2_; have HB := n3_; clear n0_ n1_ n2_ n3_; (try clear hb); (try clear hb2); (try clear hk); (try clear hi); (try clear ho0)))
  (try simp only [Act.put, List.setIfInBounds_toArray, List.set_cons_zero, List.set_cons_succ])
  go_cut [26] (fun v26 wc => ∃ (kq : Nat) (x26_4 : Bool), v26 = .bool x26_4 ∧ Aside0 (value_Format.j0 kq l2 t125 x26_4 a0_0 a0_1 a0_2 = some r) ∧ Aside0 (kq ≤ k) ∧ Aside0 (Kd.R k39 39 wc w.heap.size (fun k_ => k_ ≠ gb121) v126 t125) ∧ Aside0 (wc.heap[gb121]? = some (.cells #[.int .i64 a0_0, .int .i64 a0_1, .string a0_2] 39 (0, 0))) ∧ Aside0 (Below w.heap.size w wc))
  case first =>
    have H := HC5.out
    clear HC5
    replace H := Option.bind_eq_some_iff.mp H
    obtain ⟨t128, A120, H⟩ := H
    replace H : (if t128 = true then (value_Format.j0 k l2 t125 ((t125.length : Int) != (l2.length : Int)) a0_0 a0_1 a0_2) else (value_Format.j0 k l2 t125 true a0_0 a0_1 a0_2)) = some r := H
    have A12 := Aside0.mk A120
    clear A120
    by_cases c13 : t128 = true
    · subst c13
      have H1 : (value_Format.j0 k l2 t125 ((t125.length : Int) != (l2.length : Int)) a0_0 a0_1 a0_2) = some r := by rw [if_pos rfl] at H; exact H
      clear H
      have H := H1
      clear H1
      have H' := Aside0.mk H
      clear H
      have hcz14_0 : w11.cell? ⟨gb121, 0, none⟩ = some (.int .i64 a0_0) := (blk_cell BK121.out 0).trans rfl
      have hcz14_1 : w11.cell? ⟨gb121, 1, none⟩ = some (.int .i64 a0_1) := (blk_cell BK121.out 1).trans rfl
      have hcz14_2 : w11.cell? ⟨gb121, 2, none⟩ = some (.string a0_2) := (blk_cell BK121.out 2).trans rfl
      have hfz14_0 := blk_frozen BK121.out 0
      have hfz14_1 := blk_frozen BK121.out 1
      have hfz14_2 := blk_frozen BK121.out 2
      go_wp2_with (first | ((with_reducible refine gate_callee (f := 44) rfl ?_); refine goesL_ (some 18) rfl rfl Try.func44 (by kernel_rfl) rfl #[.agg #[.int .i64 a0_0, .int .i64 a0_1, .string a0_2], .slice A1 l1.length c1] rfl (by (try simp only [List.map_toArray, List.map_cons, List.map_nil]); first | done | rfl | (simp only [List.length_drop, List.length_take]; rfl)) ?_; (with_reducible refine (types_Valid.calls a0_0 a0_1 a0_2 _ _ l1 true _ ?side1 ?side2 A12.out).mono ?_); (case side1 => repeat (first | exact (Kd.C_below HR1.out HB.out) | (with_reducible refine Kd.C_alloc ?_ _) | (with_reducible refine Kd.C_drewN ?_ _) | (with_reducible refine Kd.C_drew ?_))); (case side2 => exact HC1.out); rintro e w15 ⟨rfl, hb⟩; refine ⟨_, rfl, ?_⟩; have n0_ := Aside0.mk (Kd.R_below (by (with_reducible repeat (first | apply Kd.R_alloc | apply Kd.R_drewN | apply Kd.R_drew)); exact HO124.out) hb); have n1_ := Aside0.mk (Kd.R_below (by (with_reducible repeat (first | apply Kd.R_alloc | apply Kd.R_drewN | apply Kd.R_drew)); exact HO127.out) hb); have n2_ := Aside0.mk (blk_below (g := gb121) (o := .cells #[.int .i64 a0_0, .int .i64 a0_1, .string a0_2] 39 (0, 0)) (by (with_reducible repeat (first | refine blk_drewN ?_ _ | refine blk_drew ?_ | refine blk_alloc ?_ _)); exact BK121.out) hb); have n3_ := Aside0.mk (below_step (by repeat (first | (with_reducible first | exact HB.out | apply below_alloc | apply pw_below_drewN | apply below_drew1 | refine below_set ?_ GE121.out) | exact HB.out)) hb); clear HO124; clear HO127; clear BK121; clear HB; have HO124 := n0_; have HO127 := n1_; have BK121 := n2_; have HB := n3_; clear n0_ n1_ n2_ n3_; (try clear hb); (try clear hb2); (try clear hk); (try clear hi); obtain ⟨Ao16, co16, eo16⟩ := Kd.R_slice HO127.out; subst eo16))
      go_meet
      case rel => exact ⟨_, (((t125.length : Int) != (l2.length : Int))), (by first | rfl | (simp; done) | (simp [*]; done)), H', ⟨by first | omega | exact Nat.le_refl _⟩, ⟨by (with_reducible repeat (first | apply Kd.R_alloc | apply Kd.R_drewN | apply Kd.R_drew)); exact Kd.R_mono HO127.out (fun _ hk => hk.2)⟩, ⟨by (with_reducible repeat (first | refine blk_drewN ?_ _ | refine blk_drew ?_ | refine blk_alloc ?_ _)); exact BK121.out⟩, ⟨by repeat (first | (with_reducible first | exact HB.out | apply below_alloc | apply pw_below_drewN | apply below_drew1 | refine below_set ?_ GE121.out) | exact HB.out)⟩⟩
    · replace c13 := Bool.eq_false_iff.mpr c13
      subst c13
      have H1 : (value_Format.j0 k l2 t125 true a0_0 a0_1 a0_2) = some r := by rw [if_neg (show ¬ (false = true) by decide)] at H; exact H
      clear H
      have H := H1
      clear H1
      have H' := Aside0.mk H
      clear H
      have hcz17_0 : w11.cell? ⟨gb121, 0, none⟩ = some (.int .i64 a0_0) := (blk_cell BK121.out 0).trans rfl
      have hcz17_1 : w11.cell? ⟨gb121, 1, none⟩ = some (.int .i64 a0_1) := (blk_cell BK121.out 1).trans rfl
      have hcz17_2 : w11.cell? ⟨gb121, 2, none⟩ = some (.string a0_2) := (blk_cell BK121.out 2).trans rfl
      have hfz17_0 := blk_frozen BK121.out 0
      have hfz17_1 := blk_frozen BK121.out 1
      have hfz17_2 := blk_frozen BK121.out 2
      go_wp2_with (first | ((with_reducible refine gate_callee (f := 44) rfl ?_); refine goesL_ (some 18) rfl rfl Try.func44 (by kernel_rfl) rfl #[.agg #[.int .i64 a0_0, .int .i64 a0_1, .string a0_2], .slice A1 l1.length c1] rfl (by (try simp only [List.map_toArray, List.map_cons, List.map_nil]); first | done | rfl | (simp only [List.length_drop, List.length_take]; rfl)) ?_; (with_reducible refine (types_Valid.calls a0_0 a0_1 a0_2 _ _ l1 false _ ?side1 ?side2 A12.out).mono ?_); (case side1 => repeat (first | exact (Kd.C_below HR1.out HB.out) | (with_reducible refine Kd.C_alloc ?_ _) | (with_reducible refine Kd.C_drewN ?_ _) | (with_reducible refine Kd.C_drew ?_))); (case side2 => exact HC1.out); rintro e w18 ⟨rfl, hb⟩; refine ⟨_, rfl, ?_⟩; have n0_ := Aside0.mk (Kd.R_below (by (with_reducible repeat (first | apply Kd.R_alloc | apply Kd.R_drewN | apply Kd.R_drew)); exact HO124.out) hb); have n1_ := Aside0.mk (Kd.R_below (by (with_reducible repeat (first | apply Kd.R_alloc | apply Kd.R_drewN | apply Kd.R_drew)); exact HO127.out) hb); have n2_ := Aside0.mk (blk_below (g := gb121) (o := .cells #[.int .i64 a0_0, .int .i64 a0_1, .string a0_2] 39 (0, 0)) (by (with_reducible repeat (first | refine blk_drewN ?_ _ | refine blk_drew ?_ | refine blk_alloc ?_ _)); exact BK121.out) hb); have n3_ := Aside0.mk (below_step (by repeat (first | (with_reducible first | exact HB.out | apply below_alloc | apply pw_below_drewN | apply below_drew1 | refine below_set ?_ GE121.out) | exact HB.out)) hb); clear HO124; clear HO127; clear BK121; clear HB; have HO124 := n0_; have HO127 := n1_; have BK121 := n2_; have HB := n3_; clear n0_ n1_ n2_ n3_; (try clear hb); (try clear hb2); (try clear hk); (try clear hi)))
      go_meet
      case rel => exact ⟨_, (true), (by first | rfl | (simp; done) | (simp [*]; done)), H', ⟨by first | omega | exact Nat.le_refl _⟩, ⟨by (with_reducible repeat (first | apply Kd.R_alloc | apply Kd.R_drewN | apply Kd.R_drew)); exact Kd.R_mono HO127.out (fun _ hk => hk.2)⟩, ⟨by (with_reducible repeat (first | refine blk_drewN ?_ _ | refine blk_drew ?_ | refine blk_alloc ?_ _)); exact BK121.out⟩, ⟨by repeat (first | (with_reducible first | exact HB.out | apply below_alloc | apply pw_below_drewN | apply below_drew1 | refine below_set ?_ GE121.out) | exact HB.out)⟩⟩
  case rest =>
    clear HC5
    try clear c1
    try clear c2
    try clear p2
    try clear c3
    try clear c4
    try clear c13
    try clear hcz14_0
    try clear hcz14_1
    try clear hcz14_2
    try clear hcz17_0
    try clear hcz17_1
    try clear hcz17_2
    try clear hcz7_0
    try clear hcz7_1
    try clear hcz7_2
    try clear hfz14_0
    try clear hfz14_1
    try clear hfz14_2
    try clear hfz17_0
    try clear hfz17_1
    try clear hfz17_2
    try clear hfz7_0
    try clear hfz7_1
    try clear hfz7_2
    obtain ⟨kq, x26_4, rfl, HA, HJ4, HO_7, BK121, HB⟩ := hcut
    cases kq with
    | zero => exact absurd HA.out (by simp [value_Format.j0])
    | succ kj4 =>
      have H := HA.out
      clear HA
      simp only [value_Format.j0] at H
      by_cases c19 : x26_4 = true
      · subst c19
        have H1 : (some (⟨#[]⟩ : ByteArray)) = some r := by rw [if_pos rfl] at H; exact H
        clear H
        have H := H1
        clear H1
        obtain rfl := Option.some.inj H
        go_wp2
        go_ret
        exact ⟨by first | rfl | (simp [errW_none, errW_some] <;> rfl) | (simp [*, errW_none, errW_some] <;> rfl), by repeat (first | (with_reducible first | exact HB.out | apply below_alloc | apply pw_below_drewN | apply below_drew1 | refine below_set ?_ GE121.out) | exact HB.out)⟩
      · replace c19 := Bool.eq_false_iff.mpr c19
        subst c19
        have H1 : (value_Format.l0 kj4 t125 ([] : List ByteArray) l2 (l2.length : Int) 0 a0_0 a0_1 a0_2) = some r := by rw [if_neg (show ¬ (false = true) by decide)] at H; exact H
        clear H
        have H := H1
        clear H1
        have H' := Aside0.mk H
        clear H
        go_wp2
        go_loopg [8, 29] kj4 (fun kq v8 v29 w' => ∃ (x8_2 : List ByteArray) (x29_2 : Int), v29 = .int .i64 x29_2 ∧ Aside0 (value_Format.l0 kq t125 x8_2 l2 (l2.length : Int) x29_2 a0_0 a0_1 a0_2 = some r) ∧ Aside0 (kq ≤ kj4) ∧ Aside0 (Kd.R k39 39 w' w.heap.size (fun k_ => k_ ≠ gb121) v126 t125) ∧ Aside0 (Kd.R Kd.string 9 w' w.heap.size (fun _ => True) v8 x8_2) ∧ Aside0 (w'.heap[gb121]? = some (.cells #[.int .i64 a0_0, .int .i64 a0_1, .string a0_2] 39 (0, 0))) ∧ Aside0 (Below w.heap.size w w'))
        case atStart => exact ⟨(([] : List ByteArray)), (0), (by first | rfl | (simp; done) | (simp [*]; done)), H', ⟨Nat.le_refl _⟩, ⟨by (with_reducible repeat (first | apply Kd.R_alloc | apply Kd.R_drewN | apply Kd.R_drew)); exact HO_7.out⟩, ⟨by first | exact Kd.R_nil _ _ _ _ _ | exact Kd.N_nil _ _ _ _ _ | exact Kd.V_nil _ _ _ _ _ | exact Kd.Q_nil _ _ _ _ _ | exact Kd.S_nil _ _ _ _ _⟩, ⟨by (with_reducible repeat (first | refine blk_drewN ?_ _ | refine blk_drew ?_ | refine blk_alloc ?_ _)); exact BK121.out⟩, ⟨by repeat (first | (with_reducible first | exact HB.out | apply below_alloc | apply pw_below_drewN | apply below_drew1 | refine below_set ?_ GE121.out) | exact HB.out)⟩⟩
        case round =>
          clear H'
          try clear c1
          try clear c2
          try clear p2
          try clear c3
          try clear c4
          try clear c13
          try clear c19
          try clear hcz14_0
          try clear hcz14_1
          try clear hcz14_2
          try clear hcz17_0
          try clear hcz17_1
          try clear hcz17_2
          try clear hcz7_0
          try clear hcz7_1
          try clear hcz7_2
          try clear hfz14_0
          try clear hfz14_1
          try clear hfz14_2
          try clear hfz17_0
          try clear hfz17_1
          try clear hfz17_2
          try clear hfz7_0
          try clear hfz7_1
          try clear hfz7_2
          try clear p2
          obtain ⟨x8_2, x29_2, rfl, HA, HK2, HO_7, HO_8, BK121, HB⟩ := hrel
          cases gk with
          | zero => exact absurd HA.out (by simp [value_Format.l0])
          | succ k2 =>
            have H := HA.out
            clear HA
            simp only [value_Format.l0] at H
            by_cases c20 : x29_2 < (l2.length : Int)
            · rw [if_pos c20] at H
              have c20b0 : decide (x29_2 < (l2.length : Int)) = true := decide_eq_true c20
              clear c20
              by_cases c21 : 0 ≤ x29_2
              · rw [if_pos c21] at H
                have c21b0 : decide (0 ≤ x29_2) = true := decide_eq_true c21
                clear c21
                by_cases c22 : x29_2 < (l2.length : Int)
                · rw [if_pos c22] at H
                  have c22b0 : decide (x29_2 < (l2.length : Int)) = true := decide_eq_true c22
                  clear c22
                  by_cases c23 : x29_2 < (t125.length : Int)
                  · rw [if_pos c23] at H
                    have c23b0 : decide (x29_2 < (t125.length : Int)) = true := decide_eq_true c23
                    clear c23
                    by_cases c24 : ((rd_T39 t125 x29_2).f0) = 2
                    · rw [if_pos c24] at H
                      have c24b0 : (((rd_T39 t125 x29_2).f0) == 2) = true := beq_iff_eq.mpr c24
                      have c24b1 : (((rd_T39 t125 x29_2).f0) != 2) = false := bne_eq_false_iff_eq.mpr c24
                      clear c24
                      by_cases c25 : (rd l2 x29_2) = 0
                      · rw [if_pos c25] at H
                        have c25b0 : ((rd l2 x29_2) == 0) = true := beq_iff_eq.mpr c25
                        have c25b1 : ((rd l2 x29_2) != 0) = false := bne_eq_false_iff_eq.mpr c25
                        clear c25
                        by_cases c26 : x8_2.length < 8796093022208
                        · rw [if_pos c26] at H
                          have LMc26 := Aside0.mk c26
                          clear c26
                          obtain ⟨y131, hy131⟩ : ∃ y_ : List ByteArray, y_ = (x8_2 ++ [(⟨#[102, 97, 108, 115, 101]⟩ : ByteArray)]) := ⟨_, rfl⟩
                          replace H : (value_Format.l0 k2 t125 y131 l2 (l2.length : Int) (wrap64 (x29_2 + 1)) a0_0 a0_1 a0_2) = some r := by first | (rw [hy131]; with_reducible exact H) | (have H2_ := (Option.bind_some _ _).symm.trans H; rw [hy131]; with_reducible exact H2_) | (have H2_ := (Option.bind_some _ _).symm.trans H; with_reducible exact H2_) | with_reducible exact H | (rw [hy131]; exact H) | exact H
                          have Ny131 := Aside0.mk hy131
                          clear hy131
                          have H' := Aside0.mk H
                          clear H
                          have p129 : 0 ≤ (x29_2 : Int) := of_decide_eq_true (by first | (with_reducible assumption) | assumption)
                          have q129 : x29_2 < (l2.length : Int) := of_decide_eq_true (by first | (with_reducible assumption) | assumption)
                          obtain ⟨ad129, e129, hx129_0⟩ := Kd.at_int HR2.out x29_2 p129 q129
                          cases e129
                          replace hx129_0 := (HB.out.cell (World.block_lt_of_cell? w _ hx129_0)).trans hx129_0
                          replace p129 := eq_true p129
                          replace q129 := eq_true q129
                          obtain ⟨Ao27, co27, eo27⟩ := Kd.R_slice HO_7.out
                          subst eo27
                          have p130 : 0 ≤ (x29_2 : Int) := of_decide_eq_true (by first | (with_reducible assumption) | assumption)
                          have q130 : x29_2 < (t125.length : Int) := of_decide_eq_true (by first | (with_reducible assumption) | assumption)
                          obtain ⟨ad130, e130, hx130_0, hx130_1, hx130_2⟩ := at_T39 (Kd.R_reads' HO_7.out).2.2 x29_2 p130 q130
                          cases e130
                          replace p130 := eq_true p130
                          replace q130 := eq_true q130
                          go_wp2_with (first | ((with_reducible refine gate_builtin (b := .append) (xs := #[.tmp 34, .tmp 35]) rfl ?_); (try (refine gate_guard (by rfl) ?_; dsimp only)); at_builtin; refine Kd.R_append Kd.string (w0 := w) w.heap.size rfl (.tmp 34) (.tmp 35) 51 9 (.string ⟨#[]⟩) 16 rfl Try.underlying51 info9 rfl (by decide) (by omega) u8 x8_2 (⟨#[102, 97, 108, 115, 101]⟩ : ByteArray) [.string (⟨#[102, 97, 108, 115, 101]⟩ : ByteArray)] (fun _ => True) (fun _ => False) rfl rfl ?aP (fun _ hk => hk.elim) ?aF ?aO ?aB ?aS ?aL ?_; (case aP => exact rfl); (case aB => exact (by repeat (first | (with_reducible first | exact HB.out | apply below_alloc | apply pw_below_drewN | apply below_drew1 | refine below_set ?_ GE121.out) | exact HB.out))); (case aF => exact (fun _ _ => trivial)); (case aO => exact (by (with_reducible repeat (first | apply Kd.R_alloc | apply Kd.R_drewN | apply Kd.R_drew)); exact HO_8.out)); (case aS => exact (below_size (by repeat (first | (with_reducible first | exact HB.out | apply below_alloc | apply pw_below_drewN | apply below_drew1 | refine below_set ?_ GE121.out) | exact HB.out)))); (case aL => have := LMc26.out; omega); intro v132 w28 ho hb hg hat; rw [← Ny131.out] at ho; have n0_ := Aside0.mk (Kd.R_over' (by (with_reducible repeat (first | apply Kd.R_alloc | apply Kd.R_drewN | apply Kd.R_drew)); exact HO_7.out) (Kd.R_typed (by (with_reducible repeat (first | apply Kd.R_alloc | apply Kd.R_drewN | apply Kd.R_drew)); exact HO_8.out)) (by decide) hg); have n1_ := Aside0.mk (blk_grown (g := gb121) (o := .cells #[.int .i64 a0_0, .int .i64 a0_1, .string a0_2] 39 (0, 0)) (by (with_reducible repeat (first | refine blk_drewN ?_ _ | refine blk_drew ?_ | refine blk_alloc ?_ _)); exact BK121.out) hg (Kd.R_ne HO_8.out BK121.out (by decide))); have n2_ := Aside0.mk (hb); have n3_ := Aside0.mk (ho); clear HO_7; clear BK121; clear HB; clear HO_8; have HO_7 := n0_; have BK121 := n1_; have HB := n2_; have HO133 := n3_; clear n0_ n1_ n2_ n3_; clear ho hb hg hat))
                          go_roundg k2
                          case measure => have := HJ4.out; have := HK2.out; omega
                          case rel => exact ⟨(y131), (wrap64 (x29_2 + 1)), (by first | rfl | (simp; done) | (simp [*]; done)), H', ⟨by have := HJ4.out; have := HK2.out; omega⟩, ⟨by (with_reducible repeat (first | apply Kd.R_alloc | apply Kd.R_drewN | apply Kd.R_drew)); exact HO_7.out⟩, ⟨by (with_reducible repeat (first | apply Kd.R_alloc | apply Kd.R_drewN | apply Kd.R_drew)); exact HO133.out⟩, ⟨by (with_reducible repeat (first | refine blk_drewN ?_ _ | refine blk_drew ?_ | refine blk_alloc ?_ _)); exact BK121.out⟩, ⟨by repeat (first | (with_reducible first | exact HB.out | apply below_alloc | apply pw_below_drewN | apply below_drew1 | refine below_set ?_ GE121.out) | exact HB.out)⟩⟩
                        · rw [if_neg c26] at H
                          exact absurd H (by simp)
                      · rw [if_neg c25] at H
                        have c25b0 : ((rd l2 x29_2) == 0) = false := beq_eq_false_iff_ne.mpr c25
                        have c25b1 : ((rd l2 x29_2) != 0) = true := bne_iff_ne.mpr c25
                        by_cases c29 : x8_2.length < 8796093022208
                        · rw [if_pos c29] at H
                          have LMc29 := Aside0.mk c29
                          clear c29
                          obtain ⟨y134, hy134⟩ : ∃ y_ : List ByteArray, y_ = (x8_2 ++ [(⟨#[116, 114, 117, 101]⟩ : ByteArray)]) := ⟨_, rfl⟩
                          replace H : (value_Format.l0 k2 t125 y134 l2 (l2.length : Int) (wrap64 (x29_2 + 1)) a0_0 a0_1 a0_2) = some r := by first | (rw [hy134]; with_reducible exact H) | (have H2_ := (Option.bind_some _ _).symm.trans H; rw [hy134]; with_reducible exact H2_) | (have H2_ := (Option.bind_some _ _).symm.trans H; with_reducible exact H2_) | with_reducible exact H | (rw [hy134]; exact H) | exact H
                          have Ny134 := Aside0.mk hy134
                          clear hy134
                          have H' := Aside0.mk H
                          clear H
                          have p129 : 0 ≤ (x29_2 : Int) := of_decide_eq_true (by first | (with_reducible assumption) | assumption)
                          have q129 : x29_2 < (l2.length : Int) := of_decide_eq_true (by first | (with_reducible assumption) | assumption)
                          obtain ⟨ad129, e129, hx129_0⟩ := Kd.at_int HR2.out x29_2 p129 q129
                          cases e129
                          replace hx129_0 := (HB.out.cell (World.block_lt_of_cell? w _ hx129_0)).trans hx129_0
                          replace p129 := eq_true p129
                          replace q129 := eq_true q129
                          obtain ⟨Ao30, co30, eo30⟩ := Kd.R_slice HO_7.out
                          subst eo30
                          have p130 : 0 ≤ (x29_2 : Int) := of_decide_eq_true (by first | (with_reducible assumption) | assumption)
                          have q130 : x29_2 < (t125.length : Int) := of_decide_eq_true (by first | (with_reducible assumption) | assumption)
                          obtain ⟨ad130, e130, hx130_0, hx130_1, hx130_2⟩ := at_T39 (Kd.R_reads' HO_7.out).2.2 x29_2 p130 q130
                          cases e130
                          replace p130 := eq_true p130
                          replace q130 := eq_true q130
                          go_wp2_with (first | ((with_reducible refine gate_builtin (b := .append) (xs := #[.tmp 52, .tmp 53]) rfl ?_); (try (refine gate_guard (by rfl) ?_; dsimp only)); at_builtin; refine Kd.R_append Kd.string (w0 := w) w.heap.size rfl (.tmp 52) (.tmp 53) 51 9 (.string ⟨#[]⟩) 16 rfl Try.underlying51 info9 rfl (by decide) (by omega) u8 x8_2 (⟨#[116, 114, 117, 101]⟩ : ByteArray) [.string (⟨#[116, 114, 117, 101]⟩ : ByteArray)] (fun _ => True) (fun _ => False) rfl rfl ?aP (fun _ hk => hk.elim) ?aF ?aO ?aB ?aS ?aL ?_; (case aP => exact rfl); (case aB => exact (by repeat (first | (with_reducible first | exact HB.out | apply below_alloc | apply pw_below_drewN | apply below_drew1 | refine below_set ?_ GE121.out) | exact HB.out))); (case aF => exact (fun _ _ => trivial)); (case aO => exact (by (with_reducible repeat (first | apply Kd.R_alloc | apply Kd.R_drewN | apply Kd.R_drew)); exact HO_8.out)); (case aS => exact (below_size (by repeat (first | (with_reducible first | exact HB.out | apply below_alloc | apply pw_below_drewN | apply below_drew1 | refine below_set ?_ GE121.out) | exact HB.out)))); (case aL => have := LMc29.out; omega); intro v135 w31 ho hb hg hat; rw [← Ny134.out] at ho; have n0_ := Aside0.mk (Kd.R_over' (by (with_reducible repeat (first | apply Kd.R_alloc | apply Kd.R_drewN | apply Kd.R_drew)); exact HO_7.out) (Kd.R_typed (by (with_reducible repeat (first | apply Kd.R_alloc | apply Kd.R_drewN | apply Kd.R_drew)); exact HO_8.out)) (by decide) hg); have n1_ := Aside0.mk (blk_grown (g := gb121) (o := .cells #[.int .i64 a0_0, .int .i64 a0_1, .string a0_2] 39 (0, 0)) (by (with_reducible repeat (first | refine blk_drewN ?_ _ | refine blk_drew ?_ | refine blk_alloc ?_ _)); exact BK121.out) hg (Kd.R_ne HO_8.out BK121.out (by decide))); have n2_ := Aside0.mk (hb); have n3_ := Aside0.mk (ho); clear HO_7; clear BK121; clear HB; clear HO_8; have HO_7 := n0_; have BK121 := n1_; have HB := n2_; have HO136 := n3_; clear n0_ n1_ n2_ n3_; clear ho hb hg hat))
                          go_roundg k2
                          case measure => have := HJ4.out; have := HK2.out; omega
                          case rel => exact ⟨(y134), (wrap64 (x29_2 + 1)), (by first | rfl | (simp; done) | (simp [*]; done)), H', ⟨by have := HJ4.out; have := HK2.out; omega⟩, ⟨by (with_reducible repeat (first | apply Kd.R_alloc | apply Kd.R_drewN | apply Kd.R_drew)); exact HO_7.out⟩, ⟨by (with_reducible repeat (first | apply Kd.R_alloc | apply Kd.R_drewN | apply Kd.R_drew)); exact HO136.out⟩, ⟨by (with_reducible repeat (first | refine blk_drewN ?_ _ | refine blk_drew ?_ | refine blk_alloc ?_ _)); exact BK121.out⟩, ⟨by repeat (first | (with_reducible first | exact HB.out | apply below_alloc | apply pw_below_drewN | apply below_drew1 | refine below_set ?_ GE121.out) | exact HB.out)⟩⟩
                        · rw [if_neg c29] at H
                          exact absurd H (by simp)
                    · rw [if_neg c24] at H
                      have c24b0 : (((rd_T39 t125 x29_2).f0) == 2) = false := beq_eq_false_iff_ne.mpr c24
                      have c24b1 : (((rd_T39 t125 x29_2).f0) != 2) = true := bne_iff_ne.mpr c24
                      replace H := Option.bind_eq_some_iff.mp H
                      obtain ⟨t137, A320, H⟩ := H
                      replace H : (if x8_2.length < 8796093022208 then (value_Format.l0 k2 t125 (x8_2 ++ [t137]) l2 (l2.length : Int) (wrap64 (x29_2 + 1)) a0_0 a0_1 a0_2) else (none)) = some r := H
                      have A32 := Aside0.mk A320
                      clear A320
                      by_cases c33 : x8_2.length < 8796093022208
                      · rw [if_pos c33] at H
                        have LMc33 := Aside0.mk c33
                        clear c33
                        obtain ⟨y138, hy138⟩ : ∃ y_ : List ByteArray, y_ = (x8_2 ++ [t137]) := ⟨_, rfl⟩
                        replace H : (value_Format.l0 k2 t125 y138 l2 (l2.length : Int) (wrap64 (x29_2 + 1)) a0_0 a0_1 a0_2) = some r := by first | (rw [hy138]; with_reducible exact H) | (have H2_ := (Option.bind_some _ _).symm.trans H; rw [hy138]; with_reducible exact H2_) | (have H2_ := (Option.bind_some _ _).symm.trans H; with_reducible exact H2_) | with_reducible exact H | (rw [hy138]; exact H) | exact H
                        have Ny138 := Aside0.mk hy138
                        clear hy138
                        have H' := Aside0.mk H
                        clear H
                        have p129 : 0 ≤ (x29_2 : Int) := of_decide_eq_true (by first | (with_reducible assumption) | assumption)
                        have q129 : x29_2 < (l2.length : Int) := of_decide_eq_true (by first | (with_reducible assumption) | assumption)
                        obtain ⟨ad129, e129, hx129_0⟩ := Kd.at_int HR2.out x29_2 p129 q129
                        cases e129
                        replace hx129_0 := (HB.out.cell (World.block_lt_of_cell? w _ hx129_0)).trans hx129_0
                        replace p129 := eq_true p129
                        replace q129 := eq_true q129
                        obtain ⟨Ao34, co34, eo34⟩ := Kd.R_slice HO_7.out
                        subst eo34
                        have p130 : 0 ≤ (x29_2 : Int) := of_decide_eq_true (by first | (with_reducible assumption) | assumption)
                        have q130 : x29_2 < (t125.length : Int) := of_decide_eq_true (by first | (with_reducible assumption) | assumption)
                        obtain ⟨ad130, e130, hx130_0, hx130_1, hx130_2⟩ := at_T39 (Kd.R_reads' HO_7.out).2.2 x29_2 p130 q130
                        cases e130
                        replace p130 := eq_true p130
                        replace q130 := eq_true q130
                        go_wp2_with (first | ((with_reducible refine gate_callee (f := 49) rfl ?_); refine goesL_ (some 46) rfl rfl Try.func49 (by kernel_rfl) rfl #[.int .i64 (rd l2 x29_2)] rfl (by (try simp only [List.map_toArray, List.map_cons, List.map_nil]); first | done | rfl | (simp only [List.length_drop, List.length_take]; rfl)) ?_; (with_reducible refine (value_decimal.calls (rd l2 x29_2) t137 _ A32.out).mono ?_); rintro e w35 ⟨rfl, hb⟩; refine ⟨_, rfl, ?_⟩; have n0_ := Aside0.mk (Kd.R_below (by (with_reducible repeat (first | apply Kd.R_alloc | apply Kd.R_drewN | apply Kd.R_drew)); exact HO_7.out) hb); have n1_ := Aside0.mk (Kd.R_below (by (with_reducible repeat (first | apply Kd.R_alloc | apply Kd.R_drewN | apply Kd.R_drew)); exact HO_8.out) hb); have n2_ := Aside0.mk (blk_below (g := gb121) (o := .cells #[.int .i64 a0_0, .int .i64 a0_1, .string a0_2] 39 (0, 0)) (by (with_reducible repeat (first | refine blk_drewN ?_ _ | refine blk_drew ?_ | refine blk_alloc ?_ _)); exact BK121.out) hb); have n3_ := Aside0.mk (below_step (by repeat (first | (with_reducible first | exact HB.out | apply below_alloc | apply pw_below_drewN | apply below_drew1 | refine below_set ?_ GE121.out) | exact HB.out)) hb); clear HO_7; clear HO_8; clear BK121; clear HB; have HO_7 := n0_; have HO_8 := n1_; have BK121 := n2_; have HB := n3_; clear n0_ n1_ n2_ n3_; (try clear hb); (try clear hb2); (try clear hk); (try clear hi)) | ((with_reducible refine gate_builtin (b := .append) (xs := #[.tmp 44, .tmp 47]) rfl ?_); (try (refine gate_guard (by rfl) ?_; dsimp only)); at_builtin; refine Kd.R_append Kd.string (w0 := w) w.heap.size rfl (.tmp 44) (.tmp 47) 51 9 (.string ⟨#[]⟩) 16 rfl Try.underlying51 info9 rfl (by decide) (by omega) u8 x8_2 t137 [.string t137] (fun _ => True) (fun _ => False) rfl rfl ?aP (fun _ hk => hk.elim) ?aF ?aO ?aB ?aS ?aL ?_; (case aP => exact rfl); (case aB => exact (by repeat (first | (with_reducible first | exact HB.out | apply below_alloc | apply pw_below_drewN | apply below_drew1 | refine below_set ?_ GE121.out) | exact HB.out))); (case aF => exact (fun _ _ => trivial)); (case aO => exact (by (with_reducible repeat (first | apply Kd.R_alloc | apply Kd.R_drewN | apply Kd.R_drew)); exact HO_8.out)); (case aS => exact (below_size (by repeat (first | (with_reducible first | exact HB.out | apply below_alloc | apply pw_below_drewN | apply below_drew1 | refine below_set ?_ GE121.out) | exact HB.out)))); (case aL => have := LMc33.out; omega); intro v139 w36 ho hb hg hat; rw [← Ny138.out] at ho; have n0_ := Aside0.mk (Kd.R_over' (by (with_reducible repeat (first | apply Kd.R_alloc | apply Kd.R_drewN | apply Kd.R_drew)); exact HO_7.out) (Kd.R_typed (by (with_reducible repeat (first | apply Kd.R_alloc | apply Kd.R_drewN | apply Kd.R_drew)); exact HO_8.out)) (by decide) hg); have n1_ := Aside0.mk (blk_grown (g := gb121) (o := .cells #[.int .i64 a0_0, .int .i64 a0_1, .string a0_2] 39 (0, 0)) (by (with_reducible repeat (first | refine blk_drewN ?_ _ | refine blk_drew ?_ | refine blk_alloc ?_ _)); exact BK121.out) hg (Kd.R_ne HO_8.out BK121.out (by decide))); have n2_ := Aside0.mk (hb); have n3_ := Aside0.mk (ho); clear HO_7; clear BK121; clear HB; clear HO_8; have HO_7 := n0_; have BK121 := n1_; have HB := n2_; have HO140 := n3_; clear n0_ n1_ n2_ n3_; clear ho hb hg hat))
                        go_roundg k2
                        case measure => have := HJ4.out; have := HK2.out; omega
                        case rel => exact ⟨(y138), (wrap64 (x29_2 + 1)), (by first | rfl | (simp; done) | (simp [*]; done)), H', ⟨by have := HJ4.out; have := HK2.out; omega⟩, ⟨by (with_reducible repeat (first | apply Kd.R_alloc | apply Kd.R_drewN | apply Kd.R_drew)); exact HO_7.out⟩, ⟨by (with_reducible repeat (first | apply Kd.R_alloc | apply Kd.R_drewN | apply Kd.R_drew)); exact HO140.out⟩, ⟨by (with_reducible repeat (first | refine blk_drewN ?_ _ | refine blk_drew ?_ | refine blk_alloc ?_ _)); exact BK121.out⟩, ⟨by repeat (first | (with_reducible first | exact HB.out | apply below_alloc | apply pw_below_drewN | apply below_drew1 | refine below_set ?_ GE121.out) | exact HB.out)⟩⟩
                      · rw [if_neg c33] at H
                        exact absurd H (by simp)
                  · rw [if_neg c23] at H
                    exact absurd H (by simp)
                · rw [if_neg c22] at H
                  exact absurd H (by simp)
              · rw [if_neg c21] at H
                exact absurd H (by simp)
            · rw [if_neg c20] at H
              have c20b0 : decide (x29_2 < (l2.length : Int)) = false := decide_eq_false c20
              clear c20
              replace H := Option.bind_eq_some_iff.mp H
              obtain ⟨t141, A370, H⟩ := H
              replace H : (if a0_0 = 3 then (if 1 + t141.size ≤ 9223372036854775807 then (if ((⟨#[91]⟩ : ByteArray) ++ t141).size + 1 ≤ 9223372036854775807 then (some (((⟨#[91]⟩ : ByteArray) ++ t141) ++ (⟨#[93]⟩ : ByteArray))) else (none)) else (none)) else (if a0_0 = 4 then (if a0_2.size + 1 ≤ 9223372036854775807 then (if (a0_2 ++ (⟨#[40]⟩ : ByteArray)).size + t141.size ≤ 9223372036854775807 then (if ((a0_2 ++ (⟨#[40]⟩ : ByteArray)) ++ t141).size + 1 ≤ 9223372036854775807 then (some (((a0_2 ++ (⟨#[40]⟩ : ByteArray)) ++ t141) ++ (⟨#[41]⟩ : ByteArray))) else (none)) else (none)) else (none)) else (some t141))) = some r := H
              have A37 := Aside0.mk A370
              clear A370
              by_cases c38 : a0_0 = 3
              · rw [if_pos c38] at H
                have c38b0 : (a0_0 == 3) = true := beq_iff_eq.mpr c38
                have c38b1 : (a0_0 != 3) = false := bne_eq_false_iff_eq.mpr c38
                clear c38
                by_cases c39 : 1 + t141.size ≤ 9223372036854775807
                · rw [if_pos c39] at H
                  have c39b0 := eq_true c39
                  have c39b1 : decide (1 + t141.size ≤ 9223372036854775807) = true := decide_eq_true c39
                  try have c39b2 : (9223372036854775807 < 1 + t141.size) = False := eq_false (Nat.not_lt.2 c39)
                  by_cases c40 : ((⟨#[91]⟩ : ByteArray) ++ t141).size + 1 ≤ 9223372036854775807
                  · rw [if_pos c40] at H
                    have c40b0 := eq_true c40
                    have c40b1 : decide (((⟨#[91]⟩ : ByteArray) ++ t141).size + 1 ≤ 9223372036854775807) = true := decide_eq_true c40
                    try have c40b2 : (9223372036854775807 < ((⟨#[91]⟩ : ByteArray) ++ t141).size + 1) = False := eq_false (Nat.not_lt.2 c40)
                    try (have c40b3 := c40; simp only [ByteArray.size_append, show (⟨#[91]⟩ : ByteArray).size = 1 from rfl] at c40b3; replace c40b3 := eq_false (Nat.not_lt.2 c40b3))
                    obtain rfl := Option.some.inj H
                    obtain ⟨Ao41, co41, eo41⟩ := Kd.R_slice HO_8.out
                    subst eo41
                    go_wp2_with (first | ((with_reducible refine gate_callee (f := 30) rfl ?_); refine goesL_ (some 57) rfl rfl Try.func30 (by kernel_rfl) rfl #[.slice Ao41 x8_2.length co41, .string (⟨#[44, 32]⟩ : ByteArray)] rfl (by (try simp only [List.map_toArray, List.map_cons, List.map_nil]); first | done | rfl | (simp only [List.length_drop, List.length_take]; rfl)) ?_; (with_reducible refine (strings_Join.calls _ _ x8_2 (⟨#[44, 32]⟩ : ByteArray) t141 _ ?side1 ?side2 A37.out).mono ?_); (case side1 => repeat (first | exact (Kd.R_reads' HO_8.out).2.2 | (with_reducible refine Kd.C_alloc ?_ _) | (with_reducible refine Kd.C_drewN ?_ _) | (with_reducible refine Kd.C_drew ?_))); (case side2 => exact (Kd.R_reads' HO_8.out).2.1); rintro e w42 ⟨rfl, hb⟩; refine ⟨_, rfl, ?_⟩; have n0_ := Aside0.mk (Kd.R_below (by (with_reducible repeat (first | apply Kd.R_alloc | apply Kd.R_drewN | apply Kd.R_drew)); exact HO_7.out) hb); have n1_ := Aside0.mk (Kd.R_below (by (with_reducible repeat (first | apply Kd.R_alloc | apply Kd.R_drewN | apply Kd.R_drew)); exact HO_8.out) hb); have n2_ := Aside0.mk (blk_below (g := gb121) (o := .cells #[.int .i64 a0_0, .int .i64 a0_1, .string a0_2] 39 (0, 0)) (by (with_reducible repeat (first | refine blk_drewN ?_ _ | refine blk_drew ?_ | refine blk_alloc ?_ _)); exact BK121.out) hb); have n3_ := Aside0.mk (below_step (by repeat (first | (with_reducible first | exact HB.out | apply below_alloc | apply pw_below_drewN | apply below_drew1 | refine below_set ?_ GE121.out) | exact HB.out)) hb); clear HO_7; clear HO_8; clear BK121; clear HB; have HO_7 := n0_; have HO_8 := n1_; have BK121 := n2_; have HB := n3_; clear n0_ n1_ n2_ n3_; (try clear hb); (try clear hb2); (try clear hk); (try clear hi); have hcz43_0 : w42.cell? ⟨gb121, 0, none⟩ = some (.int .i64 a0_0) := (blk_cell BK121.out 0).trans rfl; have hcz43_1 : w42.cell? ⟨gb121, 1, none⟩ = some (.int .i64 a0_1) := (blk_cell BK121.out 1).trans rfl; have hcz43_2 : w42.cell? ⟨gb121, 2, none⟩ = some (.string a0_2) := (blk_cell BK121.out 2).trans rfl; have hfz43_0 := blk_frozen BK121.out 0; have hfz43_1 := blk_frozen BK121.out 1; have hfz43_2 := blk_frozen BK121.out 2))
                    go_ret
                    exact ⟨by first | rfl | (simp [errW_none, errW_some] <;> rfl) | (simp [*, errW_none, errW_some] <;> rfl), by repeat (first | (with_reducible first | exact HB.out | apply below_alloc | apply pw_below_drewN | apply below_drew1 | refine below_set ?_ GE121.out) | exact HB.out)⟩
                  · rw [if_neg c40] at H
                    exact absurd H (by simp)
                · rw [if_neg c39] at H
                  exact absurd H (by simp)
              · rw [if_neg c38] at H
                have c38b0 : (a0_0 == 3) = false := beq_eq_false_iff_ne.mpr c38
                have c38b1 : (a0_0 != 3) = true := bne_iff_ne.mpr c38
                by_cases c44 : a0_0 = 4
                · rw [if_pos c44] at H
                  have c44b0 : (a0_0 == 4) = true := beq_iff_eq.mpr c44
                  have c44b1 : (a0_0 != 4) = false := bne_eq_false_iff_eq.mpr c44
                  clear c44
                  by_cases c45 : a0_2.size + 1 ≤ 9223372036854775807
                  · rw [if_pos c45] at H
                    have c45b0 := eq_true c45
                    have c45b1 : decide (a0_2.size + 1 ≤ 9223372036854775807) = true := decide_eq_true c45
                    try have c45b2 : (9223372036854775807 < a0_2.size + 1) = False := eq_false (Nat.not_lt.2 c45)
                    by_cases c46 : (a0_2 ++ (⟨#[40]⟩ : ByteArray)).size + t141.size ≤ 9223372036854775807
                    · rw [if_pos c46] at H
                      have c46b0 := eq_true c46
                      have c46b1 : decide ((a0_2 ++ (⟨#[40]⟩ : ByteArray)).size + t141.size ≤ 9223372036854775807) = true := decide_eq_true c46
                      try have c46b2 : (9223372036854775807 < (a0_2 ++ (⟨#[40]⟩ : ByteArray)).size + t141.size) = False := eq_false (Nat.not_lt.2 c46)
                      try (have c46b3 := c46; simp only [ByteArray.size_append, show (⟨#[40]⟩ : ByteArray).size = 1 from rfl] at c46b3; replace c46b3 := eq_false (Nat.not_lt.2 c46b3))
                      by_cases c47 : ((a0_2 ++ (⟨#[40]⟩ : ByteArray)) ++ t141).size + 1 ≤ 9223372036854775807
                      · rw [if_pos c47] at H
                        have c47b0 := eq_true c47
                        have c47b1 : decide (((a0_2 ++ (⟨#[40]⟩ : ByteArray)) ++ t141).size + 1 ≤ 9223372036854775807) = true := decide_eq_true c47
                        try have c47b2 : (9223372036854775807 < ((a0_2 ++ (⟨#[40]⟩ : ByteArray)) ++ t141).size + 1) = False := eq_false (Nat.not_lt.2 c47)
                        try (have c47b3 := c47; simp only [ByteArray.size_append, show (⟨#[40]⟩ : ByteArray).size = 1 from rfl] at c47b3; replace c47b3 := eq_false (Nat.not_lt.2 c47b3))
                        obtain rfl := Option.some.inj H
                        obtain ⟨Ao48, co48, eo48⟩ := Kd.R_slice HO_8.out
                        subst eo48
                        go_wp2_with (first | ((with_reducible refine gate_callee (f := 30) rfl ?_); refine goesL_ (some 57) rfl rfl Try.func30 (by kernel_rfl) rfl #[.slice Ao48 x8_2.length co48, .string (⟨#[44, 32]⟩ : ByteArray)] rfl (by (try simp only [List.map_toArray, List.map_cons, List.map_nil]); first | done | rfl | (simp only [List.length_drop, List.length_take]; rfl)) ?_; (with_reducible refine (strings_Join.calls _ _ x8_2 (⟨#[44, 32]⟩ : ByteArray) t141 _ ?side1 ?side2 A37.out).mono ?_); (case side1 => repeat (first | exact (Kd.R_reads' HO_8.out).2.2 | (with_reducible refine Kd.C_alloc ?_ _) | (with_reducible refine Kd.C_drewN ?_ _) | (with_reducible refine Kd.C_drew ?_))); (case side2 => exact (Kd.R_reads' HO_8.out).2.1); rintro e w49 ⟨rfl, hb⟩; refine ⟨_, rfl, ?_⟩; have n0_ := Aside0.mk (Kd.R_below (by (with_reducible repeat (first | apply Kd.R_alloc | apply Kd.R_drewN | apply Kd.R_drew)); exact HO_7.out) hb); have n1_ := Aside0.mk (Kd.R_below (by (with_reducible repeat (first | apply Kd.R_alloc | apply Kd.R_drewN | apply Kd.R_drew)); exact HO_8.out) hb); have n2_ := Aside0.mk (blk_below (g := gb121) (o := .cells #[.int .i64 a0_0, .int .i64 a0_1, .string a0_2] 39 (0, 0)) (by (with_reducible repeat (first | refine blk_drewN ?_ _ | refine blk_drew ?_ | refine blk_alloc ?_ _)); exact BK121.out) hb); have n3_ := Aside0.mk (below_step (by repeat (first | (with_reducible first | exact HB.out | apply below_alloc | apply pw_below_drewN | apply below_drew1 | refine below_set ?_ GE121.out) | exact HB.out)) hb); clear HO_7; clear HO_8; clear BK121; clear HB; have HO_7 := n0_; have HO_8 := n1_; have BK121 := n2_; have HB := n3_; clear n0_ n1_ n2_ n3_; (try clear hb); (try clear hb2); (try clear hk); (try clear hi); have hcz50_0 : w49.cell? ⟨gb121, 0, none⟩ = some (.int .i64 a0_0) := (blk_cell BK121.out 0).trans rfl; have hcz50_1 : w49.cell? ⟨gb121, 1, none⟩ = some (.int .i64 a0_1) := (blk_cell BK121.out 1).trans rfl; have hcz50_2 : w49.cell? ⟨gb121, 2, none⟩ = some (.string a0_2) := (blk_cell BK121.out 2).trans rfl; have hfz50_0 := blk_frozen BK121.out 0; have hfz50_1 := blk_frozen BK121.out 1; have hfz50_2 := blk_frozen BK121.out 2))
                        go_ret
                        exact ⟨by first | rfl | (simp [errW_none, errW_some] <;> rfl) | (simp [*, errW_none, errW_some] <;> rfl), by repeat (first | (with_reducible first | exact HB.out | apply below_alloc | apply pw_below_drewN | apply below_drew1 | refine below_set ?_ GE121.out) | exact HB.out)⟩
                      · rw [if_neg c47] at H
                        exact absurd H (by simp)
                    · rw [if_neg c46] at H
                      exact absurd H (by simp)
                  · rw [if_neg c45] at H
                    exact absurd H (by simp)
                · rw [if_neg c44] at H
                  have c44b0 : (a0_0 == 4) = false := beq_eq_false_iff_ne.mpr c44
                  have c44b1 : (a0_0 != 4) = true := bne_iff_ne.mpr c44
                  obtain rfl := Option.some.inj H
                  obtain ⟨Ao51, co51, eo51⟩ := Kd.R_slice HO_8.out
                  subst eo51
                  go_wp2_with (first | ((with_reducible refine gate_callee (f := 30) rfl ?_); refine goesL_ (some 57) rfl rfl Try.func30 (by kernel_rfl) rfl #[.slice Ao51 x8_2.length co51, .string (⟨#[44, 32]⟩ : ByteArray)] rfl (by (try simp only [List.map_toArray, List.map_cons, List.map_nil]); first | done | rfl | (simp only [List.length_drop, List.length_take]; rfl)) ?_; (with_reducible refine (strings_Join.calls _ _ x8_2 (⟨#[44, 32]⟩ : ByteArray) t141 _ ?side1 ?side2 A37.out).mono ?_); (case side1 => repeat (first | exact (Kd.R_reads' HO_8.out).2.2 | (with_reducible refine Kd.C_alloc ?_ _) | (with_reducible refine Kd.C_drewN ?_ _) | (with_reducible refine Kd.C_drew ?_))); (case side2 => exact (Kd.R_reads' HO_8.out).2.1); rintro e w52 ⟨rfl, hb⟩; refine ⟨_, rfl, ?_⟩; have n0_ := Aside0.mk (Kd.R_below (by (with_reducible repeat (first | apply Kd.R_alloc | apply Kd.R_drewN | apply Kd.R_drew)); exact HO_7.out) hb); have n1_ := Aside0.mk (Kd.R_below (by (with_reducible repeat (first | apply Kd.R_alloc | apply Kd.R_drewN | apply Kd.R_drew)); exact HO_8.out) hb); have n2_ := Aside0.mk (blk_below (g := gb121) (o := .cells #[.int .i64 a0_0, .int .i64 a0_1, .string a0_2] 39 (0, 0)) (by (with_reducible repeat (first | refine blk_drewN ?_ _ | refine blk_drew ?_ | refine blk_alloc ?_ _)); exact BK121.out) hb); have n3_ := Aside0.mk (below_step (by repeat (first | (with_reducible first | exact HB.out | apply below_alloc | apply pw_below_drewN | apply below_drew1 | refine below_set ?_ GE121.out) | exact HB.out)) hb); clear HO_7; clear HO_8; clear BK121; clear HB; have HO_7 := n0_; have HO_8 := n1_; have BK121 := n2_; have HB := n3_; clear n0_ n1_ n2_ n3_; (try clear hb); (try clear hb2); (try clear hk); (try clear hi); have hcz53_0 : w52.cell? ⟨gb121, 0, none⟩ = some (.int .i64 a0_0) := (blk_cell BK121.out 0).trans rfl; have hcz53_1 : w52.cell? ⟨gb121, 1, none⟩ = some (.int .i64 a0_1) := (blk_cell BK121.out 1).trans rfl; have hcz53_2 : w52.cell? ⟨gb121, 2, none⟩ = some (.string a0_2) := (blk_cell BK121.out 2).trans rfl; have hfz53_0 := blk_frozen BK121.out 0; have hfz53_1 := blk_frozen BK121.out 1; have hfz53_2 := blk_frozen BK121.out 2))
                  go_ret
                  exact ⟨by first | rfl | (simp [errW_none, errW_some] <;> rfl) | (simp [*, errW_none, errW_some] <;> rfl), by repeat (first | (with_reducible first | exact HB.out | apply below_alloc | apply pw_below_drewN | apply below_drew1 | refine below_set ?_ GE121.out) | exact HB.out)⟩
end Go.Proofs.Ytogknojocodhgaa.P
end
