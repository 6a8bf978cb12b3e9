-- Texts of this claim, put together and cut down to what is used (trim.py, a program of this session).
import Derived.Deep.RegionHeld3
import Derived.Laws.EntriesVeiled
import Derived.Test.YtogknojocodhgaaZ16
import Derived.Test.YtogknojocodhgaaZ19
section
namespace Go.Proofs.Ytogknojocodhgaa.P
open Go.RowKit Go.WideMaps Go.Proofs.YtogknojocodhgaaW.PrintWords Go.Proofs.YtogknojocodhgaaW.PrintLast Go.Proofs.YtogknojocodhgaaW.PrintMore
set_option linter.unusedVariables false
set_option linter.unusedSimpArgs false
theorem look_shape1 (w : World) (b n : Nat) (h : w.ownsMap (H := Unit) Try.prog 3 shElem b n shD) :
    (Instr.lookup 95 (.map (some b)) (.int .i64 1) true).run Try.prog w = .ok (.tuple #[.agg #[.func (.func 90) #[] #[], .func (.func 91) #[] #[]], .bool true]) w ∧
    (Instr.lookup 95 (.map (some b)) (.int .i64 1) false).run Try.prog w = .ok (.agg #[.func (.func 90) #[] #[], .func (.func 91) #[] #[]]) w := by
  obtain ⟨es, clock, hb, F, _, hD⟩ := h
  have hk : keyOf Try.prog 3 (.int .i64 1) = some (.int .i64 1) := Maps.keyOf_int_mk Try.underlying3 (by decide)
  have hat0 : shD.atKey (.int .i64 1) (.lit (.int .i64 0)) = .agg [.lit (.int .i64 90), .lit (.int .i64 91)] := by rfl
  refine ⟨?_, ?_⟩
  · rcases Maps.fit_look true lawI Try.underlying95 (zeroS w) hb F hk with ⟨hrun, _, hat⟩ | ⟨e0, y, _, _, hrun, hR, hat, _⟩
    · rw [← hD] at hat; exact absurd ((hat (.lit (.int .i64 0))).symm.trans hat0) (by simp)
    · rw [← hD] at hat
      obtain ⟨n, m, hn, rfl⟩ := shElem_inv hR
      have h1 := (hat (.lit (.int .i64 0))).symm.trans hat0
      obtain ⟨e1, e2⟩ : (n : Int) = 90 ∧ (m : Int) = 91 := by simpa using h1
      rw [hrun, hn, show n = 90 from by omega, show m = 91 from by omega]; rfl
  · rcases Maps.fit_look false lawI Try.underlying95 (zeroS w) hb F hk with ⟨hrun, _, hat⟩ | ⟨e0, y, _, _, hrun, hR, hat, _⟩
    · rw [← hD] at hat; exact absurd ((hat (.lit (.int .i64 0))).symm.trans hat0) (by simp)
    · rw [← hD] at hat
      obtain ⟨n, m, hn, rfl⟩ := shElem_inv hR
      have h1 := (hat (.lit (.int .i64 0))).symm.trans hat0
      obtain ⟨e1, e2⟩ : (n : Int) = 90 ∧ (m : Int) = 91 := by simpa using h1
      rw [hrun, hn, show n = 90 from by omega, show m = 91 from by omega]; rfl
theorem look_shape2 (w : World) (b n : Nat) (h : w.ownsMap (H := Unit) Try.prog 3 shElem b n shD) :
    (Instr.lookup 95 (.map (some b)) (.int .i64 2) true).run Try.prog w = .ok (.tuple #[.agg #[.func (.func 90) #[] #[], .func (.func 91) #[] #[]], .bool true]) w ∧
    (Instr.lookup 95 (.map (some b)) (.int .i64 2) false).run Try.prog w = .ok (.agg #[.func (.func 90) #[] #[], .func (.func 91) #[] #[]]) w := by
  obtain ⟨es, clock, hb, F, _, hD⟩ := h
  have hk : keyOf Try.prog 3 (.int .i64 2) = some (.int .i64 2) := Maps.keyOf_int_mk Try.underlying3 (by decide)
  have hat0 : shD.atKey (.int .i64 2) (.lit (.int .i64 0)) = .agg [.lit (.int .i64 90), .lit (.int .i64 91)] := by rfl
  refine ⟨?_, ?_⟩
  · rcases Maps.fit_look true lawI Try.underlying95 (zeroS w) hb F hk with ⟨hrun, _, hat⟩ | ⟨e0, y, _, _, hrun, hR, hat, _⟩
    · rw [← hD] at hat; exact absurd ((hat (.lit (.int .i64 0))).symm.trans hat0) (by simp)
    · rw [← hD] at hat
      obtain ⟨n, m, hn, rfl⟩ := shElem_inv hR
      have h1 := (hat (.lit (.int .i64 0))).symm.trans hat0
      obtain ⟨e1, e2⟩ : (n : Int) = 90 ∧ (m : Int) = 91 := by simpa using h1
      rw [hrun, hn, show n = 90 from by omega, show m = 91 from by omega]; rfl
  · rcases Maps.fit_look false lawI Try.underlying95 (zeroS w) hb F hk with ⟨hrun, _, hat⟩ | ⟨e0, y, _, _, hrun, hR, hat, _⟩
    · rw [← hD] at hat; exact absurd ((hat (.lit (.int .i64 0))).symm.trans hat0) (by simp)
    · rw [← hD] at hat
      obtain ⟨n, m, hn, rfl⟩ := shElem_inv hR
      have h1 := (hat (.lit (.int .i64 0))).symm.trans hat0
      obtain ⟨e1, e2⟩ : (n : Int) = 90 ∧ (m : Int) = 91 := by simpa using h1
      rw [hrun, hn, show n = 90 from by omega, show m = 91 from by omega]; rfl
theorem look_shape3 (w : World) (b n : Nat) (h : w.ownsMap (H := Unit) Try.prog 3 shElem b n shD) :
    (Instr.lookup 95 (.map (some b)) (.int .i64 3) true).run Try.prog w = .ok (.tuple #[.agg #[.func (.func 92) #[] #[], .func (.func 93) #[] #[]], .bool true]) w ∧
    (Instr.lookup 95 (.map (some b)) (.int .i64 3) false).run Try.prog w = .ok (.agg #[.func (.func 92) #[] #[], .func (.func 93) #[] #[]]) w := by
  obtain ⟨es, clock, hb, F, _, hD⟩ := h
  have hk : keyOf Try.prog 3 (.int .i64 3) = some (.int .i64 3) := Maps.keyOf_int_mk Try.underlying3 (by decide)
  have hat0 : shD.atKey (.int .i64 3) (.lit (.int .i64 0)) = .agg [.lit (.int .i64 92), .lit (.int .i64 93)] := by rfl
  refine ⟨?_, ?_⟩
  · rcases Maps.fit_look true lawI Try.underlying95 (zeroS w) hb F hk with ⟨hrun, _, hat⟩ | ⟨e0, y, _, _, hrun, hR, hat, _⟩
    · rw [← hD] at hat; exact absurd ((hat (.lit (.int .i64 0))).symm.trans hat0) (by simp)
    · rw [← hD] at hat
      obtain ⟨n, m, hn, rfl⟩ := shElem_inv hR
      have h1 := (hat (.lit (.int .i64 0))).symm.trans hat0
      obtain ⟨e1, e2⟩ : (n : Int) = 92 ∧ (m : Int) = 93 := by simpa using h1
      rw [hrun, hn, show n = 92 from by omega, show m = 93 from by omega]; rfl
  · rcases Maps.fit_look false lawI Try.underlying95 (zeroS w) hb F hk with ⟨hrun, _, hat⟩ | ⟨e0, y, _, _, hrun, hR, hat, _⟩
    · rw [← hD] at hat; exact absurd ((hat (.lit (.int .i64 0))).symm.trans hat0) (by simp)
    · rw [← hD] at hat
      obtain ⟨n, m, hn, rfl⟩ := shElem_inv hR
      have h1 := (hat (.lit (.int .i64 0))).symm.trans hat0
      obtain ⟨e1, e2⟩ : (n : Int) = 92 ∧ (m : Int) = 93 := by simpa using h1
      rw [hrun, hn, show n = 92 from by omega, show m = 93 from by omega]; rfl
theorem look_none (w : World) (b n : Nat) (k : Int) (hk : (Lit.int .i64 k).wf = true) (h1 : k ≠ 1) (h2 : k ≠ 2) (h3 : k ≠ 3) (h4 : k ≠ 4) (h : w.ownsMap (H := Unit) Try.prog 3 shElem b n shD) :
    (Instr.lookup 95 (.map (some b)) (.int .i64 k) true).run Try.prog w = .ok (.tuple #[.agg #[.nilFunc, .nilFunc], .bool false]) w := by
  obtain ⟨es, clock, hb, F, _, hD⟩ := h
  have hkey : keyOf Try.prog 3 (.int .i64 k) = some (.int .i64 k) := Maps.keyOf_int_mk Try.underlying3 hk
  have hat0 : shD.atKey (.int .i64 k) (.lit (.int .i64 0)) = .lit (.int .i64 0) := by
    unfold shD
    rw [Maps.atKey_put_other (by intro e; injection e with e1 e2; omega), Maps.atKey_put_other (by intro e; injection e with e1 e2; omega), Maps.atKey_put_other (by intro e; injection e with e1 e2; omega), Maps.atKey_put_other (by intro e; injection e with e1 e2; omega)]
    rfl
  rcases Maps.fit_look true lawI Try.underlying95 (zeroS w) hb F hkey with ⟨hrun, _, hat⟩ | ⟨e0, y, _, _, hrun, hR, hat, _⟩
  · rw [hrun]; rfl
  · rw [← hD] at hat
    obtain ⟨n, m, hn, rfl⟩ := shElem_inv hR
    have h1 := (hat (.lit (.int .i64 0))).symm.trans hat0
    simp at h1
set_option maxHeartbeats 2000000 in
set_option maxRecDepth 100000 in
theorem valid_1 (a0_1 : Int) (a0_2 : ByteArray) (A1 : Option Addr) (c1 : Nat) (l1 : List S57) (w : World) (hr1 : Kd.C k57 w A1 l1.length l1) :
    Calls Try.prog 44 #[.agg #[.int .i64 1, .int .i64 a0_1, .string a0_2], .slice A1 l1.length c1] w fun e w' => e = .returned (.bool (decide (a0_1 = 0) && noRec a0_2)) ∧ Below w.heap.size w w' := by
  have HR := Aside0.mk hr1
  have HB0 : Aside0 (Below w.heap.size w ((w.alloc (.cells #[.int .i64 1, .int .i64 a0_1, .string a0_2] 39)).alloc (.cells #[.nilFunc, .nilFunc] 93))) := ⟨((Below.refl _ _).alloc (Nat.le_refl _) _).alloc (by simp) _⟩
  have hT : ((w.alloc (.cells #[.int .i64 1, .int .i64 a0_1, .string a0_2] 39)).alloc (.cells #[.nilFunc, .nilFunc] 93)).heap[w.heap.size]? = some (.cells #[.int .i64 1, .int .i64 a0_1, .string a0_2] 39 (0, 0)) := by
    exact (Below.heap_alloc _ _ _ (by simp)).trans (MapKept.heap_alloc w _).1
  have hS : ((w.alloc (.cells #[.int .i64 1, .int .i64 a0_1, .string a0_2] 39)).alloc (.cells #[.nilFunc, .nilFunc] 93)).heap[w.heap.size + 1]? = some (.cells #[.nilFunc, .nilFunc] 93 (0, 0)) := by
    have h := (MapKept.heap_alloc (w.alloc (.cells #[.int .i64 1, .int .i64 a0_1, .string a0_2] 39)) (.cells #[.nilFunc, .nilFunc] 93)).1
    simpa using h
  have HB00 : Aside0 (Below w.heap.size w (w.alloc (.cells #[.int .i64 1, .int .i64 a0_1, .string a0_2] 39))) := ⟨(Below.refl _ _).alloc (Nat.le_refl _) _⟩
  have HT := Aside0.mk hT
  have HS := Aside0.mk hS
  have mixed : Try.prog.follows Departure.mixedOrders = true := by kernel_rfl
  have hpT : (w.alloc (.cells #[.int .i64 1, .int .i64 a0_1, .string a0_2] 39)).cell? ⟨w.heap.size, 0, none⟩ = some (.int .i64 1) := blk_cell (MapKept.heap_alloc w _).1 0
  have hp0 : ((w.alloc (.cells #[.int .i64 1, .int .i64 a0_1, .string a0_2] 39)).alloc (.cells #[.nilFunc, .nilFunc] 93)).drew.cell? ⟨w.heap.size, 0, none⟩ = some (.int .i64 1) := blk_cell hT 0
  have HU : Aside0 (∀ w1 : World, Below w.heap.size w w1 → Below w.heap.size w (w1.alloc (.cells #[.func (.func 90) #[] #[], .func (.func 91) #[] #[]] 93))) := ⟨fun w1 h => h.alloc h.size _⟩
  have HV : Aside0 (∀ w1 : World, Below w.heap.size w w1 → Below w.heap.size w ((w1.setCell ⟨w.heap.size + 1, 0, none⟩ (.func (.func 90) #[] #[])).setCell ⟨w.heap.size + 1, 1, none⟩ (.func (.func 91) #[] #[]))) := ⟨fun w1 h => below_set (below_set h (by omega)) (by omega)⟩
  clear hr1 hT hS
  go_enter Try.func44, Try.ntmps44
  go_wp2_with fail
  go_region_held3 (fun w' => w'.cell? ⟨w.heap.size, 0, none⟩ = some (.int .i64 1)) (first | go_keep | exact hzw | exact (World.cell?_alloc_lt _ _ _ (World.block_lt_of_cell? _ _ hzw)).trans hzw | (refine (hb.cell (p := ⟨w.heap.size, 0, none⟩) (by simp <;> omega)).trans ?_; first | assumption | exact hp0 | exact hpT))
    (first | (go_at_call 76; refine (shapes_calls _).mono ?_; rintro e w1 ⟨rfl, hown, hb⟩; have hzw : w1.cell? ⟨w.heap.size, 0, none⟩ = some (.int .i64 1) := (hb.cell (p := ⟨w.heap.size, 0, none⟩) (by simp <;> omega)).trans (by first | assumption | exact hp0 | exact hpT); have HB1 : Aside0 (Below w.heap.size w w1) := ⟨by (refine Below.trans ?_ (hb.mono ?_)) <;> first | exact HB0.out | exact HB00.out | exact HB0.out.drew | exact HB00.out.drew | (simp; done) | (simp; omega) | omega⟩; have hT1 : w1.heap[w.heap.size]? = some (.cells #[.int .i64 1, .int .i64 a0_1, .string a0_2] 39 (0, 0)) := (by rw [hb.block _ (by simp <;> omega)]; first | exact HT.out | exact (MapKept.heap_alloc w _).1); have ht0 : w1.cell? ⟨w.heap.size, 0, none⟩ = some (.int .i64 1) := blk_cell hT1 0; have ht1 : w1.cell? ⟨w.heap.size, 1, none⟩ = some (.int .i64 a0_1) := blk_cell hT1 1; have ht2 : w1.cell? ⟨w.heap.size, 2, none⟩ = some (.string a0_2) := blk_cell hT1 2; have hu0 : (w1.alloc (.cells #[.func (.func 90) #[] #[], .func (.func 91) #[] #[]] 93)).cell? ⟨w.heap.size, 0, none⟩ = some (.int .i64 1) := (World.cell?_alloc_lt _ _ _ (blk_lt hT1)).trans (blk_cell hT1 0); have hu1 : (w1.alloc (.cells #[.func (.func 90) #[] #[], .func (.func 91) #[] #[]] 93)).cell? ⟨w.heap.size, 1, none⟩ = some (.int .i64 a0_1) := (World.cell?_alloc_lt _ _ _ (blk_lt hT1)).trans (blk_cell hT1 1); have hu2 : (w1.alloc (.cells #[.func (.func 90) #[] #[], .func (.func 91) #[] #[]] 93)).cell? ⟨w.heap.size, 2, none⟩ = some (.string a0_2) := (World.cell?_alloc_lt _ _ _ (blk_lt hT1)).trans (blk_cell hT1 2); first | (have hlk := (look_shape1 w1 (w.heap.size + 1) _ (by simpa using hown)).1; have hlk2 := (look_shape1 (w1.alloc (.cells #[.nilFunc, .nilFunc] 93)) (w.heap.size + 1) _ (World.ownsMap.alloc (by simpa using hown) _)).1; have hS := (MapKept.heap_alloc w1 (.cells #[.nilFunc, .nilFunc] 93)).1; have hs0 : (w1.alloc (.cells #[.nilFunc, .nilFunc] 93)).cell? ⟨w1.heap.size, 0, none⟩ = some .nilFunc := blk_cell hS 0; have hs1 : (w1.alloc (.cells #[.nilFunc, .nilFunc] 93)).cell? ⟨w1.heap.size, 1, none⟩ = some .nilFunc := blk_cell hS 1; have hsf0 : (w1.alloc (.cells #[.nilFunc, .nilFunc] 93)).frozen? ⟨w1.heap.size, 0, none⟩ = false := blk_frozen hS 0; have hsf1 : (w1.alloc (.cells #[.nilFunc, .nilFunc] 93)).frozen? ⟨w1.heap.size, 1, none⟩ = false := blk_frozen hS 1; clear hS) | (have hlk := (look_shape1 w1 (w.heap.size + 2) _ (by simpa using hown)).1; have hS : w1.heap[w.heap.size + 1]? = some (.cells #[.nilFunc, .nilFunc] 93 (0, 0)) := (by rw [hb.block _ (by simp)]; exact HS.out); have hs0 := blk_cell hS 0; have hs1 := blk_cell hS 1; have hsf0 := blk_frozen hS 0; have hsf1 := blk_frozen hS 1; clear hS)))
  all_goals (
    go_wp2_with fail
    first
    | (have hbW := HU.out _ HB1.out; refine (shape1_calls 1 a0_1 a0_2 A1 c1 l1 _).mono ?_; rintro e w9 ⟨rfl, hb9⟩; have HB9 : Aside0 (Below w.heap.size w w9) := ⟨hbW.trans (hb9.mono hbW.size)⟩; clear hb9 hbW)
    | (have hbW := HV.out _ HB1.out; refine (shape1_calls 1 a0_1 a0_2 A1 c1 l1 _).mono ?_; rintro e w9 ⟨rfl, hb9⟩; have HB9 : Aside0 (Below w.heap.size w w9) := ⟨hbW.trans (hb9.mono hbW.size)⟩; clear hb9 hbW)
    go_wp2
    go_ret
    exact ⟨rfl, HB9.out⟩)
set_option maxHeartbeats 2000000 in
set_option maxRecDepth 100000 in
theorem valid_2 (a0_1 : Int) (a0_2 : ByteArray) (A1 : Option Addr) (c1 : Nat) (l1 : List S57) (w : World) (hr1 : Kd.C k57 w A1 l1.length l1) :
    Calls Try.prog 44 #[.agg #[.int .i64 2, .int .i64 a0_1, .string a0_2], .slice A1 l1.length c1] w fun e w' => e = .returned (.bool (decide (a0_1 = 0) && noRec a0_2)) ∧ Below w.heap.size w w' := by
  have HR := Aside0.mk hr1
  have HB0 : Aside0 (Below w.heap.size w ((w.alloc (.cells #[.int .i64 2, .int .i64 a0_1, .string a0_2] 39)).alloc (.cells #[.nilFunc, .nilFunc] 93))) := ⟨((Below.refl _ _).alloc (Nat.le_refl _) _).alloc (by simp) _⟩
  have hT : ((w.alloc (.cells #[.int .i64 2, .int .i64 a0_1, .string a0_2] 39)).alloc (.cells #[.nilFunc, .nilFunc] 93)).heap[w.heap.size]? = some (.cells #[.int .i64 2, .int .i64 a0_1, .string a0_2] 39 (0, 0)) := by
    exact (Below.heap_alloc _ _ _ (by simp)).trans (MapKept.heap_alloc w _).1
  have hS : ((w.alloc (.cells #[.int .i64 2, .int .i64 a0_1, .string a0_2] 39)).alloc (.cells #[.nilFunc, .nilFunc] 93)).heap[w.heap.size + 1]? = some (.cells #[.nilFunc, .nilFunc] 93 (0, 0)) := by
    have h := (MapKept.heap_alloc (w.alloc (.cells #[.int .i64 2, .int .i64 a0_1, .string a0_2] 39)) (.cells #[.nilFunc, .nilFunc] 93)).1
    simpa using h
  have HB00 : Aside0 (Below w.heap.size w (w.alloc (.cells #[.int .i64 2, .int .i64 a0_1, .string a0_2] 39))) := ⟨(Below.refl _ _).alloc (Nat.le_refl _) _⟩
  have HT := Aside0.mk hT
  have HS := Aside0.mk hS
  have mixed : Try.prog.follows Departure.mixedOrders = true := by kernel_rfl
  have hpT : (w.alloc (.cells #[.int .i64 2, .int .i64 a0_1, .string a0_2] 39)).cell? ⟨w.heap.size, 0, none⟩ = some (.int .i64 2) := blk_cell (MapKept.heap_alloc w _).1 0
  have hp0 : ((w.alloc (.cells #[.int .i64 2, .int .i64 a0_1, .string a0_2] 39)).alloc (.cells #[.nilFunc, .nilFunc] 93)).drew.cell? ⟨w.heap.size, 0, none⟩ = some (.int .i64 2) := blk_cell hT 0
  have HU : Aside0 (∀ w1 : World, Below w.heap.size w w1 → Below w.heap.size w (w1.alloc (.cells #[.func (.func 90) #[] #[], .func (.func 91) #[] #[]] 93))) := ⟨fun w1 h => h.alloc h.size _⟩
  have HV : Aside0 (∀ w1 : World, Below w.heap.size w w1 → Below w.heap.size w ((w1.setCell ⟨w.heap.size + 1, 0, none⟩ (.func (.func 90) #[] #[])).setCell ⟨w.heap.size + 1, 1, none⟩ (.func (.func 91) #[] #[]))) := ⟨fun w1 h => below_set (below_set h (by omega)) (by omega)⟩
  clear hr1 hT hS
  go_enter Try.func44, Try.ntmps44
  go_wp2_with fail
  go_region_held3 (fun w' => w'.cell? ⟨w.heap.size, 0, none⟩ = some (.int .i64 2)) (first | go_keep | exact hzw | exact (World.cell?_alloc_lt _ _ _ (World.block_lt_of_cell? _ _ hzw)).trans hzw | (refine (hb.cell (p := ⟨w.heap.size, 0, none⟩) (by simp <;> omega)).trans ?_; first | assumption | exact hp0 | exact hpT))
    (first | (go_at_call 76; refine (shapes_calls _).mono ?_; rintro e w1 ⟨rfl, hown, hb⟩; have hzw : w1.cell? ⟨w.heap.size, 0, none⟩ = some (.int .i64 2) := (hb.cell (p := ⟨w.heap.size, 0, none⟩) (by simp <;> omega)).trans (by first | assumption | exact hp0 | exact hpT); have HB1 : Aside0 (Below w.heap.size w w1) := ⟨by (refine Below.trans ?_ (hb.mono ?_)) <;> first | exact HB0.out | exact HB00.out | exact HB0.out.drew | exact HB00.out.drew | (simp; done) | (simp; omega) | omega⟩; have hT1 : w1.heap[w.heap.size]? = some (.cells #[.int .i64 2, .int .i64 a0_1, .string a0_2] 39 (0, 0)) := (by rw [hb.block _ (by simp <;> omega)]; first | exact HT.out | exact (MapKept.heap_alloc w _).1); have ht0 : w1.cell? ⟨w.heap.size, 0, none⟩ = some (.int .i64 2) := blk_cell hT1 0; have ht1 : w1.cell? ⟨w.heap.size, 1, none⟩ = some (.int .i64 a0_1) := blk_cell hT1 1; have ht2 : w1.cell? ⟨w.heap.size, 2, none⟩ = some (.string a0_2) := blk_cell hT1 2; have hu0 : (w1.alloc (.cells #[.func (.func 90) #[] #[], .func (.func 91) #[] #[]] 93)).cell? ⟨w.heap.size, 0, none⟩ = some (.int .i64 2) := (World.cell?_alloc_lt _ _ _ (blk_lt hT1)).trans (blk_cell hT1 0); have hu1 : (w1.alloc (.cells #[.func (.func 90) #[] #[], .func (.func 91) #[] #[]] 93)).cell? ⟨w.heap.size, 1, none⟩ = some (.int .i64 a0_1) := (World.cell?_alloc_lt _ _ _ (blk_lt hT1)).trans (blk_cell hT1 1); have hu2 : (w1.alloc (.cells #[.func (.func 90) #[] #[], .func (.func 91) #[] #[]] 93)).cell? ⟨w.heap.size, 2, none⟩ = some (.string a0_2) := (World.cell?_alloc_lt _ _ _ (blk_lt hT1)).trans (blk_cell hT1 2); first | (have hlk := (look_shape2 w1 (w.heap.size + 1) _ (by simpa using hown)).1; have hlk2 := (look_shape2 (w1.alloc (.cells #[.nilFunc, .nilFunc] 93)) (w.heap.size + 1) _ (World.ownsMap.alloc (by simpa using hown) _)).1; have hS := (MapKept.heap_alloc w1 (.cells #[.nilFunc, .nilFunc] 93)).1; have hs0 : (w1.alloc (.cells #[.nilFunc, .nilFunc] 93)).cell? ⟨w1.heap.size, 0, none⟩ = some .nilFunc := blk_cell hS 0; have hs1 : (w1.alloc (.cells #[.nilFunc, .nilFunc] 93)).cell? ⟨w1.heap.size, 1, none⟩ = some .nilFunc := blk_cell hS 1; have hsf0 : (w1.alloc (.cells #[.nilFunc, .nilFunc] 93)).frozen? ⟨w1.heap.size, 0, none⟩ = false := blk_frozen hS 0; have hsf1 : (w1.alloc (.cells #[.nilFunc, .nilFunc] 93)).frozen? ⟨w1.heap.size, 1, none⟩ = false := blk_frozen hS 1; clear hS) | (have hlk := (look_shape2 w1 (w.heap.size + 2) _ (by simpa using hown)).1; have hS : w1.heap[w.heap.size + 1]? = some (.cells #[.nilFunc, .nilFunc] 93 (0, 0)) := (by rw [hb.block _ (by simp)]; exact HS.out); have hs0 := blk_cell hS 0; have hs1 := blk_cell hS 1; have hsf0 := blk_frozen hS 0; have hsf1 := blk_frozen hS 1; clear hS)))
  all_goals (
    go_wp2_with fail
    first
    | (have hbW := HU.out _ HB1.out; refine (shape1_calls 2 a0_1 a0_2 A1 c1 l1 _).mono ?_; rintro e w9 ⟨rfl, hb9⟩; have HB9 : Aside0 (Below w.heap.size w w9) := ⟨hbW.trans (hb9.mono hbW.size)⟩; clear hb9 hbW)
    | (have hbW := HV.out _ HB1.out; refine (shape1_calls 2 a0_1 a0_2 A1 c1 l1 _).mono ?_; rintro e w9 ⟨rfl, hb9⟩; have HB9 : Aside0 (Below w.heap.size w w9) := ⟨hbW.trans (hb9.mono hbW.size)⟩; clear hb9 hbW)
    go_wp2
    go_ret
    exact ⟨rfl, HB9.out⟩)
set_option maxHeartbeats 2000000 in
set_option maxRecDepth 100000 in
theorem valid_3 (a0_1 : Int) (a0_2 : ByteArray) (A1 : Option Addr) (c1 : Nat) (l1 : List S57) (w : World) (hr1 : Kd.C k57 w A1 l1.length l1) :
    Calls Try.prog 44 #[.agg #[.int .i64 3, .int .i64 a0_1, .string a0_2], .slice A1 l1.length c1] w fun e w' => e = .returned (.bool (decide (1 ≤ a0_1) && (decide (a0_1 ≤ 8) && noRec a0_2))) ∧ Below w.heap.size w w' := by
  have HR := Aside0.mk hr1
  have HB0 : Aside0 (Below w.heap.size w ((w.alloc (.cells #[.int .i64 3, .int .i64 a0_1, .string a0_2] 39)).alloc (.cells #[.nilFunc, .nilFunc] 93))) := ⟨((Below.refl _ _).alloc (Nat.le_refl _) _).alloc (by simp) _⟩
  have hT : ((w.alloc (.cells #[.int .i64 3, .int .i64 a0_1, .string a0_2] 39)).alloc (.cells #[.nilFunc, .nilFunc] 93)).heap[w.heap.size]? = some (.cells #[.int .i64 3, .int .i64 a0_1, .string a0_2] 39 (0, 0)) := by
    exact (Below.heap_alloc _ _ _ (by simp)).trans (MapKept.heap_alloc w _).1
  have hS : ((w.alloc (.cells #[.int .i64 3, .int .i64 a0_1, .string a0_2] 39)).alloc (.cells #[.nilFunc, .nilFunc] 93)).heap[w.heap.size + 1]? = some (.cells #[.nilFunc, .nilFunc] 93 (0, 0)) := by
    have h := (MapKept.heap_alloc (w.alloc (.cells #[.int .i64 3, .int .i64 a0_1, .string a0_2] 39)) (.cells #[.nilFunc, .nilFunc] 93)).1
    simpa using h
  have HB00 : Aside0 (Below w.heap.size w (w.alloc (.cells #[.int .i64 3, .int .i64 a0_1, .string a0_2] 39))) := ⟨(Below.refl _ _).alloc (Nat.le_refl _) _⟩
  have HT := Aside0.mk hT
  have HS := Aside0.mk hS
  have mixed : Try.prog.follows Departure.mixedOrders = true := by kernel_rfl
  have hpT : (w.alloc (.cells #[.int .i64 3, .int .i64 a0_1, .string a0_2] 39)).cell? ⟨w.heap.size, 0, none⟩ = some (.int .i64 3) := blk_cell (MapKept.heap_alloc w _).1 0
  have hp0 : ((w.alloc (.cells #[.int .i64 3, .int .i64 a0_1, .string a0_2] 39)).alloc (.cells #[.nilFunc, .nilFunc] 93)).drew.cell? ⟨w.heap.size, 0, none⟩ = some (.int .i64 3) := blk_cell hT 0
  have HU : Aside0 (∀ w1 : World, Below w.heap.size w w1 → Below w.heap.size w (w1.alloc (.cells #[.func (.func 92) #[] #[], .func (.func 93) #[] #[]] 93))) := ⟨fun w1 h => h.alloc h.size _⟩
  have HV : Aside0 (∀ w1 : World, Below w.heap.size w w1 → Below w.heap.size w ((w1.setCell ⟨w.heap.size + 1, 0, none⟩ (.func (.func 92) #[] #[])).setCell ⟨w.heap.size + 1, 1, none⟩ (.func (.func 93) #[] #[]))) := ⟨fun w1 h => below_set (below_set h (by omega)) (by omega)⟩
  clear hr1 hT hS
  go_enter Try.func44, Try.ntmps44
  go_wp2_with fail
  go_region_held3 (fun w' => w'.cell? ⟨w.heap.size, 0, none⟩ = some (.int .i64 3)) (first | go_keep | exact hzw | exact (World.cell?_alloc_lt _ _ _ (World.block_lt_of_cell? _ _ hzw)).trans hzw | (refine (hb.cell (p := ⟨w.heap.size, 0, none⟩) (by simp <;> omega)).trans ?_; first | assumption | exact hp0 | exact hpT))
    (first | (go_at_call 76; refine (shapes_calls _).mono ?_; rintro e w1 ⟨rfl, hown, hb⟩; have hzw : w1.cell? ⟨w.heap.size, 0, none⟩ = some (.int .i64 3) := (hb.cell (p := ⟨w.heap.size, 0, none⟩) (by simp <;> omega)).trans (by first | assumption | exact hp0 | exact hpT); have HB1 : Aside0 (Below w.heap.size w w1) := ⟨by (refine Below.trans ?_ (hb.mono ?_)) <;> first | exact HB0.out | exact HB00.out | exact HB0.out.drew | exact HB00.out.drew | (simp; done) | (simp; omega) | omega⟩; have hT1 : w1.heap[w.heap.size]? = some (.cells #[.int .i64 3, .int .i64 a0_1, .string a0_2] 39 (0, 0)) := (by rw [hb.block _ (by simp <;> omega)]; first | exact HT.out | exact (MapKept.heap_alloc w _).1); have ht0 : w1.cell? ⟨w.heap.size, 0, none⟩ = some (.int .i64 3) := blk_cell hT1 0; have ht1 : w1.cell? ⟨w.heap.size, 1, none⟩ = some (.int .i64 a0_1) := blk_cell hT1 1; have ht2 : w1.cell? ⟨w.heap.size, 2, none⟩ = some (.string a0_2) := blk_cell hT1 2; have hu0 : (w1.alloc (.cells #[.func (.func 92) #[] #[], .func (.func 93) #[] #[]] 93)).cell? ⟨w.heap.size, 0, none⟩ = some (.int .i64 3) := (World.cell?_alloc_lt _ _ _ (blk_lt hT1)).trans (blk_cell hT1 0); have hu1 : (w1.alloc (.cells #[.func (.func 92) #[] #[], .func (.func 93) #[] #[]] 93)).cell? ⟨w.heap.size, 1, none⟩ = some (.int .i64 a0_1) := (World.cell?_alloc_lt _ _ _ (blk_lt hT1)).trans (blk_cell hT1 1); have hu2 : (w1.alloc (.cells #[.func (.func 92) #[] #[], .func (.func 93) #[] #[]] 93)).cell? ⟨w.heap.size, 2, none⟩ = some (.string a0_2) := (World.cell?_alloc_lt _ _ _ (blk_lt hT1)).trans (blk_cell hT1 2); first | (have hlk := (look_shape3 w1 (w.heap.size + 1) _ (by simpa using hown)).1; have hlk2 := (look_shape3 (w1.alloc (.cells #[.nilFunc, .nilFunc] 93)) (w.heap.size + 1) _ (World.ownsMap.alloc (by simpa using hown) _)).1; have hS := (MapKept.heap_alloc w1 (.cells #[.nilFunc, .nilFunc] 93)).1; have hs0 : (w1.alloc (.cells #[.nilFunc, .nilFunc] 93)).cell? ⟨w1.heap.size, 0, none⟩ = some .nilFunc := blk_cell hS 0; have hs1 : (w1.alloc (.cells #[.nilFunc, .nilFunc] 93)).cell? ⟨w1.heap.size, 1, none⟩ = some .nilFunc := blk_cell hS 1; have hsf0 : (w1.alloc (.cells #[.nilFunc, .nilFunc] 93)).frozen? ⟨w1.heap.size, 0, none⟩ = false := blk_frozen hS 0; have hsf1 : (w1.alloc (.cells #[.nilFunc, .nilFunc] 93)).frozen? ⟨w1.heap.size, 1, none⟩ = false := blk_frozen hS 1; clear hS) | (have hlk := (look_shape3 w1 (w.heap.size + 2) _ (by simpa using hown)).1; have hS : w1.heap[w.heap.size + 1]? = some (.cells #[.nilFunc, .nilFunc] 93 (0, 0)) := (by rw [hb.block _ (by simp)]; exact HS.out); have hs0 := blk_cell hS 0; have hs1 := blk_cell hS 1; have hsf0 := blk_frozen hS 0; have hsf1 := blk_frozen hS 1; clear hS)))
  all_goals (
    go_wp2_with fail
    first
    | (have hbW := HU.out _ HB1.out; refine (shape3_calls 3 a0_1 a0_2 A1 c1 l1 _).mono ?_; rintro e w9 ⟨rfl, hb9⟩; have HB9 : Aside0 (Below w.heap.size w w9) := ⟨hbW.trans (hb9.mono hbW.size)⟩; clear hb9 hbW)
    | (have hbW := HV.out _ HB1.out; refine (shape3_calls 3 a0_1 a0_2 A1 c1 l1 _).mono ?_; rintro e w9 ⟨rfl, hb9⟩; have HB9 : Aside0 (Below w.heap.size w w9) := ⟨hbW.trans (hb9.mono hbW.size)⟩; clear hb9 hbW)
    go_wp2
    go_ret
    exact ⟨rfl, HB9.out⟩)
set_option maxHeartbeats 2000000 in
set_option maxRecDepth 100000 in
theorem valid_4 (a0_1 : Int) (a0_2 : ByteArray) (A1 : Option Addr) (c1 : Nat) (l1 : List S57) (w : World) (hr1 : Kd.C k57 w A1 l1.length l1) :
    Calls Try.prog 44 #[.agg #[.int .i64 4, .int .i64 a0_1, .string a0_2], .slice A1 l1.length c1] w fun e w' => e = .returned (.bool (decide (a0_1 = 0) && hasRec l1 a0_2)) ∧ Below w.heap.size w w' := by
  have HR := Aside0.mk hr1
  have HB0 : Aside0 (Below w.heap.size w ((w.alloc (.cells #[.int .i64 4, .int .i64 a0_1, .string a0_2] 39)).alloc (.cells #[.nilFunc, .nilFunc] 93))) := ⟨((Below.refl _ _).alloc (Nat.le_refl _) _).alloc (by simp) _⟩
  have hT : ((w.alloc (.cells #[.int .i64 4, .int .i64 a0_1, .string a0_2] 39)).alloc (.cells #[.nilFunc, .nilFunc] 93)).heap[w.heap.size]? = some (.cells #[.int .i64 4, .int .i64 a0_1, .string a0_2] 39 (0, 0)) := by
    exact (Below.heap_alloc _ _ _ (by simp)).trans (MapKept.heap_alloc w _).1
  have hS : ((w.alloc (.cells #[.int .i64 4, .int .i64 a0_1, .string a0_2] 39)).alloc (.cells #[.nilFunc, .nilFunc] 93)).heap[w.heap.size + 1]? = some (.cells #[.nilFunc, .nilFunc] 93 (0, 0)) := by
    have h := (MapKept.heap_alloc (w.alloc (.cells #[.int .i64 4, .int .i64 a0_1, .string a0_2] 39)) (.cells #[.nilFunc, .nilFunc] 93)).1
    simpa using h
  have HB00 : Aside0 (Below w.heap.size w (w.alloc (.cells #[.int .i64 4, .int .i64 a0_1, .string a0_2] 39))) := ⟨(Below.refl _ _).alloc (Nat.le_refl _) _⟩
  have HT := Aside0.mk hT
  have HS := Aside0.mk hS
  have mixed : Try.prog.follows Departure.mixedOrders = true := by kernel_rfl
  have hpT : (w.alloc (.cells #[.int .i64 4, .int .i64 a0_1, .string a0_2] 39)).cell? ⟨w.heap.size, 0, none⟩ = some (.int .i64 4) := blk_cell (MapKept.heap_alloc w _).1 0
  have hp0 : ((w.alloc (.cells #[.int .i64 4, .int .i64 a0_1, .string a0_2] 39)).alloc (.cells #[.nilFunc, .nilFunc] 93)).drew.cell? ⟨w.heap.size, 0, none⟩ = some (.int .i64 4) := blk_cell hT 0
  have HU : Aside0 (∀ w1 : World, Below w.heap.size w w1 → Below w.heap.size w (w1.alloc (.cells #[.func (.func 95) #[] #[], .func (.func 97) #[] #[]] 93))) := ⟨fun w1 h => h.alloc h.size _⟩
  have HV : Aside0 (∀ w1 : World, Below w.heap.size w w1 → Below w.heap.size w ((w1.setCell ⟨w.heap.size + 1, 0, none⟩ (.func (.func 95) #[] #[])).setCell ⟨w.heap.size + 1, 1, none⟩ (.func (.func 97) #[] #[]))) := ⟨fun w1 h => below_set (below_set h (by omega)) (by omega)⟩
  clear hr1 hT hS
  go_enter Try.func44, Try.ntmps44
  go_wp2_with fail
  go_region_held3 (fun w' => w'.cell? ⟨w.heap.size, 0, none⟩ = some (.int .i64 4)) (first | go_keep | exact hzw | exact (World.cell?_alloc_lt _ _ _ (World.block_lt_of_cell? _ _ hzw)).trans hzw | (refine (hb.cell (p := ⟨w.heap.size, 0, none⟩) (by simp <;> omega)).trans ?_; first | assumption | exact hp0 | exact hpT))
    (first | (go_at_call 76; refine (shapes_calls _).mono ?_; rintro e w1 ⟨rfl, hown, hb⟩; have hzw : w1.cell? ⟨w.heap.size, 0, none⟩ = some (.int .i64 4) := (hb.cell (p := ⟨w.heap.size, 0, none⟩) (by simp <;> omega)).trans (by first | assumption | exact hp0 | exact hpT); have HB1 : Aside0 (Below w.heap.size w w1) := ⟨by (refine Below.trans ?_ (hb.mono ?_)) <;> first | exact HB0.out | exact HB00.out | exact HB0.out.drew | exact HB00.out.drew | (simp; done) | (simp; omega) | omega⟩; have hT1 : w1.heap[w.heap.size]? = some (.cells #[.int .i64 4, .int .i64 a0_1, .string a0_2] 39 (0, 0)) := (by rw [hb.block _ (by simp <;> omega)]; first | exact HT.out | exact (MapKept.heap_alloc w _).1); have ht0 : w1.cell? ⟨w.heap.size, 0, none⟩ = some (.int .i64 4) := blk_cell hT1 0; have ht1 : w1.cell? ⟨w.heap.size, 1, none⟩ = some (.int .i64 a0_1) := blk_cell hT1 1; have ht2 : w1.cell? ⟨w.heap.size, 2, none⟩ = some (.string a0_2) := blk_cell hT1 2; have hu0 : (w1.alloc (.cells #[.func (.func 95) #[] #[], .func (.func 97) #[] #[]] 93)).cell? ⟨w.heap.size, 0, none⟩ = some (.int .i64 4) := (World.cell?_alloc_lt _ _ _ (blk_lt hT1)).trans (blk_cell hT1 0); have hu1 : (w1.alloc (.cells #[.func (.func 95) #[] #[], .func (.func 97) #[] #[]] 93)).cell? ⟨w.heap.size, 1, none⟩ = some (.int .i64 a0_1) := (World.cell?_alloc_lt _ _ _ (blk_lt hT1)).trans (blk_cell hT1 1); have hu2 : (w1.alloc (.cells #[.func (.func 95) #[] #[], .func (.func 97) #[] #[]] 93)).cell? ⟨w.heap.size, 2, none⟩ = some (.string a0_2) := (World.cell?_alloc_lt _ _ _ (blk_lt hT1)).trans (blk_cell hT1 2); first | (have hlk := (look_shape w1 (w.heap.size + 1) _ (by simpa using hown)).1; have hlk2 := (look_shape (w1.alloc (.cells #[.nilFunc, .nilFunc] 93)) (w.heap.size + 1) _ (World.ownsMap.alloc (by simpa using hown) _)).1; have hS := (MapKept.heap_alloc w1 (.cells #[.nilFunc, .nilFunc] 93)).1; have hs0 : (w1.alloc (.cells #[.nilFunc, .nilFunc] 93)).cell? ⟨w1.heap.size, 0, none⟩ = some .nilFunc := blk_cell hS 0; have hs1 : (w1.alloc (.cells #[.nilFunc, .nilFunc] 93)).cell? ⟨w1.heap.size, 1, none⟩ = some .nilFunc := blk_cell hS 1; have hsf0 : (w1.alloc (.cells #[.nilFunc, .nilFunc] 93)).frozen? ⟨w1.heap.size, 0, none⟩ = false := blk_frozen hS 0; have hsf1 : (w1.alloc (.cells #[.nilFunc, .nilFunc] 93)).frozen? ⟨w1.heap.size, 1, none⟩ = false := blk_frozen hS 1; clear hS) | (have hlk := (look_shape w1 (w.heap.size + 2) _ (by simpa using hown)).1; have hS : w1.heap[w.heap.size + 1]? = some (.cells #[.nilFunc, .nilFunc] 93 (0, 0)) := (by rw [hb.block _ (by simp)]; exact HS.out); have hs0 := blk_cell hS 0; have hs1 := blk_cell hS 1; have hsf0 := blk_frozen hS 0; have hsf1 := blk_frozen hS 1; clear hS)))
  all_goals (
    go_wp2_with fail
    first
    | (have hbW := HU.out _ HB1.out; refine (shape5_calls 4 a0_1 a0_2 A1 c1 l1 _ (Kd.C_below HR.out hbW)).mono ?_; rintro e w9 ⟨rfl, hb9⟩; have HB9 : Aside0 (Below w.heap.size w w9) := ⟨hbW.trans (hb9.mono hbW.size)⟩; clear hb9 hbW)
    | (have hbW := HV.out _ HB1.out; refine (shape5_calls 4 a0_1 a0_2 A1 c1 l1 _ (Kd.C_below HR.out hbW)).mono ?_; rintro e w9 ⟨rfl, hb9⟩; have HB9 : Aside0 (Below w.heap.size w w9) := ⟨hbW.trans (hb9.mono hbW.size)⟩; clear hb9 hbW)
    go_wp2
    go_ret
    exact ⟨rfl, HB9.out⟩)
set_option maxHeartbeats 2000000 in
set_option maxRecDepth 100000 in
theorem valid_other (k a0_1 : Int) (a0_2 : ByteArray) (A1 : Option Addr) (c1 : Nat) (l1 : List S57) (w : World) (hr1 : Kd.C k57 w A1 l1.length l1) (hk : (Lit.int .i64 k).wf = true) (n1 : k ≠ 1) (n2 : k ≠ 2) (n3 : k ≠ 3) (n4 : k ≠ 4) :
    Calls Try.prog 44 #[.agg #[.int .i64 k, .int .i64 a0_1, .string a0_2], .slice A1 l1.length c1] w fun e w' => e = .returned (.bool false) ∧ Below w.heap.size w w' := by
  have HR := Aside0.mk hr1
  have HB0 : Aside0 (Below w.heap.size w ((w.alloc (.cells #[.int .i64 k, .int .i64 a0_1, .string a0_2] 39)).alloc (.cells #[.nilFunc, .nilFunc] 93))) := ⟨((Below.refl _ _).alloc (Nat.le_refl _) _).alloc (by simp) _⟩
  have hT : ((w.alloc (.cells #[.int .i64 k, .int .i64 a0_1, .string a0_2] 39)).alloc (.cells #[.nilFunc, .nilFunc] 93)).heap[w.heap.size]? = some (.cells #[.int .i64 k, .int .i64 a0_1, .string a0_2] 39 (0, 0)) := by
    exact (Below.heap_alloc _ _ _ (by simp)).trans (MapKept.heap_alloc w _).1
  have hS : ((w.alloc (.cells #[.int .i64 k, .int .i64 a0_1, .string a0_2] 39)).alloc (.cells #[.nilFunc, .nilFunc] 93)).heap[w.heap.size + 1]? = some (.cells #[.nilFunc, .nilFunc] 93 (0, 0)) := by
    have h := (MapKept.heap_alloc (w.alloc (.cells #[.int .i64 k, .int .i64 a0_1, .string a0_2] 39)) (.cells #[.nilFunc, .nilFunc] 93)).1
    simpa using h
  have HB00 : Aside0 (Below w.heap.size w (w.alloc (.cells #[.int .i64 k, .int .i64 a0_1, .string a0_2] 39))) := ⟨(Below.refl _ _).alloc (Nat.le_refl _) _⟩
  have HT := Aside0.mk hT
  have HS := Aside0.mk hS
  have mixed : Try.prog.follows Departure.mixedOrders = true := by kernel_rfl
  have hpT : (w.alloc (.cells #[.int .i64 k, .int .i64 a0_1, .string a0_2] 39)).cell? ⟨w.heap.size, 0, none⟩ = some (.int .i64 k) := blk_cell (MapKept.heap_alloc w _).1 0
  have hp0 : ((w.alloc (.cells #[.int .i64 k, .int .i64 a0_1, .string a0_2] 39)).alloc (.cells #[.nilFunc, .nilFunc] 93)).drew.cell? ⟨w.heap.size, 0, none⟩ = some (.int .i64 k) := blk_cell hT 0
  have HU : Aside0 (∀ w1 : World, Below w.heap.size w w1 → Below w.heap.size w (w1.alloc (.cells #[.nilFunc, .nilFunc] 93))) := ⟨fun w1 h => h.alloc h.size _⟩
  have HV : Aside0 (∀ w1 : World, Below w.heap.size w w1 → Below w.heap.size w ((w1.setCell ⟨w.heap.size + 1, 0, none⟩ .nilFunc).setCell ⟨w.heap.size + 1, 1, none⟩ .nilFunc)) := ⟨fun w1 h => below_set (below_set h (by omega)) (by omega)⟩
  clear hr1 hT hS
  go_enter Try.func44, Try.ntmps44
  go_wp2_with fail
  go_region_held3 (fun w' => w'.cell? ⟨w.heap.size, 0, none⟩ = some (.int .i64 k)) (first | go_keep | exact hzw | exact (World.cell?_alloc_lt _ _ _ (World.block_lt_of_cell? _ _ hzw)).trans hzw | (refine (hb.cell (p := ⟨w.heap.size, 0, none⟩) (by simp <;> omega)).trans ?_; first | assumption | exact hp0 | exact hpT))
    (first | (go_at_call 76; refine (shapes_calls _).mono ?_; rintro e w1 ⟨rfl, hown, hb⟩; have hzw : w1.cell? ⟨w.heap.size, 0, none⟩ = some (.int .i64 k) := (hb.cell (p := ⟨w.heap.size, 0, none⟩) (by simp <;> omega)).trans (by first | assumption | exact hp0 | exact hpT); have HB1 : Aside0 (Below w.heap.size w w1) := ⟨by (refine Below.trans ?_ (hb.mono ?_)) <;> first | exact HB0.out | exact HB00.out | exact HB0.out.drew | exact HB00.out.drew | (simp; done) | (simp; omega) | omega⟩; have hT1 : w1.heap[w.heap.size]? = some (.cells #[.int .i64 k, .int .i64 a0_1, .string a0_2] 39 (0, 0)) := (by rw [hb.block _ (by simp <;> omega)]; first | exact HT.out | exact (MapKept.heap_alloc w _).1); have ht0 : w1.cell? ⟨w.heap.size, 0, none⟩ = some (.int .i64 k) := blk_cell hT1 0; have ht1 : w1.cell? ⟨w.heap.size, 1, none⟩ = some (.int .i64 a0_1) := blk_cell hT1 1; have ht2 : w1.cell? ⟨w.heap.size, 2, none⟩ = some (.string a0_2) := blk_cell hT1 2; have hu0 : (w1.alloc (.cells #[.nilFunc, .nilFunc] 93)).cell? ⟨w.heap.size, 0, none⟩ = some (.int .i64 k) := (World.cell?_alloc_lt _ _ _ (blk_lt hT1)).trans (blk_cell hT1 0); have hu1 : (w1.alloc (.cells #[.nilFunc, .nilFunc] 93)).cell? ⟨w.heap.size, 1, none⟩ = some (.int .i64 a0_1) := (World.cell?_alloc_lt _ _ _ (blk_lt hT1)).trans (blk_cell hT1 1); have hu2 : (w1.alloc (.cells #[.nilFunc, .nilFunc] 93)).cell? ⟨w.heap.size, 2, none⟩ = some (.string a0_2) := (World.cell?_alloc_lt _ _ _ (blk_lt hT1)).trans (blk_cell hT1 2); first | (have hlk := look_none w1 (w.heap.size + 1) _ k hk n1 n2 n3 n4 (by simpa using hown); have hlk2 := look_none (w1.alloc (.cells #[.nilFunc, .nilFunc] 93)) (w.heap.size + 1) _ k hk n1 n2 n3 n4 (World.ownsMap.alloc (by simpa using hown) _); have hS := (MapKept.heap_alloc w1 (.cells #[.nilFunc, .nilFunc] 93)).1; have hs0 : (w1.alloc (.cells #[.nilFunc, .nilFunc] 93)).cell? ⟨w1.heap.size, 0, none⟩ = some .nilFunc := blk_cell hS 0; have hs1 : (w1.alloc (.cells #[.nilFunc, .nilFunc] 93)).cell? ⟨w1.heap.size, 1, none⟩ = some .nilFunc := blk_cell hS 1; have hsf0 : (w1.alloc (.cells #[.nilFunc, .nilFunc] 93)).frozen? ⟨w1.heap.size, 0, none⟩ = false := blk_frozen hS 0; have hsf1 : (w1.alloc (.cells #[.nilFunc, .nilFunc] 93)).frozen? ⟨w1.heap.size, 1, none⟩ = false := blk_frozen hS 1; clear hS) | (have hlk := look_none w1 (w.heap.size + 2) _ k hk n1 n2 n3 n4 (by simpa using hown); have hS : w1.heap[w.heap.size + 1]? = some (.cells #[.nilFunc, .nilFunc] 93 (0, 0)) := (by rw [hb.block _ (by simp)]; exact HS.out); have hs0 := blk_cell hS 0; have hs1 := blk_cell hS 1; have hsf0 := blk_frozen hS 0; have hsf1 := blk_frozen hS 1; clear hS)))
  all_goals (
    go_wp2
    go_ret
    exact ⟨rfl, by first | exact HU.out _ HB1.out | exact HV.out _ HB1.out⟩)
def validT (k n : Int) (rec : ByteArray) (l : List S57) : Bool :=
  if k = 1 ∨ k = 2 then decide (n = 0) && noRec rec else if k = 3 then decide (1 ≤ n) && (decide (n ≤ 8) && noRec rec) else if k = 4 then decide (n = 0) && hasRec l rec else false
def types_Valid.f (a0_0 a0_1 : Int) (a0_2 : ByteArray) (l1 : List S57) : Option Bool := if (Lit.int .i64 a0_0).wf = true then some (validT a0_0 a0_1 a0_2 l1) else none
theorem types_Valid.calls (a0_0 a0_1 : Int) (a0_2 : ByteArray) (A1 : Option Addr) (c1 : Nat) (l1 : List S57) (r : Bool) (w : World) (hr1 : Kd.C k57 w A1 l1.length l1) (hc1 : l1.length ≤ c1) (h : types_Valid.f a0_0 a0_1 a0_2 l1 = some r) :
    Calls Try.prog 44 #[.agg #[.int .i64 a0_0, .int .i64 a0_1, .string a0_2], .slice A1 l1.length c1] w fun e w' => e = .returned (.bool r) ∧ Below w.heap.size w w' := by
  unfold types_Valid.f at h
  split at h
  · rename_i hk
    obtain rfl := Option.some.inj h
    by_cases n1 : a0_0 = 1
    · subst n1; exact valid_1 a0_1 a0_2 A1 c1 l1 w hr1
    by_cases n2 : a0_0 = 2
    · subst n2; exact valid_2 a0_1 a0_2 A1 c1 l1 w hr1
    by_cases n3 : a0_0 = 3
    · subst n3; exact valid_3 a0_1 a0_2 A1 c1 l1 w hr1
    by_cases n4 : a0_0 = 4
    · subst n4; exact valid_4 a0_1 a0_2 A1 c1 l1 w hr1
    · rw [show validT a0_0 a0_1 a0_2 l1 = false from by simp [validT, n1, n2, n3, n4]]
      exact valid_other a0_0 a0_1 a0_2 A1 c1 l1 w hr1 hk n1 n2 n3 n4
  · cases h
end Go.Proofs.Ytogknojocodhgaa.P
end
