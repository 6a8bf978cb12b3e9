import Derived.Test.YtogknojocodhgaaTyp
import Derived.Deep.RegionHeld3
import Derived.Laws.EntriesVeiled
namespace Go.Proofs.Ytogknojocodhgaa.P
open Go.RowKit Go.WideMaps Go.Proofs.YtogknojocodhgaaW.PrintWords Go.Proofs.YtogknojocodhgaaW.PrintLast Go.Proofs.YtogknojocodhgaaW.PrintMore
set_option linter.unusedVariables false
set_option linter.unusedSimpArgs false

def types_Valid.f (a0_0 a0_1 : Int) (a0_2 : ByteArray) (l1 : List S57) : Option Bool := if a0_0 = 4 then some (decide (a0_1 = 0) && hasRec l1 a0_2) else none
set_option maxHeartbeats 2000000 in
set_option maxRecDepth 100000 in
theorem types_Valid.calls (a0_0 a0_1 : Int) (a0_2 : ByteArray) (A1 : Option Addr) (c1 : Nat) (l1 : List S57) (r : Bool) (w : World) (hr1 : Kd.C k57 w A1 l1.length l1) (hc1 : l1.length ≤ c1) (h : types_Valid.f a0_0 a0_1 a0_2 l1 = some r) :
    Calls Try.prog 44 #[.agg #[.int .i64 a0_0, .int .i64 a0_1, .string a0_2], .slice A1 l1.length c1] w fun e w' => e = .returned (.bool r) ∧ Below w.heap.size w w' := by
  unfold types_Valid.f at h
  split at h
  · rename_i h4
    subst h4
    obtain rfl := Option.some.inj h
    clear h
    have HR := Aside0.mk hr1
    have HB0 : Aside0 (Below w.heap.size w ((w.alloc (.cells #[.int .i64 4, .int .i64 a0_1, .string a0_2] 39)).alloc (.cells #[.nilFunc, .nilFunc] 93))) := ⟨((Below.refl _ _).alloc (Nat.le_refl _) _).alloc (by simp) _⟩
    have hT : ((w.alloc (.cells #[.int .i64 4, .int .i64 a0_1, .string a0_2] 39)).alloc (.cells #[.nilFunc, .nilFunc] 93)).heap[w.heap.size]? = some (.cells #[.int .i64 4, .int .i64 a0_1, .string a0_2] 39 (0, 0)) := by
      exact (Below.heap_alloc _ _ _ (by simp)).trans (MapKept.heap_alloc w _).1
    have hS : ((w.alloc (.cells #[.int .i64 4, .int .i64 a0_1, .string a0_2] 39)).alloc (.cells #[.nilFunc, .nilFunc] 93)).heap[w.heap.size + 1]? = some (.cells #[.nilFunc, .nilFunc] 93 (0, 0)) := by
      have h := (MapKept.heap_alloc (w.alloc (.cells #[.int .i64 4, .int .i64 a0_1, .string a0_2] 39)) (.cells #[.nilFunc, .nilFunc] 93)).1
      simpa using h
    have HB00 : Aside0 (Below w.heap.size w (w.alloc (.cells #[.int .i64 4, .int .i64 a0_1, .string a0_2] 39))) := ⟨(Below.refl _ _).alloc (Nat.le_refl _) _⟩
    have HT := Aside0.mk hT
    have HS := Aside0.mk hS
    have mixed : Try.prog.follows Departure.mixedOrders = true := by kernel_rfl
    have hpT : (w.alloc (.cells #[.int .i64 4, .int .i64 a0_1, .string a0_2] 39)).cell? ⟨w.heap.size, 0, none⟩ = some (.int .i64 4) := blk_cell (MapKept.heap_alloc w _).1 0
    have hp0 : ((w.alloc (.cells #[.int .i64 4, .int .i64 a0_1, .string a0_2] 39)).alloc (.cells #[.nilFunc, .nilFunc] 93)).drew.cell? ⟨w.heap.size, 0, none⟩ = some (.int .i64 4) := blk_cell hT 0
    have HU : Aside0 (∀ w1 : World, Below w.heap.size w w1 → Below w.heap.size w (w1.alloc (.cells #[.func (.func 95) #[] #[], .func (.func 97) #[] #[]] 93))) := ⟨fun w1 h => h.alloc h.size _⟩
    have HV : Aside0 (∀ w1 : World, Below w.heap.size w w1 → Below w.heap.size w ((w1.setCell ⟨w.heap.size + 1, 0, none⟩ (.func (.func 95) #[] #[])).setCell ⟨w.heap.size + 1, 1, none⟩ (.func (.func 97) #[] #[]))) := ⟨fun w1 h => below_set (below_set h (by omega)) (by omega)⟩
    clear hr1 hT hS
    go_enter Try.func44, Try.ntmps44
    go_wp2_with fail
    go_region_held3 (fun w' => w'.cell? ⟨w.heap.size, 0, none⟩ = some (.int .i64 4)) (first | go_keep | exact hzw | exact (World.cell?_alloc_lt _ _ _ (World.block_lt_of_cell? _ _ hzw)).trans hzw | (refine (hb.cell (p := ⟨w.heap.size, 0, none⟩) (by simp <;> omega)).trans ?_; first | assumption | exact hp0 | exact hpT))
      (first | (go_at_call 76; refine (shapes_calls _).mono ?_; rintro e w1 ⟨rfl, hown, hb⟩; have hzw : w1.cell? ⟨w.heap.size, 0, none⟩ = some (.int .i64 4) := (hb.cell (p := ⟨w.heap.size, 0, none⟩) (by simp <;> omega)).trans (by first | assumption | exact hp0 | exact hpT); have HB1 : Aside0 (Below w.heap.size w w1) := ⟨by (refine Below.trans ?_ (hb.mono ?_)) <;> first | exact HB0.out | exact HB00.out | exact HB0.out.drew | exact HB00.out.drew | (simp; done) | (simp; omega) | omega⟩; have hT1 : w1.heap[w.heap.size]? = some (.cells #[.int .i64 4, .int .i64 a0_1, .string a0_2] 39 (0, 0)) := (by rw [hb.block _ (by simp <;> omega)]; first | exact HT.out | exact (MapKept.heap_alloc w _).1); have ht0 : w1.cell? ⟨w.heap.size, 0, none⟩ = some (.int .i64 4) := blk_cell hT1 0; have ht1 : w1.cell? ⟨w.heap.size, 1, none⟩ = some (.int .i64 a0_1) := blk_cell hT1 1; have ht2 : w1.cell? ⟨w.heap.size, 2, none⟩ = some (.string a0_2) := blk_cell hT1 2; have hu0 : (w1.alloc (.cells #[.func (.func 95) #[] #[], .func (.func 97) #[] #[]] 93)).cell? ⟨w.heap.size, 0, none⟩ = some (.int .i64 4) := (World.cell?_alloc_lt _ _ _ (blk_lt hT1)).trans (blk_cell hT1 0); have hu1 : (w1.alloc (.cells #[.func (.func 95) #[] #[], .func (.func 97) #[] #[]] 93)).cell? ⟨w.heap.size, 1, none⟩ = some (.int .i64 a0_1) := (World.cell?_alloc_lt _ _ _ (blk_lt hT1)).trans (blk_cell hT1 1); have hu2 : (w1.alloc (.cells #[.func (.func 95) #[] #[], .func (.func 97) #[] #[]] 93)).cell? ⟨w.heap.size, 2, none⟩ = some (.string a0_2) := (World.cell?_alloc_lt _ _ _ (blk_lt hT1)).trans (blk_cell hT1 2); first | (have hlk := (look_shape w1 (w.heap.size + 1) _ (by simpa using hown)).1; have hlk2 := (look_shape (w1.alloc (.cells #[.nilFunc, .nilFunc] 93)) (w.heap.size + 1) _ (World.ownsMap.alloc (by simpa using hown) _)).1; have hS := (MapKept.heap_alloc w1 (.cells #[.nilFunc, .nilFunc] 93)).1; have hs0 : (w1.alloc (.cells #[.nilFunc, .nilFunc] 93)).cell? ⟨w1.heap.size, 0, none⟩ = some .nilFunc := blk_cell hS 0; have hs1 : (w1.alloc (.cells #[.nilFunc, .nilFunc] 93)).cell? ⟨w1.heap.size, 1, none⟩ = some .nilFunc := blk_cell hS 1; have hsf0 : (w1.alloc (.cells #[.nilFunc, .nilFunc] 93)).frozen? ⟨w1.heap.size, 0, none⟩ = false := blk_frozen hS 0; have hsf1 : (w1.alloc (.cells #[.nilFunc, .nilFunc] 93)).frozen? ⟨w1.heap.size, 1, none⟩ = false := blk_frozen hS 1; clear hS) | (have hlk := (look_shape w1 (w.heap.size + 2) _ (by simpa using hown)).1; have hS : w1.heap[w.heap.size + 1]? = some (.cells #[.nilFunc, .nilFunc] 93 (0, 0)) := (by rw [hb.block _ (by simp)]; exact HS.out); have hs0 := blk_cell hS 0; have hs1 := blk_cell hS 1; have hsf0 := blk_frozen hS 0; have hsf1 := blk_frozen hS 1; clear hS)))
    all_goals (
      go_wp2_with fail
      first
      | (have hbW := HU.out _ HB1.out; refine (shape5_calls 4 a0_1 a0_2 A1 c1 l1 _ (Kd.C_below HR.out hbW)).mono ?_; rintro e w9 ⟨rfl, hb9⟩; have HB9 : Aside0 (Below w.heap.size w w9) := ⟨hbW.trans (hb9.mono hbW.size)⟩; clear hb9 hbW)
      | (have hbW := HV.out _ HB1.out; refine (shape5_calls 4 a0_1 a0_2 A1 c1 l1 _ (Kd.C_below HR.out hbW)).mono ?_; rintro e w9 ⟨rfl, hb9⟩; have HB9 : Aside0 (Below w.heap.size w w9) := ⟨hbW.trans (hb9.mono hbW.size)⟩; clear hb9 hbW)
      go_wp2
      go_ret
      exact ⟨rfl, HB9.out⟩)
  · cases h

end Go.Proofs.Ytogknojocodhgaa.P
