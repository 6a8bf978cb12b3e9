-- Texts of this claim, put together and cut down to what is used (trim.py, a program of this session).
import Derived.Test.YtogknojocodhgaaZ2
import Derived.Test.YtogknojocodhgaaZ7
section
namespace Go.Proofs.Ytogknojocodhgaa.P
open Go.RowKit Go.WideMaps Go.Proofs.YtogknojocodhgaaW.PrintWords Go.Proofs.YtogknojocodhgaaW.PrintLast Go.Proofs.YtogknojocodhgaaW.PrintMore
set_option linter.unusedVariables false
set_option linter.unusedSimpArgs false
def recIx : List S57 → ByteArray → Nat
  | [], _ => 0
  | x :: r, n => if x.f0.toList = n.toList then 0 else recIx r n + 1
def hasRec (l : List S57) (n : ByteArray) : Bool := decide (recIx l n < l.length)
theorem recIx_le : ∀ (l : List S57) (n : ByteArray), recIx l n ≤ l.length
  | [], _ => by simp [recIx]
  | x :: r, n => by
    have := recIx_le r n
    simp only [recIx]
    split
    · omega
    · simp; omega
theorem recIx_drop : ∀ (i : Nat) (l : List S57) (n : ByteArray), i ≤ recIx l n → recIx l n = i + recIx (l.drop i) n
  | 0, l, n, _ => by simp
  | i + 1, [], n, h => by simp [recIx] at h
  | i + 1, x :: r, n, h => by
    simp only [recIx] at h ⊢
    split at h
    · omega
    · rename_i hne
      rw [if_neg hne, List.drop_succ_cons]
      have := recIx_drop i r n (by omega)
      omega
theorem recIx_at (l : List S57) (n : ByteArray) (i : Nat) (hi : i < l.length) (h : i ≤ recIx l n) : ((rd_T57 l (i : Int)).f0.toList = n.toList → recIx l n = i) ∧ ((rd_T57 l (i : Int)).f0.toList ≠ n.toList → i + 1 ≤ recIx l n) := by
  have h1 := recIx_drop i l n h
  have h2 : l.drop i = rd_T57 l (i : Int) :: l.drop (i + 1) := by
    rw [List.drop_eq_getElem_cons hi]
    congr 1
    unfold rd_T57
    rw [Int.toNat_natCast, List.getD_eq_getElem?_getD, List.getElem?_eq_getElem hi]
    rfl
  rw [h2] at h1
  simp only [recIx] at h1
  constructor
  · intro e; rw [if_pos e] at h1; omega
  · intro e; rw [if_neg e] at h1; omega
set_option maxHeartbeats 1000000 in
set_option maxRecDepth 100000 in
theorem record1_calls (g : Nat) (x nm : ByteArray) (v : Value) (w : World) (hg : w.cell? ⟨g, 0, none⟩ = some (.string nm)) :
    Calls Try.prog 113 #[.agg #[.string x, v], .pointer (some ⟨g, 0, none⟩)] w fun e w' => e = .returned (.bool (decide (x.toList = nm.toList))) ∧ Below w.heap.size w w' := by
  have hg2 : (w.alloc (.cells #[.string x, v] 57)).cell? ⟨g, 0, none⟩ = some (.string nm) := (World.cell?_alloc_lt _ _ _ (World.block_lt_of_cell? w _ hg)).trans hg
  have hb : Below w.heap.size w (w.alloc (.cells #[.string x, v] 57)) := (Below.refl _ _).alloc (Nat.le_refl _) _
  have HB := Aside0.mk hb
  clear hb
  by_cases c : x.toList = nm.toList
  · have c1 : (x.toList == nm.toList) = true := beq_iff_eq.mpr c
    rw [decide_eq_true c]
    go_enter Try.func113, Try.ntmps113
    go_wp2
    go_ret
    exact ⟨by first | rfl | simp [c], HB.out⟩
  · have c1 : (x.toList == nm.toList) = false := beq_eq_false_iff_ne.mpr c
    rw [decide_eq_false c]
    go_enter Try.func113, Try.ntmps113
    go_wp2
    go_ret
    exact ⟨by first | rfl | simp [c], HB.out⟩
set_option maxHeartbeats 2000000 in
set_option maxRecDepth 100000 in
theorem indexFunc_calls (A : Option Addr) (c g : Nat) (l : List S57) (nm : ByteArray) (w : World) (hr : k57.C w A l.length l) (hg : w.cell? ⟨g, 0, none⟩ = some (.string nm)) :
    Calls Try.prog 112 #[.slice A l.length c, .func (.func 113) #[] #[.pointer (some ⟨g, 0, none⟩)]] w fun e w' => e = .returned (.int .i64 (if recIx l nm < l.length then (recIx l nm : Int) else -1)) ∧ Below w.heap.size w w' := by
  have HR := Aside0.mk hr
  have HG := Aside0.mk hg
  have HB := Aside0.mk (Below.refl w.heap.size w)
  have hmax := Kd.C_max hr
  have hle := recIx_le l nm
  clear hr hg
  go_enter Try.func112, Try.ntmps112
  go_wp2_with fail
  go_loopw [8] (fun v wr => ∃ i : Nat, v = .int .i64 (i : Int) ∧ i ≤ l.length ∧ Aside0 (i ≤ recIx l nm) ∧ Aside0 (Below w.heap.size w wr)) (fun v _ => l.length - (intOf v).toNat)
  case atStart => exact ⟨0, rfl, by omega, ⟨by omega⟩, HB⟩
  case round =>
    clear HB
    obtain ⟨i, rfl, hi, HI, HB⟩ := hrel
    by_cases hlt : i < l.length
    · have c0 : decide ((i : Int) < (l.length : Int)) = true := decide_eq_true (by omega)
      have hx := recIx_at l nm i hlt HI.out
      obtain ⟨ad, A1, c1, e1, hx0, hx1, _, _⟩ := at_T57 (Kd.C_below HR.out HB.out) (i : Int) (by omega) (by omega)
      subst e1
      rw [Int.toNat_natCast] at hx0 hx1
      have hgr : wr.cell? ⟨g, 0, none⟩ = some (.string nm) := (HB.out.cell (World.block_lt_of_cell? w _ HG.out)).trans HG.out
      have HX := Aside0.mk hx
      have HGR := Aside0.mk hgr
      clear hx hgr
      by_cases hq : (rd_T57 l (i : Int)).f0.toList = nm.toList
      · have hd : decide ((rd_T57 l (i : Int)).f0.toList = nm.toList) = true := decide_eq_true hq
        have he : recIx l nm = i := HX.out.1 hq
        go_wp2_with fail
        refine (record1_calls g _ nm _ wr HGR.out).mono ?_
        rw [hd]
        rintro e w1 ⟨rfl, hb⟩
        have HB1 : Aside0 (Below w.heap.size w w1) := ⟨HB.out.trans (hb.mono HB.out.size)⟩
        clear hb
        go_wp2
        go_ret
        exact ⟨by first | rfl | (rw [he, if_pos hlt]; rfl), HB1.out⟩
      · have hd : decide ((rd_T57 l (i : Int)).f0.toList = nm.toList) = false := decide_eq_false hq
        have he : i + 1 ≤ recIx l nm := HX.out.2 hq
        go_wp2_with fail
        refine (record1_calls g _ nm _ wr HGR.out).mono ?_
        rw [hd]
        rintro e w1 ⟨rfl, hb⟩
        have HB1 : Aside0 (Below w.heap.size w w1) := ⟨HB.out.trans (hb.mono HB.out.size)⟩
        clear hb
        go_wp2
        exact ⟨⟨i + 1, by go_num, by omega, ⟨he⟩, HB1⟩, by simp [intOf]; omega⟩
    · have c0 : decide ((i : Int) < (l.length : Int)) = false := decide_eq_false (by omega)
      have he : ¬ recIx l nm < l.length := by have := HI.out; omega
      go_wp2
      go_ret
      exact ⟨by first | rfl | (rw [if_neg he]; rfl), HB.out⟩
set_option maxHeartbeats 2000000 in
set_option maxRecDepth 100000 in
theorem record_calls (A : Option Addr) (c : Nat) (l : List S57) (nm : ByteArray) (w : World) (hr : k57.C w A l.length l) :
    Calls Try.prog 96 #[.slice A l.length c, .string nm] w fun e w' => (∃ (A1 : Option Addr) (c1 : Nat), e = .returned (.tuple #[.agg #[.string (rd_T57 l (recIx l nm)).f0, .slice A1 (rd_T57 l (recIx l nm)).f1.length c1], .bool (hasRec l nm)]) ∧ (rd_T57 l (recIx l nm)).f1.length ≤ c1 ∧ k54.C w' A1 (rd_T57 l (recIx l nm)).f1.length (rd_T57 l (recIx l nm)).f1) ∧ Below w.heap.size w w' := by
  have HR := Aside0.mk hr
  have hg : (w.alloc (.cells #[.string nm] 9)).cell? ⟨w.heap.size, 0, none⟩ = some (.string nm) := by
    have h := (MapKept.heap_alloc w (.cells #[.string nm] 9)).1
    unfold World.cell?
    rw [h]; rfl
  have hg2 : ((w.alloc (.cells #[.string nm] 9)).alloc (.cells #[.string ⟨#[]⟩, .slice none 0 0] 57)).cell? ⟨w.heap.size, 0, none⟩ = some (.string nm) := (World.cell?_alloc_lt _ _ _ (by simp)).trans hg
  have HG := Aside0.mk hg2
  have hb0 : Below w.heap.size w ((w.alloc (.cells #[.string nm] 9)).alloc (.cells #[.string ⟨#[]⟩, .slice none 0 0] 57)) := ((Below.refl _ _).alloc (Nat.le_refl _) _).alloc (by simp) _
  have HB0 := Aside0.mk hb0
  have hle := recIx_le l nm
  clear hr hg hg2 hb0
  have hmf : ∀ (fn : Fn) (first cap : Array Value) (w : World), (Instr.makeFunc fn first cap).run Try.prog w = .ok (.func fn first cap) w := fun _ _ _ _ => rfl
  by_cases hq : recIx l nm < l.length
  · have hh : hasRec l nm = true := decide_eq_true hq
    rw [hh]
    go_enter Try.func96, Try.ntmps96
    go_wp2_with fail
    refine (indexFunc_calls A c w.heap.size l nm _ (Kd.C_alloc (Kd.C_alloc HR.out _) _) HG.out).mono ?_
    rw [if_pos hq]
    rintro e w1 ⟨rfl, hb⟩
    have HB1 : Aside0 (Below w.heap.size w w1) := ⟨HB0.out.trans (hb.mono (by simp <;> omega))⟩
    have hblk : w1.heap[w.heap.size + 1]? = some (.cells #[.string ⟨#[]⟩, .slice none 0 0] 57 (0, 0)) := by
      rw [hb.block _ (by simp)]
      have h := (MapKept.heap_alloc (w.alloc (.cells #[.string nm] 9)) (.cells #[.string ⟨#[]⟩, .slice none 0 0] 57)).1
      simpa using h
    obtain ⟨ad, A1, c1, e1, hx0, hx1, hc1, hC1⟩ := at_T57 HR.out (recIx l nm : Int) (by omega) (by omega)
    subst e1
    rw [Int.toNat_natCast] at hx0 hx1
    replace hx0 := (HB1.out.cell (World.block_lt_of_cell? w _ hx0)).trans hx0
    replace hx1 := (HB1.out.cell (World.block_lt_of_cell? w _ hx1)).trans hx1
    have hz0 := blk_cell hblk 0
    have hz1 := blk_cell hblk 1
    have hf0 := blk_frozen hblk 0
    have hf1 := blk_frozen hblk 1
    have d0 : decide (((recIx l nm : Nat) : Int) < 0) = false := decide_eq_false (by omega)
    have d1 : decide (((recIx l nm : Nat) : Int) < (l.length : Int)) = true := decide_eq_true (by omega)
    have HC1 := Aside0.mk hC1
    have HBLK := Aside0.mk hblk
    clear hb hC1 hblk
    have hfin : ((w1.setCell ⟨w.heap.size + 1, 0, none⟩ (.string (rd_T57 l (recIx l nm : Int)).f0)).setCell ⟨w.heap.size + 1, 1, none⟩ (.slice A1 (rd_T57 l (recIx l nm : Int)).f1.length c1)).heap[w.heap.size + 1]? = some (.cells #[.string (rd_T57 l (recIx l nm : Int)).f0, .slice A1 (rd_T57 l (recIx l nm : Int)).f1.length c1] 57 (0, 0)) := by
      simp [World.setCell, Array.getElem?_modify, HBLK.out]
    have HF := Aside0.mk hfin
    clear hfin
    go_wp2
    (try simp only [Exit.inBlock, Exit.then])
    refine bodyPost_ret (results_ct rfl _ _ (w.heap.size + 1) 57 #[.string (rd_T57 l (recIx l nm : Int)).f0, .slice A1 (rd_T57 l (recIx l nm : Int)).f1.length c1] (0, 0) _ rfl HF.out Try.underlying57 rfl (by show _ = some 2; kernel_rfl)) rfl ?_
    have hbf : Below w.heap.size w ((w1.setCell ⟨w.heap.size + 1, 0, none⟩ (.string (rd_T57 l (recIx l nm : Int)).f0)).setCell ⟨w.heap.size + 1, 1, none⟩ (.slice A1 (rd_T57 l (recIx l nm : Int)).f1.length c1)) := below_set (below_set HB1.out (by omega)) (by omega)
    exact ⟨⟨A1, c1, rfl, hc1, Kd.C_below HC1.out hbf⟩, hbf⟩
  · have hh : hasRec l nm = false := decide_eq_false hq
    rw [hh, show rd_T57 l (recIx l nm) = z57 from by unfold rd_T57; rw [Int.toNat_natCast, List.getD_eq_getElem?_getD, List.getElem?_eq_none (by omega)]; rfl]
    go_enter Try.func96, Try.ntmps96
    go_wp2_with fail
    refine (indexFunc_calls A c w.heap.size l nm _ (Kd.C_alloc (Kd.C_alloc HR.out _) _) HG.out).mono ?_
    rw [if_neg hq]
    rintro e w1 ⟨rfl, hb⟩
    have HB1 : Aside0 (Below w.heap.size w w1) := ⟨HB0.out.trans (hb.mono (by simp <;> omega))⟩
    have hblk : w1.heap[w.heap.size + 1]? = some (.cells #[.string ⟨#[]⟩, .slice none 0 0] 57 (0, 0)) := by
      rw [hb.block _ (by simp)]
      have h := (MapKept.heap_alloc (w.alloc (.cells #[.string nm] 9)) (.cells #[.string ⟨#[]⟩, .slice none 0 0] 57)).1
      simpa using h
    have hz0 := blk_cell hblk 0
    have hz1 := blk_cell hblk 1
    have hf0 := blk_frozen hblk 0
    have hf1 := blk_frozen hblk 1
    have HBLK := Aside0.mk hblk
    clear hb hblk
    have hfin : ((w1.setCell ⟨w.heap.size + 1, 0, none⟩ (.string ⟨#[]⟩)).setCell ⟨w.heap.size + 1, 1, none⟩ (.slice none 0 0)).heap[w.heap.size + 1]? = some (.cells #[.string ⟨#[]⟩, .slice none 0 0] 57 (0, 0)) := by
      simp [World.setCell, Array.getElem?_modify, HBLK.out]
    have HF := Aside0.mk hfin
    clear hfin
    go_wp2
    (try simp only [Exit.inBlock, Exit.then])
    refine bodyPost_ret (results_ct rfl _ _ (w.heap.size + 1) 57 #[.string ⟨#[]⟩, .slice none 0 0] (0, 0) _ rfl HF.out Try.underlying57 rfl (by show _ = some 2; kernel_rfl)) rfl ?_
    have hbf : Below w.heap.size w ((w1.setCell ⟨w.heap.size + 1, 0, none⟩ (.string ⟨#[]⟩)).setCell ⟨w.heap.size + 1, 1, none⟩ (.slice none 0 0)) := below_set (below_set HB1.out (by omega)) (by omega)
    exact ⟨⟨none, 0, rfl, Nat.le_refl _, ⟨rfl, by simp [z57], fun h => absurd h (by simp [z57])⟩⟩, hbf⟩
set_option maxHeartbeats 2000000 in
set_option maxRecDepth 100000 in
theorem shape5_calls (k n : Int) (rec : ByteArray) (A : Option Addr) (c : Nat) (l : List S57) (w : World) (hr : k57.C w A l.length l) :
    Calls Try.prog 95 #[.agg #[.int .i64 k, .int .i64 n, .string rec], .slice A l.length c] w fun e w' => e = .returned (.bool (decide (n = 0) && hasRec l rec)) ∧ Below w.heap.size w w' := by
  have HR := Aside0.mk hr
  have HB0 : Aside0 (Below w.heap.size w (w.alloc (.cells #[.int .i64 k, .int .i64 n, .string rec] 39))) := ⟨(Below.refl _ _).alloc (Nat.le_refl _) _⟩
  have hblk0 : (w.alloc (.cells #[.int .i64 k, .int .i64 n, .string rec] 39)).heap[w.heap.size]? = some (.cells #[.int .i64 k, .int .i64 n, .string rec] 39 (0, 0)) := (MapKept.heap_alloc w _).1
  have HBLK0 := Aside0.mk hblk0
  clear hr hblk0
  have fin : ∀ b1 b2 : Bool, decide (n = 0) = b1 → hasRec l rec = b2 → Calls Try.prog 95 #[.agg #[.int .i64 k, .int .i64 n, .string rec], .slice A l.length c] w fun e w' => e = .returned (.bool (b1 && b2)) ∧ Below w.heap.size w w' := by
    intro b1 b2 h1 h2
    have h1' : (n == 0) = b1 := by rw [← h1]; rfl
    cases b1 <;> cases b2
    all_goals (
      go_enter Try.func95, Try.ntmps95
      go_wp2_with fail
      refine (record_calls A c l rec _ (Kd.C_alloc HR.out _)).mono ?_
      rintro e w1 ⟨⟨A1, c1, rfl, _, _⟩, hb⟩
      have HB1 : Aside0 (Below w.heap.size w w1) := ⟨HB0.out.trans (hb.mono (by simp))⟩
      have hblk : w1.heap[w.heap.size]? = some (.cells #[.int .i64 k, .int .i64 n, .string rec] 39 (0, 0)) := by
        rw [hb.block _ (by simp)]; exact HBLK0.out
      have hz0 : (w1.alloc (.cells #[.string (rd_T57 l (recIx l rec : Int)).f0, .slice A1 (rd_T57 l (recIx l rec : Int)).f1.length c1] 57)).cell? ⟨w.heap.size, 1, none⟩ = some (.int .i64 n) := (World.cell?_alloc_lt _ _ _ (blk_lt hblk)).trans (blk_cell hblk 1)
      have HB2 : Aside0 (Below w.heap.size w (w1.alloc (.cells #[.string (rd_T57 l (recIx l rec : Int)).f0, .slice A1 (rd_T57 l (recIx l rec : Int)).f1.length c1] 57))) := ⟨HB1.out.alloc HB1.out.size _⟩
      clear hb hblk
      go_wp2
      go_ret
      exact ⟨by first | rfl | simp [*], HB2.out⟩)
  exact fin _ _ rfl rfl
theorem lawI : Maps.Keyed Try.prog 3 := Maps.int_keyed Try.underlying3
def shElem (v : Value) : Option (DataW Unit × List MemPlace) := match v with
  | .agg ⟨[.func (.func n) ⟨[]⟩ ⟨[]⟩, .func (.func m) ⟨[]⟩ ⟨[]⟩]⟩ => some (.agg [.lit (.int .i64 n), .lit (.int .i64 m)], [])
  | _ => none
theorem shElem_inv {v : Value} {z : DataW Unit × List MemPlace} (h : shElem v = some z) : ∃ n m : Nat, v = .agg #[.func (.func n) #[] #[], .func (.func m) #[] #[]] ∧ z = (.agg [.lit (.int .i64 n), .lit (.int .i64 m)], []) := by
  unfold shElem at h
  split at h
  · cases h; exact ⟨_, _, rfl, rfl⟩
  · cases h
def shD : DataW Unit := ((((DataW.map []).put (.int .i64 1) (.agg [.lit (.int .i64 90), .lit (.int .i64 91)])).put (.int .i64 2) (.agg [.lit (.int .i64 90), .lit (.int .i64 91)])).put (.int .i64 3) (.agg [.lit (.int .i64 92), .lit (.int .i64 93)])).put (.int .i64 4) (.agg [.lit (.int .i64 95), .lit (.int .i64 97)])
set_option maxHeartbeats 2000000 in
set_option maxRecDepth 100000 in
theorem shapes_calls (w : World) : Calls Try.prog 76 #[] w fun e w' => e = .returned (.map (some w.heap.size)) ∧ w'.ownsMap Try.prog 3 shElem w.heap.size 4 shD ∧ Below w.heap.size w w' := by
  have hmm := @run_makeMap Try.prog
  have hmf : ∀ (fn : Fn) (first cap : Array Value) (w : World), (Instr.makeFunc fn first cap).run Try.prog w = .ok (.func fn first cap) w := fun _ _ _ _ => rfl
  have hown : Aside0 ((w.alloc (.map #[] 0)).ownsMap (H := Unit) Try.prog 3 shElem w.heap.size 0 (.map [])) := ⟨World.ownsMap_made _ _ _ _⟩
  have hb : Aside0 (Below w.heap.size w (w.alloc (.map #[] 0))) := ⟨(Below.refl _ _).alloc (Nat.le_refl _) _⟩
  go_enter Try.func76, Try.ntmps76
  go_wp2_with (refine M.wpList_insert_own (H := Unit) _ rfl _ _ _ 95 rfl 3 93 lawI Try.underlying95 shElem _ _ _ rfl hown.out ?_ _ _ _ rfl rfl (Maps.keyOf_int_mk Try.underlying3 (by decide)) _ [] rfl ?_; (unfold maxLen; omega); intro w1 h1 g1; have hb' := Aside0.mk (hb.out.grown g1 hb.out.size (fun k e => by cases e; exact Nat.le_refl _)); clear hown hb g1; have hown := Aside0.mk h1; have hb := hb'; clear h1 hb')
  go_ret
  exact ⟨rfl, hown.out, hb.out⟩
theorem zeroS (w : World) : (zeroValue 93).run Try.prog w = .ok (.agg #[.nilFunc, .nilFunc]) w := by kernel_rfl
theorem look_shape (w : World) (b n : Nat) (h : w.ownsMap (H := Unit) Try.prog 3 shElem b n shD) :
    (Instr.lookup 95 (.map (some b)) (.int .i64 4) true).run Try.prog w = .ok (.tuple #[.agg #[.func (.func 95) #[] #[], .func (.func 97) #[] #[]], .bool true]) w ∧
    (Instr.lookup 95 (.map (some b)) (.int .i64 4) false).run Try.prog w = .ok (.agg #[.func (.func 95) #[] #[], .func (.func 97) #[] #[]]) w := by
  obtain ⟨es, clock, hb, F, _, hD⟩ := h
  have hk : keyOf Try.prog 3 (.int .i64 4) = some (.int .i64 4) := Maps.keyOf_int_mk Try.underlying3 (by decide)
  have hat0 : shD.atKey (.int .i64 4) (.lit (.int .i64 0)) = .agg [.lit (.int .i64 95), .lit (.int .i64 97)] := by rfl
  refine ⟨?_, ?_⟩
  · rcases Maps.fit_look true lawI Try.underlying95 (zeroS w) hb F hk with ⟨hrun, _, hat⟩ | ⟨e0, y, _, _, hrun, hR, hat, _⟩
    · rw [← hD] at hat; exact absurd ((hat (.lit (.int .i64 0))).symm.trans hat0) (by simp)
    · rw [← hD] at hat
      obtain ⟨n, m, hn, rfl⟩ := shElem_inv hR
      have h1 := (hat (.lit (.int .i64 0))).symm.trans hat0
      obtain ⟨e1, e2⟩ : (n : Int) = 95 ∧ (m : Int) = 97 := by simpa using h1
      rw [hrun, hn, show n = 95 from by omega, show m = 97 from by omega]; rfl
  · rcases Maps.fit_look false lawI Try.underlying95 (zeroS w) hb F hk with ⟨hrun, _, hat⟩ | ⟨e0, y, _, _, hrun, hR, hat, _⟩
    · rw [← hD] at hat; exact absurd ((hat (.lit (.int .i64 0))).symm.trans hat0) (by simp)
    · rw [← hD] at hat
      obtain ⟨n, m, hn, rfl⟩ := shElem_inv hR
      have h1 := (hat (.lit (.int .i64 0))).symm.trans hat0
      obtain ⟨e1, e2⟩ : (n : Int) = 95 ∧ (m : Int) = 97 := by simpa using h1
      rw [hrun, hn, show n = 95 from by omega, show m = 97 from by omega]; rfl
end Go.Proofs.Ytogknojocodhgaa.P
end
