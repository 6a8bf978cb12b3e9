-- Texts of this claim, put together and cut down to what is used (trim.py, a program of this session).
import Derived.Deep.RegionHeld3
import Derived.Test.YtogknojocodhgaaZ2
import Derived.Test.YtogknojocodhgaaZ16
import Derived.Test.YtogknojocodhgaaZ18
section
namespace Go.Proofs.Ytogknojocodhgaa.P
open Go.RowKit Go.WideMaps Go.Proofs.YtogknojocodhgaaW.PrintWords Go.Proofs.YtogknojocodhgaaW.PrintLast Go.Proofs.YtogknojocodhgaaW.PrintMore
set_option linter.unusedVariables false
set_option linter.unusedSimpArgs false
theorem run_copy_sz {P : Program} (w : World) (dT sT ty elem : TypeId) (b o dLen dCap sz : Nat) (a : Addr) (sLen sCap : Nat) (cs : List Value)
    (hu : P.underlying dT = some (.slice elem)) (hs : (P.info? elem).map (·.size) = some sz) (hn : cs.length = Nat.min sLen dLen * sz)
    (hsrc : ∀ j v, cs[j]? = some v → w.cell? (a.add j) = some v) (hc : ∀ j, j < cs.length → (w.cell? ⟨b, o + j, none⟩).isSome = true) (hf : ∀ j, j < cs.length → w.frozen? ⟨b, o + j, none⟩ = false) (h1 : ∀ v ∈ cs, v.oneCell' = true) :
    (Builtin.copy_ #[dT, sT] ty #[.slice (some ⟨b, o, none⟩) dLen dCap, .slice (some a) sLen sCap]).run P w = .ok (goInt (Nat.min sLen dLen : Nat)) (w.setCells b o cs) := by
  have hl := run_loadCells_list (P := P) w a cs hsrc
  have hst := run_storeCells_cells (P := P) b o cs 0 w (by simpa using hc) (by simpa using hf) h1
  cases hq : P.info? elem with
  | none => simp [hq] at hs
  | some i =>
    have hi : i.size = sz := by simpa [hq] using hs
    simp [Builtin.copy_, run_underlying hu, Builtin.lenOf, Builtin.firstCells, sizeOf, typeInfo, hq, hi, ← hn, hl, hst]
def one3 : List Value := [.int .i64 1, .int .i64 0, .string ⟨#[]⟩]
def zer3 : List Value := [.int .i64 0, .int .i64 0, .string ⟨#[]⟩]
def rep3 (k : Nat) (s : List Value) : List Value := (List.replicate k s).flatten
theorem rep3_len (k : Nat) (s : List Value) (h : s.length = 3) : (rep3 k s).length = k * 3 := by
  induction k with
  | zero => rfl
  | succ k ih => simp [rep3, List.replicate_succ, h] at ih ⊢; omega
theorem rep3_add (a b : Nat) (s : List Value) : rep3 (a + b) s = rep3 a s ++ rep3 b s := by
  simp [rep3, ← List.flatten_append]
theorem one3_one : ∀ k, ∀ v ∈ rep3 k one3, v.oneCell' = true := by
  intro k v hv
  simp only [rep3, List.mem_flatten, List.mem_replicate] at hv
  obtain ⟨l, ⟨_, rfl⟩, hv⟩ := hv
  simp only [one3, List.mem_cons, List.not_mem_nil, or_false] at hv
  rcases hv with rfl | rfl | rfl <;> rfl
def rowL (n j : Nat) : List Value := rep3 j one3 ++ rep3 (n - j) zer3
theorem rowL_step (n j m : Nat) (h : j + m ≤ n) : (rowL n j).take (j * 3) ++ rep3 m one3 ++ (rowL n j).drop (j * 3 + (rep3 m one3).length) = rowL n (j + m) := by
  have h1 := rep3_len j one3 rfl
  have h2 := rep3_len m one3 rfl
  unfold rowL
  rw [List.take_append_of_le_length (by omega), List.take_of_length_le (by omega), rep3_add, List.append_assoc, List.append_assoc]
  congr 2
  rw [List.drop_append, List.drop_of_length_le (by omega), h1, h2, List.nil_append, show n - j = m + (n - (j + m)) from by omega, rep3_add, List.drop_append, rep3_len _ _ rfl, List.drop_of_length_le (by rw [rep3_len _ _ rfl]; omega), List.nil_append, show j * 3 + m * 3 - j * 3 - m * 3 = 0 from by omega, List.drop_zero]
theorem copy_step (W : World) (g n j d : Nat) (ad : Addr) (sLen sCap : Nat) (cur : Array Value) (hh : W.heap[g]? = some (.cells cur 39 (0, 0))) (hcur : cur.toList = rowL n j) (hj : j ≤ n) (m : Nat) (hm : m = Nat.min sLen (n - j))
    (hsrc : ∀ i v, (rep3 m one3)[i]? = some v → W.cell? (ad.add i) = some v) :
    (Builtin.copy_ #[67, 67] 3 #[.slice (some ⟨g, j * 3, none⟩) (n - j) d, .slice (some ad) sLen sCap]).run Try.prog W = .ok (.int .i64 (m : Int)) (W.setCells g (j * 3) (rep3 m one3)) ∧
    ∃ cur', (W.setCells g (j * 3) (rep3 m one3)).heap[g]? = some (.cells cur' 39 (0, 0)) ∧ cur'.toList = rowL n (j + m) := by
  have hmle : m ≤ n - j := by rw [hm]; exact Nat.min_le_right _ _
  have hl := rep3_len m one3 rfl
  have hsz : cur.size = n * 3 := by
    rw [← Array.length_toList, hcur, rowL, List.length_append, rep3_len _ _ rfl, rep3_len _ _ rfl]; omega
  have hr := run_copy_sz (P := Try.prog) W 67 67 3 39 g (j * 3) (n - j) d 3 ad sLen sCap (rep3 m one3) Try.underlying67 (by kernel_rfl) (by rw [hl, hm]) hsrc
    (fun i hi => by rw [cell_of_row W g _ cur 39 (0, 0) hh]; simp; omega) (fun i _ => blk_frozen hh _) (one3_one m)
  rw [← hm] at hr
  obtain ⟨cur', h3, h4, h5⟩ := setCells_row (rep3 m one3) (j * 3) W cur hh (by omega)
  exact ⟨hr, cur', h3, by rw [h5, hcur]; exact rowL_step n j m (by omega)⟩
theorem row_R (W : World) (base g n : Nat) (cur : Array Value) (hh : W.heap[g]? = some (.cells cur 39 (0, 0))) (hcur : cur.toList = rowL n n) (hb : base ≤ g) (hn : 1 ≤ n ∧ n ≤ 8) :
    Kd.R k39 39 W base (fun _ => True) (.slice (some ⟨g, 0, none⟩) n n) (List.replicate n (⟨1, 0, ⟨#[]⟩⟩ : S39)) := by
  have hsz : cur.size = n * 3 := by
    rw [← Array.length_toList, hcur, rowL, List.length_append, rep3_len _ _ rfl, rep3_len _ _ rfl]; omega
  have hrow : rowL n n = rep3 n one3 := by unfold rowL; rw [Nat.sub_self]; simp [rep3]
  refine ⟨fun _ _ => trivial, rep3 n one3, ⟨by rw [rep3_len _ _ rfl, List.length_replicate]; rfl, .inr ⟨g, n, cur, by rw [List.length_replicate], hb, hh, by rw [List.length_replicate]; omega, by simp only [maxLen]; omega, by rw [hsz]; rfl, ?_⟩⟩, ?_⟩
  · rw [List.length_replicate, hcur, hrow]
    exact List.take_of_length_le (by rw [rep3_len _ _ rfl]; exact Nat.le_refl _)
  · refine ⟨by rw [rep3_len _ _ rfl, List.length_replicate]; rfl, fun j p hp => ?_⟩
    have hj : j < n := by
      have := (List.getElem?_eq_some_iff.1 hp).1
      simpa using this
    have hp2 : p = ⟨1, 0, ⟨#[]⟩⟩ := by
      have := (List.getElem?_eq_some_iff.1 hp).2
      simpa using this.symm
    subst hp2
    have : ((rep3 n one3).drop (j * 3)).take 3 = one3 := by
      rw [show n = j + (1 + (n - j - 1)) from by omega, rep3_add, rep3_add, List.drop_append, rep3_len _ _ rfl, List.drop_of_length_le (by rw [rep3_len _ _ rfl]; exact Nat.le_refl _), List.nil_append, Nat.sub_self, List.drop_zero]
      rfl
    show Kd.M k39 W base _ _ (((rep3 n one3).drop (j * 3)).take 3)
    rw [this]
    exact k39_mkM _ _ _ _
open Kd in
theorem reps_rep (s : List Value) (hs : s.length = 3) : ∀ (n : Nat) (cs : List Value), Reps (fun (_ : Unit) c => c = s) 3 (List.replicate n ()) cs → cs = rep3 n s
  | 0, cs, h => by
    have := h.1
    simp at this
    subst this; rfl
  | n + 1, cs, h => by
    have h1 := h.2 0 () (by simp)
    have h2 := reps_drop (m := 1) h
    simp only [List.replicate_succ, List.drop_succ_cons, List.drop_zero, Nat.one_mul] at h2
    have ih := reps_rep s hs n _ h2
    rw [← List.take_append_drop 3 cs, ih]
    simp only [Nat.zero_mul, List.drop_zero] at h1
    rw [h1]
    simp [rep3, List.replicate_succ]
open Kd in
theorem made_row (n : Nat) (h : 1 ≤ n ∧ n ≤ 8) : (madeCells (Value.agg #[.int .i64 0, .int .i64 0, .string ⟨#[]⟩]).cells (n * 3)).toList = rowL n 0 := by
  have hz : (Value.agg #[.int .i64 0, .int .i64 0, .string ⟨#[]⟩]).cells.toList = zer3 := by kernel_rfl
  have := reps_rep zer3 rfl n _ (reps_made (R := fun (_ : Unit) c => c = zer3) (z := Value.agg #[.int .i64 0, .int .i64 0, .string ⟨#[]⟩]) (size := 3) (z0 := ()) (by rw [← Array.length_toList, hz]; rfl) (by omega) hz n)
  rw [this]
  simp [rowL, rep3]
theorem below_cells {w W : World} {g : Nat} (vs : List Value) (o : Nat) (hb : Below w.heap.size w W) (hg : w.heap.size ≤ g) : Below w.heap.size w (W.setCells g o vs) := by
  obtain ⟨s1, s2, s3, s4⟩ := setCells_same g vs o W
  exact hb.grown (row := some g) ⟨s1, s2, s3, by rw [s4]; exact Nat.le_refl _, fun k _ hk => setCells_far _ _ k (fun he => hk (by rw [he]))⟩ hb.size (fun k e => by cases e; exact hg)
theorem wpList_copy {P : Program} {ops : Array Oper} {Q : Exit → Act → World → Prop} {o : Oper} {rest : List Oper} {a : Act} {W w1 : World} (hgd : o.guard = none) (s x : Operand) (t t' : TypeId)
    (ho : o.op = .call { callee := .builtin .copy, args := #[s, x], argTypes := #[t, t'] }) (v xv r : Value) (hs : a.eval s = v) (hx : a.eval x = xv) (hrun : (Builtin.copy_ #[t, t'] o.type #[v, xv]).run P W = .ok r w1) (h : wpList P ops Q rest (a.put o.dst r) w1) :
    wpList P ops Q (o :: rest) a W := by
  refine wpList_plain hgd fun K hK => ?_
  unfold Oper.wp execOp
  simp only [ho, resolve, invoke, builtin, Sem.run_bind, Sem.run_pure, Result.andThen_ok, List.map_toArray, List.map_cons, List.map_nil, hs, hx, hrun]
  exact hK _ _ h
theorem step_copy_run {P : Program} {ops : Array Oper} {o : Oper} {a : Act} {K : Act → World → Prop} {Q : Exit → Act → World → Prop} {E : Prop} {W w1 : World} (hgd : o.guard = none) (s x : Operand) (t : TypeId)
    (ho : o.op = .call { callee := .builtin .copy, args := #[s, x], argTypes := #[t, t] }) (v xv v1 : Value) (hs : a.eval s = v) (hx : a.eval x = xv) (hrun : (Builtin.copy_ #[t, t] o.type #[v, xv]).run P W = .ok v1 w1) (h : K (a.put o.dst v1) w1) :
    if Region.wanted o (yielded ops a.tmps) = true then Oper.wp P o a W K Q else E := by
  have hw : Region.wanted o (yielded ops a.tmps) = true := by simp [Region.wanted, hgd]
  rw [if_pos hw]
  unfold Oper.wp execOp
  simp only [ho, resolve, invoke, builtin, Sem.run_bind, Sem.run_pure, Result.andThen_ok, List.map_toArray, List.map_cons, List.map_nil, hs, hx, hrun]
  exact h
set_option maxHeartbeats 2000000 in
set_option maxRecDepth 100000 in
theorem repeat_calls (A : Option Addr) (c : Nat) (n : Nat) (w : World) (h : 1 ≤ n ∧ n ≤ 8) (hr : k39.C w A 1 [(⟨1, 0, ⟨#[]⟩⟩ : S39)]) (hc : 1 ≤ c) :
    Calls Try.prog 94 #[.slice A 1 c, .int .i64 (n : Int)] w fun e w' => ∃ v0_ : Value, e = .returned v0_ ∧ Kd.R k39 39 w' w.heap.size (fun _ => True) v0_ (List.replicate n (⟨1, 0, ⟨#[]⟩⟩ : S39)) ∧ Below w.heap.size w w' := by
  obtain ⟨ad, e1, hcells⟩ := hr.2.2 (by omega)
  subst e1
  obtain ⟨cc, hs, hk, hcell⟩ := hcells 0 _ rfl
  have hcc := k39_open hk
  subst hcc
  have hmk : ∀ w, (Instr.makeSlice 67 (.int .i64 (n : Int)) (.int .i64 (n : Int))).run Try.prog w = .ok (.slice (some ⟨w.heap.size, 0, none⟩) n n) (w.alloc (.cells (madeCells (Value.agg #[.int .i64 0, .int .i64 0, .string ⟨#[]⟩]).cells (n * 3)) 39)) := by
    intro w
    obtain ⟨i0, hi, hzz⟩ := Option.map_eq_some_iff.1 info39
    simp only [Prod.mk.injEq] at hzz
    obtain ⟨hz0, hz1, hz2⟩ := hzz
    have := run_makeSlice w 67 39 i0 (.agg #[.int .i64 0, .int .i64 0, .string ⟨#[]⟩]) Try.underlying67 hi hz0 .i64 .i64 (n : Int) (n : Int) (by omega) (Int.le_refl _) (by rw [hz1]; simp; omega) (by rw [hz2]; omega) (by omega)
    simpa [hz1] using this
  have HMK := Aside0.mk hmk
  have HX : Aside0 (∀ i v, (rep3 1 one3)[i]? = some v → w.cell? (ad.add i) = some v) := ⟨by
    intro i v hv
    have := hcell i v hv
    simpa using this⟩
  have HB0 : Aside0 (Below w.heap.size w (w.alloc (.cells (madeCells (Value.agg #[.int .i64 0, .int .i64 0, .string ⟨#[]⟩]).cells (n * 3)) 39))) := ⟨(Below.refl _ _).alloc (Nat.le_refl _) _⟩
  have hX1 : ∀ i v, (rep3 1 one3)[i]? = some v → (w.alloc (.cells (madeCells (Value.agg #[.int .i64 0, .int .i64 0, .string ⟨#[]⟩]).cells (n * 3)) 39)).cell? (ad.add i) = some v := fun i v hv => (HB0.out.cell (World.block_lt_of_cell? w _ (HX.out i v hv))).trans (HX.out i v hv)
  obtain ⟨hcopy, cur1, hcur1, hl1⟩ := copy_step (w.alloc (.cells (madeCells (Value.agg #[.int .i64 0, .int .i64 0, .string ⟨#[]⟩]).cells (n * 3)) 39)) w.heap.size n 0 n ad 1 c _ (MapKept.heap_alloc w _).1 (made_row n h) (Nat.zero_le _) 1 (by rw [Nat.sub_zero]; exact (Nat.min_eq_left h.1).symm) hX1
  have hcopy' : (Builtin.copy_ #[67, 67] 3 #[.slice (some ⟨w.heap.size, 0, none⟩) n n, .slice (some ad) 1 c]).run Try.prog (w.alloc (.cells (madeCells (Value.agg #[.int .i64 0, .int .i64 0, .string ⟨#[]⟩]).cells (n * 3)) 39)) = .ok (.int .i64 1) ((w.alloc (.cells (madeCells (Value.agg #[.int .i64 0, .int .i64 0, .string ⟨#[]⟩]).cells (n * 3)) 39)).setCells w.heap.size 0 (rep3 1 one3)) := by simpa using hcopy
  have HB1 : Aside0 (Below w.heap.size w ((w.alloc (.cells (madeCells (Value.agg #[.int .i64 0, .int .i64 0, .string ⟨#[]⟩]).cells (n * 3)) 39)).setCells w.heap.size 0 (rep3 1 one3))) := ⟨below_cells _ _ HB0.out (Nat.le_refl _)⟩
  have HC1 : Aside0 (((w.alloc (.cells (madeCells (Value.agg #[.int .i64 0, .int .i64 0, .string ⟨#[]⟩]).cells (n * 3)) 39)).setCells w.heap.size 0 (rep3 1 one3)).heap[w.heap.size]? = some (.cells cur1 39 (0, 0))) := ⟨by simpa using hcur1⟩
  have HL1 : Aside0 (cur1.toList = rowL n 1) := ⟨by simpa using hl1⟩
  clear hcopy hcur1 hl1 hX1 hr hcells hk hcell
  go_enter Try.func94, Try.ntmps94
  go_wp2_with fail
  refine (Try.bits_Mul 1 n (by omega) (by omega) _).mono ?_
  rintro e w1 ⟨rfl, rfl⟩
  have e1 : (1 * n) / 18446744073709551616 = 0 := by omega
  have e2 : (1 * n) % 18446744073709551616 = n := by omega
  rw [e1, e2]
  have hmk1 := HMK.out w1
  go_wp2_with ((with_reducible refine gate_builtin (b := .copy) (xs := #[.tmp 31, .tmp 32]) rfl ?_); refine wpList_copy rfl (.tmp 31) (.tmp 32) 67 67 rfl _ _ _ rfl rfl hcopy' ?_)
  go_loopw [8] (fun v wr => ∃ (j : Nat) (cur : Array Value), v = .int .i64 (j : Int) ∧ 1 ≤ j ∧ j ≤ n ∧ Aside0 (wr.heap[w1.heap.size]? = some (.cells cur 39 (0, 0))) ∧ Aside0 (cur.toList = rowL n j) ∧ Aside0 (Below w1.heap.size w1 wr)) (fun v _ => n - (intOf v).toNat)
  case atStart => exact ⟨1, cur1, rfl, Nat.le_refl _, h.1, HC1, HL1, HB1⟩
  case round =>
    obtain ⟨j, cur, rfl, hj1, hjn, HC, HL, HB⟩ := hrel
    by_cases hlt : j < n
    · have c0 : decide ((j : Int) < (n : Int)) = true := decide_eq_true (by omega)
      have hcp : ∀ W : World, W.heap[w1.heap.size]? = some (.cells cur 39 (0, 0)) → (Builtin.copy_ #[67, 67] 3 #[.slice (some ⟨w1.heap.size, j * 3, none⟩) (n - j) (n - j), .slice (some ⟨w1.heap.size, 0, none⟩) j n]).run Try.prog W = .ok (.int .i64 (Nat.min j (n - j) : Nat)) (W.setCells w1.heap.size (j * 3) (rep3 (Nat.min j (n - j)) one3)) ∧
          ∃ cur', (W.setCells w1.heap.size (j * 3) (rep3 (Nat.min j (n - j)) one3)).heap[w1.heap.size]? = some (.cells cur' 39 (0, 0)) ∧ cur'.toList = rowL n (j + Nat.min j (n - j)) := by
        intro W hW
        refine copy_step W w1.heap.size n j (n - j) ⟨w1.heap.size, 0, none⟩ j n cur hW HL.out hjn (Nat.min j (n - j)) rfl ?_
        intro i v hv
        have hlen := (List.getElem?_eq_some_iff.1 hv).1
        rw [rep3_len _ _ rfl] at hlen
        have hmj : Nat.min j (n - j) ≤ j := Nat.min_le_left _ _
        have hadd : (⟨w1.heap.size, 0, none⟩ : Addr).add i = ⟨w1.heap.size, 0 + i, none⟩ := by unfold Addr.add; split <;> simp_all
        rw [hadd, cell_of_row W w1.heap.size _ cur 39 (0, 0) hW, Nat.zero_add, ← Array.getElem?_toList, HL.out, rowL]
        rw [List.getElem?_append_left (by rw [rep3_len _ _ rfl]; omega)]
        obtain ⟨d, hd⟩ : ∃ d, j = Nat.min j (n - j) + d := ⟨j - Nat.min j (n - j), by omega⟩
        generalize Nat.min j (n - j) = m at *
        subst hd
        rw [rep3_add, List.getElem?_append_left (by rw [rep3_len _ _ rfl]; omega)]
        exact hv
      have HCP := Aside0.mk hcp
      have hmin1 : 1 ≤ Nat.min j (n - j) := by show 1 ≤ min j (n - j); omega
      have hmin2 : j + Nat.min j (n - j) ≤ n := by show j + min j (n - j) ≤ n; omega
      clear hcp
      go_wp2_with fail
      go_region_held3 (fun _ => True) (trivial) (first | (refine step_copy_run (by rfl) (.tmp 41) (.tmp 44) 67 (by rfl) _ _ _ (by first | rfl | ((show Value.slice (if n = j then _ else _) (n - j) (n - j) = _); rw [if_neg (by omega)])) (by rfl) (HCP.out _ (by first | exact HC.out | simpa using HC.out)).1 ?_))
      obtain ⟨cur2, hcur2, hl2⟩ := (HCP.out wr.drew HC.out).2
      have HB2 : Aside0 (Below w1.heap.size w1 (wr.drew.setCells w1.heap.size (j * 3) (rep3 (Nat.min j (n - j)) one3))) := ⟨below_cells _ _ (below_drew HB.out) (Nat.le_refl _)⟩
      have HC2 := Aside0.mk hcur2
      have HL2 := Aside0.mk hl2
      clear hcur2 hl2
      go_wp2
      have hw : IntKind.i64.wrap ((j : Int) + (Nat.min j (n - j) : Nat)) = ((j + Nat.min j (n - j) : Nat) : Int) := by unfold IntKind.wrap; simp [IntKind.bits, IntKind.signed]; omega
      rw [hw]
      exact ⟨⟨j + Nat.min j (n - j), cur2, rfl, by omega, by omega, HC2, HL2, HB2⟩, by simp only [intOf]; omega⟩
    · have c0 : decide ((j : Int) < (n : Int)) = false := decide_eq_false (by omega)
      obtain rfl : j = n := by omega
      go_wp2
      go_ret
      exact ⟨_, rfl, row_R _ _ _ _ _ HC.out HL.out (Nat.le_refl _) h, HB.out⟩
end Go.Proofs.Ytogknojocodhgaa.P
end
section
namespace Go.Proofs.Ytogknojocodhgaa.P
open Go.RowKit Go.WideMaps Go.Proofs.YtogknojocodhgaaW.PrintWords Go.Proofs.YtogknojocodhgaaW.PrintLast Go.Proofs.YtogknojocodhgaaW.PrintMore
set_option linter.unusedVariables false
set_option linter.unusedSimpArgs false
def noRec (rec : ByteArray) : Bool := rec.toList == []
set_option maxHeartbeats 2000000 in
set_option maxRecDepth 100000 in
theorem shape1_calls (k n : Int) (rec : ByteArray) (A : Option Addr) (c : Nat) (l : List S57) (w : World) :
    Calls Try.prog 90 #[.agg #[.int .i64 k, .int .i64 n, .string rec], .slice A l.length c] w fun e w' => e = .returned (.bool (decide (n = 0) && noRec rec)) ∧ Below w.heap.size w w' := by
  have HB0 : Aside0 (Below w.heap.size w (w.alloc (.cells #[.int .i64 k, .int .i64 n, .string rec] 39))) := ⟨(Below.refl _ _).alloc (Nat.le_refl _) _⟩
  have fin : ∀ b1 b2 : Bool, decide (n = 0) = b1 → noRec rec = b2 → Calls Try.prog 90 #[.agg #[.int .i64 k, .int .i64 n, .string rec], .slice A l.length c] w fun e w' => e = .returned (.bool (b1 && b2)) ∧ Below w.heap.size w w' := by
    intro b1 b2 h1 h2
    have h1' : (n == 0) = b1 := by rw [← h1]; rfl
    have h2' : (rec.toList == []) = b2 := h2
    cases b1 <;> cases b2
    all_goals (
      go_enter Try.func90, Try.ntmps90
      go_wp2
      go_ret
      exact ⟨by first | rfl | simp [*], HB0.out⟩)
  exact fin _ _ rfl rfl
set_option maxHeartbeats 2000000 in
set_option maxRecDepth 100000 in
theorem shape3_calls (k n : Int) (rec : ByteArray) (A : Option Addr) (c : Nat) (l : List S57) (w : World) :
    Calls Try.prog 92 #[.agg #[.int .i64 k, .int .i64 n, .string rec], .slice A l.length c] w fun e w' => e = .returned (.bool (decide (1 ≤ n) && (decide (n ≤ 8) && noRec rec))) ∧ Below w.heap.size w w' := by
  have HB0 : Aside0 (Below w.heap.size w (w.alloc (.cells #[.int .i64 k, .int .i64 n, .string rec] 39))) := ⟨(Below.refl _ _).alloc (Nat.le_refl _) _⟩
  have fin : ∀ b1 b2 b3 : Bool, decide (1 ≤ n) = b1 → decide (n ≤ 8) = b2 → noRec rec = b3 → Calls Try.prog 92 #[.agg #[.int .i64 k, .int .i64 n, .string rec], .slice A l.length c] w fun e w' => e = .returned (.bool (b1 && (b2 && b3))) ∧ Below w.heap.size w w' := by
    intro b1 b2 b3 h1 h2 h3
    have h3' : (rec.toList == []) = b3 := h3
    cases b1 <;> cases b2 <;> cases b3
    all_goals (
      go_enter Try.func92, Try.ntmps92
      go_wp2
      go_ret
      exact ⟨by first | rfl | simp [*], HB0.out⟩)
  exact fin _ _ _ rfl rfl rfl
theorem row_one (W : World) (base g : Nat) (k : Int) (hh : W.heap[g]? = some (.cells #[.int .i64 k, .int .i64 0, .string ⟨#[]⟩] 39 (0, 0))) (hb : base ≤ g) :
    Kd.R k39 39 W base (fun _ => True) (.slice (some ⟨g, 0, none⟩) 1 1) [(⟨k, 0, ⟨#[]⟩⟩ : S39)] := by
  refine ⟨fun _ _ => trivial, [.int .i64 k, .int .i64 0, .string ⟨#[]⟩], ⟨rfl, .inr ⟨g, 1, _, rfl, hb, hh, Nat.le_refl _, by simp only [maxLen]; omega, rfl, rfl⟩⟩, ?_⟩
  refine ⟨rfl, fun j p hp => ?_⟩
  have hj : j = 0 := by
    have := (List.getElem?_eq_some_iff.1 hp).1
    simpa using this
  subst hj
  have hp2 : (⟨k, 0, ⟨#[]⟩⟩ : S39) = p := by simpa using hp
  subst hp2
  exact k39_mkM _ _ _ _
set_option maxHeartbeats 2000000 in
set_option maxRecDepth 100000 in
theorem shape2_calls (k n : Int) (rec : ByteArray) (A : Option Addr) (c : Nat) (l : List S57) (w : World) :
    Calls Try.prog 91 #[.agg #[.int .i64 k, .int .i64 n, .string rec], .slice A l.length c] w fun e w' => ∃ v0_ : Value, e = .returned v0_ ∧ Kd.R k39 39 w' w.heap.size (fun _ => True) v0_ [(⟨k, 0, ⟨#[]⟩⟩ : S39)] ∧ Below w.heap.size w w' := by
  have HB0 : Aside0 (Below w.heap.size w (w.alloc (.cells #[.int .i64 k, .int .i64 n, .string rec] 39))) := ⟨(Below.refl _ _).alloc (Nat.le_refl _) _⟩
  go_enter Try.func91, Try.ntmps91
  have hF : ((w.alloc (.cells #[.int .i64 k, .int .i64 n, .string rec] 39)).alloc (.cells #[.int .i64 k, .int .i64 0, .string ⟨#[]⟩] 39)).heap[w.heap.size + 1]? = some (.cells #[.int .i64 k, .int .i64 0, .string ⟨#[]⟩] 39 (0, 0)) := by
    have h := (MapKept.heap_alloc (w.alloc (.cells #[.int .i64 k, .int .i64 n, .string rec] 39)) (.cells #[.int .i64 k, .int .i64 0, .string ⟨#[]⟩] 39)).1
    simpa using h
  have HF := Aside0.mk hF
  clear hF
  go_wp2
  go_ret
  exact ⟨_, rfl, row_one _ _ _ k HF.out (by omega), HB0.out.alloc (by simp) _⟩
set_option maxHeartbeats 2000000 in
set_option maxRecDepth 100000 in
theorem shape4_calls (k : Int) (n : Nat) (rec : ByteArray) (A : Option Addr) (c : Nat) (l : List S57) (w : World) (h : 1 ≤ n ∧ n ≤ 8) :
    Calls Try.prog 93 #[.agg #[.int .i64 k, .int .i64 (n : Int), .string rec], .slice A l.length c] w fun e w' => ∃ v0_ : Value, e = .returned v0_ ∧ Kd.R k39 39 w' w.heap.size (fun _ => True) v0_ (List.replicate n (⟨1, 0, ⟨#[]⟩⟩ : S39)) ∧ Below w.heap.size w w' := by
  have HB0 : Aside0 (Below w.heap.size w (w.alloc (.cells #[.int .i64 k, .int .i64 n, .string rec] 39))) := ⟨(Below.refl _ _).alloc (Nat.le_refl _) _⟩
  go_enter Try.func93, Try.ntmps93
  have hF : ((w.alloc (.cells #[.int .i64 k, .int .i64 n, .string rec] 39)).alloc (.cells #[.int .i64 1, .int .i64 0, .string ⟨#[]⟩] 39)).heap[w.heap.size + 1]? = some (.cells #[.int .i64 1, .int .i64 0, .string ⟨#[]⟩] 39 (0, 0)) := by
    have h := (MapKept.heap_alloc (w.alloc (.cells #[.int .i64 k, .int .i64 n, .string rec] 39)) (.cells #[.int .i64 1, .int .i64 0, .string ⟨#[]⟩] 39)).1
    simpa using h
  have hC : k39.C ((w.alloc (.cells #[.int .i64 k, .int .i64 n, .string rec] 39)).alloc (.cells #[.int .i64 1, .int .i64 0, .string ⟨#[]⟩] 39)) (some ⟨w.heap.size + 1, 0, none⟩) 1 [(⟨1, 0, ⟨#[]⟩⟩ : S39)] := by
    obtain ⟨A5, c5, e5, _, hC⟩ := Kd.R_reads (row_one _ 0 _ 1 hF (Nat.zero_le _))
    injection e5 with e6
    rw [e6]; exact hC
  have HC := Aside0.mk hC
  have HB2 : Aside0 (Below w.heap.size w ((w.alloc (.cells #[.int .i64 k, .int .i64 n, .string rec] 39)).alloc (.cells #[.int .i64 1, .int .i64 0, .string ⟨#[]⟩] 39))) := ⟨HB0.out.alloc (by simp) _⟩
  clear hF hC
  go_wp2_with fail
  refine (repeat_calls (some ⟨w.heap.size + 1, 0, none⟩) 1 n _ h HC.out (Nat.le_refl _)).mono ?_
  rintro e w5 ⟨v5, rfl, ho5, hb5⟩
  have HO5 := Aside0.mk (Kd.R_lower ho5 HB2.out.size)
  have HB5 : Aside0 (Below w.heap.size w w5) := ⟨HB2.out.trans (hb5.mono HB2.out.size)⟩
  clear ho5 hb5
  go_wp2
  go_ret
  exact ⟨_, rfl, HO5.out, HB5.out⟩
end Go.Proofs.Ytogknojocodhgaa.P
end
