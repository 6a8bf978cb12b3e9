-- Texts of this claim, put together and cut down to what is used (trim.py, a program of this session).
import Derived.Deep.RegionHeld3
import Derived.Laws.EntriesVeiled
import Derived.Test.YtogknojocodhgaaZ17
import Derived.Test.YtogknojocodhgaaZ20
section
namespace Go.Proofs.Ytogknojocodhgaa.P
open Go.RowKit Go.WideMaps Go.Proofs.YtogknojocodhgaaW.PrintWords Go.Proofs.YtogknojocodhgaaW.PrintLast Go.Proofs.YtogknojocodhgaaW.PrintMore
set_option linter.unusedVariables false
set_option linter.unusedSimpArgs false
open Kd in
theorem append_run {α : Type} {P : Program} (d : Kd α) {Rr : α → List Value → Prop} {W : World} (base : Nat) (t e ty : TypeId) (z : Value) (bytes : Nat)
    (ht : P.underlying t = some (.slice e)) (hinfo : (P.info? e).map (fun i => (i.zero, i.size, i.bytes)) = some (some z, d.sz, bytes)) (hz : z.cells.size = d.sz) (hs0 : 0 < d.sz) (hb0 : 0 < bytes)
    (v : Value) (xs ys : List α) (A : Option Addr) (m c : Nat) (ok okp : Nat → Prop)
    (HO : d.R e W base ok v xs) (HR : ReadsRow Rr d.sz W A m ys) (hKM : ∀ x cs, Rr x cs → d.M W base okp x cs) (hokp : ∀ k, okp k → ok k ∧ some k ≠ v.ownBlock) (hfresh : ∀ k, W.heap.size ≤ k → ok k)
    (hbase : base ≤ W.heap.size) (hl : (xs.length + m) * bytes ≤ 140737488355328) :
    ∃ v1 w1, (Builtin.append_ #[t, t] ty #[v, .slice A m c]).run P W = .ok v1 w1 ∧ d.R e w1 base ok v1 (xs ++ ys) ∧ W.grownBy w1 v.ownBlock ∧ (v1.ownBlock = v.ownBlock ∨ ∃ b, v1.ownBlock = some b ∧ W.heap.size ≤ b) := by
  obtain ⟨i0, hi, hzz⟩ := Option.map_eq_some_iff.1 hinfo
  simp only [Prod.mk.injEq] at hzz
  obtain ⟨hz0, hz1, hz2⟩ := hzz
  have hm : ys.length = m := HR.1
  have hlen : xs.length + m ≤ 140737488355328 := Nat.le_trans (Nat.le_mul_of_pos_right _ hb0) hl
  obtain ⟨hok, inner, hown, hr⟩ := HO
  rcases A with _ | ad
  · have h0 : m = 0 := by
      rcases Nat.eq_zero_or_pos m with h0 | h0
      · exact h0
      · obtain ⟨ad, h, _⟩ := HR.2.2 h0
        cases h
    subst h0
    obtain rfl : ys = [] := List.eq_nil_of_length_eq_zero hm
    refine ⟨v, W, ?_, by rw [List.append_nil]; exact ⟨hok, inner, hown, hr⟩, World.grownBy.refl W _, .inl rfl⟩
    rcases hown.2 with ⟨rfl, hn⟩ | ⟨g, cap, cur, rfl, _, _, hnc, _⟩
    · simp [Builtin.append_, run_underlying ht, sizeOf, typeInfo, hi, Builtin.lenOf, Builtin.firstCells]
    · simp [Builtin.append_, run_underlying ht, sizeOf, typeInfo, hi, Builtin.lenOf, Builtin.firstCells, hnc, storeCells]
  · obtain ⟨news, hnr, hnc⟩ := ReadsRow.inner_ HR
    have hnM : Reps (d.M W base okp) d.sz ys news := hnr.imp_ (fun p c hp => hKM p c hp)
    have hone : ∀ u ∈ news, u.oneCell' = true := by
      intro u hu
      obtain ⟨q, hq, rfl⟩ := List.mem_iff_getElem.1 hu
      have hql : q / d.sz < ys.length := by
        rw [Nat.div_lt_iff_lt_mul hs0]
        rw [← hnM.1]
        exact hq
      have hc := hnM.2 (q / d.sz) _ (List.getElem?_eq_getElem hql)
      refine d.K_one (d.K_of_M hc) _ ?_
      rw [List.mem_iff_getElem?]
      refine ⟨q % d.sz, ?_⟩
      rw [List.getElem?_take, if_pos (Nat.mod_lt _ hs0), List.getElem?_drop, Nat.mul_comm, Nat.div_add_mod, List.getElem?_eq_getElem hq]
    obtain ⟨v1, w1, hrun, h2, hg, _, hat⟩ := run_append_own_at (P := P) W base t ty e i0 z d.sz bytes ht hi hz0 hz1 hz2 hz hs0 v xs.length inner hown ad m c news (by rw [hnM.1, hm]) hnc hone (by simp only [maxLen]; omega) hl hbase
    have hat' : v1.ownBlock = v.ownBlock ∨ ∃ b, v1.ownBlock = some b ∧ W.heap.size ≤ b := by
      rcases hat with hat | hat
      · exact .inl hat
      · exact .inr ⟨_, hat, Nat.le_refl _⟩
    have hne : ∀ k, some k ≠ v.ownBlock → k < W.heap.size → some k ≠ v1.ownBlock := by
      intro k hk hlt
      rcases hat' with hat | ⟨b, hb, hle⟩
      · rw [hat]; exact hk
      · rw [hb]
        intro he
        injection he with he
        omega
    have step : ∀ {q : α} {c : List Value} {o : Nat → Prop}, d.M W base o q c → (∀ k, o k → ok k ∧ some k ≠ v.ownBlock) → d.M w1 base (fun k => ok k ∧ some k ≠ v1.ownBlock) q c := by
      intro q c o hq ho
      have h1 := d.M_move (w1 := w1) (fun k hk => hg.block k hk.2.2.1 (ho k hk.1).2) (d.M_bound hq)
      exact d.M_mono (fun k hk => ⟨(ho k hk.1).1, hne k (ho k hk.1).2 hk.2.2.1⟩) h1
    refine ⟨v1, w1, hrun, ⟨fun k hk => ?_, inner ++ news, by rw [List.length_append, hm]; exact h2, reps_append (hr.imp_ (fun _ _ hq => step hq (fun _ hk => hk))) (hnM.imp_ (fun _ _ hq => step hq hokp))⟩, hg, hat'⟩
    rcases hat' with hat | ⟨b, hb, hle⟩
    · exact hok k (hat ▸ hk)
    · rw [hb] at hk
      injection hk with hk
      exact hfresh k (by omega)
def plain39 (x : S39) (cs : List Value) : Prop := cs = [.int .i64 x.f0, .int .i64 x.f1, .string x.f2]
theorem step_append_run {P : Program} {ops : Array Oper} {o : Oper} {a : Act} {K : Act → World → Prop} {Q : Exit → Act → World → Prop} {E : Prop} {W w1 : World} (hgd : o.guard = none) (s x : Operand) (t : TypeId)
    (ho : o.op = .call { callee := .builtin .append, args := #[s, x], argTypes := #[t, t] }) (v xv v1 : Value) (hs : a.eval s = v) (hx : a.eval x = xv) (hrun : (Builtin.append_ #[t, t] o.type #[v, xv]).run P W = .ok v1 w1) (h : K (a.put o.dst v1) w1) :
    if Region.wanted o (yielded ops a.tmps) = true then Oper.wp P o a W K Q else E := by
  have hw : Region.wanted o (yielded ops a.tmps) = true := by simp [Region.wanted, hgd]
  rw [if_pos hw]
  unfold Oper.wp execOp
  simp only [ho, resolve, invoke, builtin, Sem.run_bind, Sem.run_pure, Result.andThen_ok, List.map_toArray, List.map_cons, List.map_nil, hs, hx, hrun]
  exact h
theorem row39 {w : World} {A : Option Addr} {n : Nat} {ys : List S39} (h : k39.C w A n ys) : ReadsRow plain39 3 w A n ys :=
  ⟨h.1, h.2.1, fun hn => let ⟨ad, e, hc⟩ := h.2.2 hn; ⟨ad, e, fun j p hp => let ⟨c, hs, hr, hcell⟩ := hc j p hp; ⟨c, hs, k39_open hr, hcell⟩⟩⟩
theorem carry3 {w w' : World} {g : Nat} {v0 v1 v2 : Value} (hb : Below w.heap.size w w') (h : w.cell? ⟨g, 0, none⟩ = some v0 ∧ w.cell? ⟨g, 1, none⟩ = some v1 ∧ w.cell? ⟨g, 2, none⟩ = some v2) : w'.cell? ⟨g, 0, none⟩ = some v0 ∧ w'.cell? ⟨g, 1, none⟩ = some v1 ∧ w'.cell? ⟨g, 2, none⟩ = some v2 :=
  ⟨(hb.cell (World.block_lt_of_cell? w _ h.1)).trans h.1, (hb.cell (World.block_lt_of_cell? w _ h.2.1)).trans h.2.1, (hb.cell (World.block_lt_of_cell? w _ h.2.2)).trans h.2.2⟩
set_option maxHeartbeats 4000000 in
set_option maxRecDepth 100000 in
theorem scalars_1 (A0 : Option Addr) (c0 : Nat) (l0 : List S57) (A1 : Option Addr) (c1 : Nat) (nm : ByteArray) (w : World) (hr0 : Kd.C k57 w A0 l0.length l0) (hr1 : Kd.C k39 w A1 1 [(⟨1, 0, nm⟩ : S39)]) (hh : noRec nm = true) (hc0 : l0.length ≤ c0) (hc1 : 1 ≤ c1) :
    Calls Try.prog 45 #[.slice A0 l0.length c0, .slice A1 1 c1] w fun e w' => ∃ v0_ : Value, e = .returned v0_ ∧ Kd.R k39 39 w' w.heap.size (fun _ => True) v0_ [(⟨1, 0, ⟨#[]⟩⟩ : S39)] ∧ Below w.heap.size w w' := by
  have HR0 := Aside0.mk hr0
  have HR1 := Aside0.mk hr1
  have hv : types_Valid.f 1 0 nm l0 = some true := by unfold types_Valid.f; rw [if_pos (by decide)]; simp [validT, hh]
  have HV := Aside0.mk hv
  have HE : Aside0 (∀ W, Kd.R k39 39 W w.heap.size (fun _ => True) (.slice none 0 0) []) := ⟨fun W => Kd.R_nil _ _ _ _ _⟩
  have HB : Aside0 (Below w.heap.size w w) := ⟨Below.refl _ _⟩
  obtain ⟨ad, e1, hx0, hx1, hx2⟩ := at_T39 hr1 0 (by omega) (by omega)
  have HX0 : Aside0 (w.cell? ad = some (.int .i64 1)) := ⟨hx0⟩
  have HX1 : Aside0 (w.cell? ⟨ad.block, ad.off + 1, none⟩ = some (.int .i64 0)) := ⟨hx1⟩
  have HX2 : Aside0 (w.cell? ⟨ad.block, ad.off + 2, none⟩ = some (.string nm)) := ⟨hx2⟩
  subst e1
  have hfld : ∀ w : World, (Instr.field 93 (.agg #[.func (.func 90) #[] #[], .func (.func 91) #[] #[]]) 1).run Try.prog w = .ok (.func (.func 91) #[] #[]) w := fun w => by kernel_rfl
  have mixed : Try.prog.follows Departure.mixedOrders = true := by kernel_rfl
  clear hr0 hr1 hv hx0 hx1 hx2
  go_enter Try.func45, Try.ntmps45
  go_wp2_with fail
  go_loopw [5, 10] (fun v5 v10 wr => Aside0 (Below w.heap.size w wr) ∧ ((v10 = .int .i64 0 ∧ v5 = .slice none 0 0) ∨ (v10 = .int .i64 1 ∧ Aside0 (Kd.R k39 39 wr w.heap.size (fun _ => True) v5 [(⟨1, 0, ⟨#[]⟩⟩ : S39)])))) (fun _ v _ => 1 - (intOf v).toNat)
  case atStart => exact ⟨HB, .inl ⟨rfl, rfl⟩⟩
  case round =>
    obtain ⟨HB2, ⟨rfl, rfl⟩ | ⟨rfl, HO⟩⟩ := hrel
    · have hx0 := (HB2.out.cell (World.block_lt_of_cell? w _ HX0.out)).trans HX0.out
      have hx1 := (HB2.out.cell (World.block_lt_of_cell? w _ HX1.out)).trans HX1.out
      have hx2 := (HB2.out.cell (World.block_lt_of_cell? w _ HX2.out)).trans HX2.out
      have HBa : Aside0 (Below w.heap.size w (wr.alloc (.cells #[.int .i64 1, .int .i64 0, .string nm] 39))) := ⟨HB2.out.alloc HB2.out.size _⟩
      have hT := (MapKept.heap_alloc wr (.cells #[.int .i64 1, .int .i64 0, .string nm] 39)).1
      have HT := Aside0.mk hT
      clear hT
      go_wp2_with fail
      refine (types_Valid.calls 1 0 nm A0 c0 l0 true _ (Kd.C_below HR0.out HBa.out) hc0 HV.out).mono ?_
      rintro e w2 ⟨rfl, hb2⟩
      have HB3 : Aside0 (Below w.heap.size w w2) := ⟨HBa.out.trans (hb2.mono HBa.out.size)⟩
      have hT2 : w2.heap[wr.heap.size]? = some (.cells #[.int .i64 1, .int .i64 0, .string nm] 39 (0, 0)) := by
        rw [hb2.block _ (by simp)]; exact HT.out
      have hz0 : w2.cell? ⟨wr.heap.size, 0, none⟩ = some (.int .i64 1) := blk_cell hT2 0
      have hz1 : w2.cell? ⟨wr.heap.size, 1, none⟩ = some (.int .i64 0) := blk_cell hT2 1
      have hz2 : w2.cell? ⟨wr.heap.size, 2, none⟩ = some (.string nm) := blk_cell hT2 2
      have hlt2 := blk_lt hT2
      have HLT := Aside0.mk hlt2
      clear hb2 hT2 hlt2 hx0 hx1 hx2
      go_wp2_with fail
      go_region_held3 (fun w' => w'.cell? ⟨wr.heap.size, 0, none⟩ = some (.int .i64 1) ∧ w'.cell? ⟨wr.heap.size, 1, none⟩ = some (.int .i64 0) ∧ w'.cell? ⟨wr.heap.size, 2, none⟩ = some (.string nm)) (first | go_keep | exact hzw | exact hzw6 | (refine ⟨?_, ?_, ?_⟩ <;> first | assumption | exact hzw.1 | exact hzw.2.1 | exact hzw.2.2))
        (first
          | (go_at_call 76; refine (shapes_calls _).mono ?_; rintro e w3 ⟨rfl, hown, hb⟩; have hzw : w3.cell? ⟨wr.heap.size, 0, none⟩ = some (.int .i64 1) ∧ w3.cell? ⟨wr.heap.size, 1, none⟩ = some (.int .i64 0) ∧ w3.cell? ⟨wr.heap.size, 2, none⟩ = some (.string nm) := ⟨(hb.cell (p := ⟨wr.heap.size, 0, none⟩) (by simpa using HLT.out)).trans hz0, (hb.cell (p := ⟨wr.heap.size, 1, none⟩) (by simpa using HLT.out)).trans hz1, (hb.cell (p := ⟨wr.heap.size, 2, none⟩) (by simpa using HLT.out)).trans hz2⟩; have hlk := (look_shape1 w3 w2.heap.size _ (by simpa using hown)).2; have HB4 : Aside0 (Below w.heap.size w w3) := ⟨by (refine Below.trans ?_ (hb.mono ?_)) <;> first | exact HB3.out | exact HB3.out.drew | (simpa using HB3.out.size)⟩; clear hb hown)
          | (go_at_call 91; refine (shape2_calls 1 0 nm A0 c0 l0 _).mono ?_; rintro e w5 ⟨v5, rfl, ho5, hb5⟩; obtain ⟨A5, c5, rfl, hc5, hC5⟩ := Kd.R_reads ho5; have hrow0 := row39 hC5; have HRow := Aside0.mk hrow0; clear hrow0; have HB5 : Aside0 (Below w.heap.size w w5) := ⟨HB4.out.trans (hb5.mono HB4.out.size)⟩; have hzw5 := carry3 hb5 hzw; clear hzw; have hzw := hzw5; clear hzw5; clear ho5 hb5 hC5; obtain ⟨v1, w6, happ, ho6, hg6, _⟩ := append_run k39 (Rr := plain39) w.heap.size 67 39 67 (.agg #[(.int .i64 0), (.int .i64 0), (.string ⟨#[]⟩)]) 32 Try.underlying67 info39 rfl (by decide) (by omega) (.slice none 0 0) [] [(⟨1, 0, ⟨#[]⟩⟩ : S39)] A5 1 c5 (fun _ => True) (fun _ => False) (HE.out _) HRow.out (fun x cs h => (by have h' : cs = _ := h; rw [h']; exact k39_mkM _ _ _ x)) (fun _ hk => hk.elim) (fun _ _ => trivial) HB5.out.size (by simp only [List.length_nil]; omega); have HO6 := Aside0.mk ho6; have HB6 : Aside0 (Below w.heap.size w w6) := ⟨HB5.out.grown hg6 HB5.out.size (fun k e => by cases e)⟩; have hzw6 : w6.cell? ⟨wr.heap.size, 0, none⟩ = some (.int .i64 1) ∧ w6.cell? ⟨wr.heap.size, 1, none⟩ = some (.int .i64 0) ∧ w6.cell? ⟨wr.heap.size, 2, none⟩ = some (.string nm) := ⟨cell_grown hg6 hzw.1 (by simp [Value.ownBlock]), cell_grown hg6 hzw.2.1 (by simp [Value.ownBlock]), cell_grown hg6 hzw.2.2 (by simp [Value.ownBlock])⟩; clear ho6 hg6)
          | (refine step_append_run (by rfl) (.tmp 18) (.tmp 26) 67 (by rfl) _ _ v1 (by rfl) (by rfl) happ ?_))
      go_wp2
      exact ⟨⟨HB6, .inr ⟨by go_num, ⟨by have h := HO6.out; rwa [List.nil_append] at h⟩⟩⟩, by simp [intOf]⟩
    · go_wp2
      go_ret
      exact ⟨_, rfl, HO.out, HB2.out⟩
set_option maxHeartbeats 4000000 in
set_option maxRecDepth 100000 in
theorem scalars_2 (A0 : Option Addr) (c0 : Nat) (l0 : List S57) (A1 : Option Addr) (c1 : Nat) (nm : ByteArray) (w : World) (hr0 : Kd.C k57 w A0 l0.length l0) (hr1 : Kd.C k39 w A1 1 [(⟨2, 0, nm⟩ : S39)]) (hh : noRec nm = true) (hc0 : l0.length ≤ c0) (hc1 : 1 ≤ c1) :
    Calls Try.prog 45 #[.slice A0 l0.length c0, .slice A1 1 c1] w fun e w' => ∃ v0_ : Value, e = .returned v0_ ∧ Kd.R k39 39 w' w.heap.size (fun _ => True) v0_ [(⟨2, 0, ⟨#[]⟩⟩ : S39)] ∧ Below w.heap.size w w' := by
  have HR0 := Aside0.mk hr0
  have HR1 := Aside0.mk hr1
  have hv : types_Valid.f 2 0 nm l0 = some true := by unfold types_Valid.f; rw [if_pos (by decide)]; simp [validT, hh]
  have HV := Aside0.mk hv
  have HE : Aside0 (∀ W, Kd.R k39 39 W w.heap.size (fun _ => True) (.slice none 0 0) []) := ⟨fun W => Kd.R_nil _ _ _ _ _⟩
  have HB : Aside0 (Below w.heap.size w w) := ⟨Below.refl _ _⟩
  obtain ⟨ad, e1, hx0, hx1, hx2⟩ := at_T39 hr1 0 (by omega) (by omega)
  have HX0 : Aside0 (w.cell? ad = some (.int .i64 2)) := ⟨hx0⟩
  have HX1 : Aside0 (w.cell? ⟨ad.block, ad.off + 1, none⟩ = some (.int .i64 0)) := ⟨hx1⟩
  have HX2 : Aside0 (w.cell? ⟨ad.block, ad.off + 2, none⟩ = some (.string nm)) := ⟨hx2⟩
  subst e1
  have hfld : ∀ w : World, (Instr.field 93 (.agg #[.func (.func 90) #[] #[], .func (.func 91) #[] #[]]) 1).run Try.prog w = .ok (.func (.func 91) #[] #[]) w := fun w => by kernel_rfl
  have mixed : Try.prog.follows Departure.mixedOrders = true := by kernel_rfl
  clear hr0 hr1 hv hx0 hx1 hx2
  go_enter Try.func45, Try.ntmps45
  go_wp2_with fail
  go_loopw [5, 10] (fun v5 v10 wr => Aside0 (Below w.heap.size w wr) ∧ ((v10 = .int .i64 0 ∧ v5 = .slice none 0 0) ∨ (v10 = .int .i64 1 ∧ Aside0 (Kd.R k39 39 wr w.heap.size (fun _ => True) v5 [(⟨2, 0, ⟨#[]⟩⟩ : S39)])))) (fun _ v _ => 1 - (intOf v).toNat)
  case atStart => exact ⟨HB, .inl ⟨rfl, rfl⟩⟩
  case round =>
    obtain ⟨HB2, ⟨rfl, rfl⟩ | ⟨rfl, HO⟩⟩ := hrel
    · have hx0 := (HB2.out.cell (World.block_lt_of_cell? w _ HX0.out)).trans HX0.out
      have hx1 := (HB2.out.cell (World.block_lt_of_cell? w _ HX1.out)).trans HX1.out
      have hx2 := (HB2.out.cell (World.block_lt_of_cell? w _ HX2.out)).trans HX2.out
      have HBa : Aside0 (Below w.heap.size w (wr.alloc (.cells #[.int .i64 2, .int .i64 0, .string nm] 39))) := ⟨HB2.out.alloc HB2.out.size _⟩
      have hT := (MapKept.heap_alloc wr (.cells #[.int .i64 2, .int .i64 0, .string nm] 39)).1
      have HT := Aside0.mk hT
      clear hT
      go_wp2_with fail
      refine (types_Valid.calls 2 0 nm A0 c0 l0 true _ (Kd.C_below HR0.out HBa.out) hc0 HV.out).mono ?_
      rintro e w2 ⟨rfl, hb2⟩
      have HB3 : Aside0 (Below w.heap.size w w2) := ⟨HBa.out.trans (hb2.mono HBa.out.size)⟩
      have hT2 : w2.heap[wr.heap.size]? = some (.cells #[.int .i64 2, .int .i64 0, .string nm] 39 (0, 0)) := by
        rw [hb2.block _ (by simp)]; exact HT.out
      have hz0 : w2.cell? ⟨wr.heap.size, 0, none⟩ = some (.int .i64 2) := blk_cell hT2 0
      have hz1 : w2.cell? ⟨wr.heap.size, 1, none⟩ = some (.int .i64 0) := blk_cell hT2 1
      have hz2 : w2.cell? ⟨wr.heap.size, 2, none⟩ = some (.string nm) := blk_cell hT2 2
      have hlt2 := blk_lt hT2
      have HLT := Aside0.mk hlt2
      clear hb2 hT2 hlt2 hx0 hx1 hx2
      go_wp2_with fail
      go_region_held3 (fun w' => w'.cell? ⟨wr.heap.size, 0, none⟩ = some (.int .i64 2) ∧ w'.cell? ⟨wr.heap.size, 1, none⟩ = some (.int .i64 0) ∧ w'.cell? ⟨wr.heap.size, 2, none⟩ = some (.string nm)) (first | go_keep | exact hzw | exact hzw6 | (refine ⟨?_, ?_, ?_⟩ <;> first | assumption | exact hzw.1 | exact hzw.2.1 | exact hzw.2.2))
        (first
          | (go_at_call 76; refine (shapes_calls _).mono ?_; rintro e w3 ⟨rfl, hown, hb⟩; have hzw : w3.cell? ⟨wr.heap.size, 0, none⟩ = some (.int .i64 2) ∧ w3.cell? ⟨wr.heap.size, 1, none⟩ = some (.int .i64 0) ∧ w3.cell? ⟨wr.heap.size, 2, none⟩ = some (.string nm) := ⟨(hb.cell (p := ⟨wr.heap.size, 0, none⟩) (by simpa using HLT.out)).trans hz0, (hb.cell (p := ⟨wr.heap.size, 1, none⟩) (by simpa using HLT.out)).trans hz1, (hb.cell (p := ⟨wr.heap.size, 2, none⟩) (by simpa using HLT.out)).trans hz2⟩; have hlk := (look_shape2 w3 w2.heap.size _ (by simpa using hown)).2; have HB4 : Aside0 (Below w.heap.size w w3) := ⟨by (refine Below.trans ?_ (hb.mono ?_)) <;> first | exact HB3.out | exact HB3.out.drew | (simpa using HB3.out.size)⟩; clear hb hown)
          | (go_at_call 91; refine (shape2_calls 2 0 nm A0 c0 l0 _).mono ?_; rintro e w5 ⟨v5, rfl, ho5, hb5⟩; obtain ⟨A5, c5, rfl, hc5, hC5⟩ := Kd.R_reads ho5; have hrow0 := row39 hC5; have HRow := Aside0.mk hrow0; clear hrow0; have HB5 : Aside0 (Below w.heap.size w w5) := ⟨HB4.out.trans (hb5.mono HB4.out.size)⟩; have hzw5 := carry3 hb5 hzw; clear hzw; have hzw := hzw5; clear hzw5; clear ho5 hb5 hC5; obtain ⟨v1, w6, happ, ho6, hg6, _⟩ := append_run k39 (Rr := plain39) w.heap.size 67 39 67 (.agg #[(.int .i64 0), (.int .i64 0), (.string ⟨#[]⟩)]) 32 Try.underlying67 info39 rfl (by decide) (by omega) (.slice none 0 0) [] [(⟨2, 0, ⟨#[]⟩⟩ : S39)] A5 1 c5 (fun _ => True) (fun _ => False) (HE.out _) HRow.out (fun x cs h => (by have h' : cs = _ := h; rw [h']; exact k39_mkM _ _ _ x)) (fun _ hk => hk.elim) (fun _ _ => trivial) HB5.out.size (by simp only [List.length_nil]; omega); have HO6 := Aside0.mk ho6; have HB6 : Aside0 (Below w.heap.size w w6) := ⟨HB5.out.grown hg6 HB5.out.size (fun k e => by cases e)⟩; have hzw6 : w6.cell? ⟨wr.heap.size, 0, none⟩ = some (.int .i64 2) ∧ w6.cell? ⟨wr.heap.size, 1, none⟩ = some (.int .i64 0) ∧ w6.cell? ⟨wr.heap.size, 2, none⟩ = some (.string nm) := ⟨cell_grown hg6 hzw.1 (by simp [Value.ownBlock]), cell_grown hg6 hzw.2.1 (by simp [Value.ownBlock]), cell_grown hg6 hzw.2.2 (by simp [Value.ownBlock])⟩; clear ho6 hg6)
          | (refine step_append_run (by rfl) (.tmp 18) (.tmp 26) 67 (by rfl) _ _ v1 (by rfl) (by rfl) happ ?_))
      go_wp2
      exact ⟨⟨HB6, .inr ⟨by go_num, ⟨by have h := HO6.out; rwa [List.nil_append] at h⟩⟩⟩, by simp [intOf]⟩
    · go_wp2
      go_ret
      exact ⟨_, rfl, HO.out, HB2.out⟩
set_option maxHeartbeats 4000000 in
set_option maxRecDepth 100000 in
theorem scalars_3 (A0 : Option Addr) (c0 : Nat) (l0 : List S57) (A1 : Option Addr) (c1 : Nat) (nm : ByteArray) (n : Nat) (w : World) (hr0 : Kd.C k57 w A0 l0.length l0) (hr1 : Kd.C k39 w A1 1 [(⟨3, (n : Int), nm⟩ : S39)]) (hh : noRec nm = true) (hn : 1 ≤ n ∧ n ≤ 8) (hc0 : l0.length ≤ c0) (hc1 : 1 ≤ c1) :
    Calls Try.prog 45 #[.slice A0 l0.length c0, .slice A1 1 c1] w fun e w' => ∃ v0_ : Value, e = .returned v0_ ∧ Kd.R k39 39 w' w.heap.size (fun _ => True) v0_ (List.replicate n (⟨1, 0, ⟨#[]⟩⟩ : S39)) ∧ Below w.heap.size w w' := by
  have HR0 := Aside0.mk hr0
  have HR1 := Aside0.mk hr1
  have hv : types_Valid.f 3 (n : Int) nm l0 = some true := by unfold types_Valid.f; rw [if_pos (by decide)]; simp [validT, hh]; omega
  have HV := Aside0.mk hv
  have HE : Aside0 (∀ W, Kd.R k39 39 W w.heap.size (fun _ => True) (.slice none 0 0) []) := ⟨fun W => Kd.R_nil _ _ _ _ _⟩
  have HB : Aside0 (Below w.heap.size w w) := ⟨Below.refl _ _⟩
  obtain ⟨ad, e1, hx0, hx1, hx2⟩ := at_T39 hr1 0 (by omega) (by omega)
  have HX0 : Aside0 (w.cell? ad = some (.int .i64 3)) := ⟨hx0⟩
  have HX1 : Aside0 (w.cell? ⟨ad.block, ad.off + 1, none⟩ = some (.int .i64 (n : Int))) := ⟨hx1⟩
  have HX2 : Aside0 (w.cell? ⟨ad.block, ad.off + 2, none⟩ = some (.string nm)) := ⟨hx2⟩
  subst e1
  have hfld : ∀ w : World, (Instr.field 93 (.agg #[.func (.func 92) #[] #[], .func (.func 93) #[] #[]]) 1).run Try.prog w = .ok (.func (.func 93) #[] #[]) w := fun w => by kernel_rfl
  have mixed : Try.prog.follows Departure.mixedOrders = true := by kernel_rfl
  clear hr0 hr1 hv hx0 hx1 hx2
  go_enter Try.func45, Try.ntmps45
  go_wp2_with fail
  go_loopw [5, 10] (fun v5 v10 wr => Aside0 (Below w.heap.size w wr) ∧ ((v10 = .int .i64 0 ∧ v5 = .slice none 0 0) ∨ (v10 = .int .i64 1 ∧ Aside0 (Kd.R k39 39 wr w.heap.size (fun _ => True) v5 (List.replicate n (⟨1, 0, ⟨#[]⟩⟩ : S39)))))) (fun _ v _ => 1 - (intOf v).toNat)
  case atStart => exact ⟨HB, .inl ⟨rfl, rfl⟩⟩
  case round =>
    obtain ⟨HB2, ⟨rfl, rfl⟩ | ⟨rfl, HO⟩⟩ := hrel
    · have hx0 := (HB2.out.cell (World.block_lt_of_cell? w _ HX0.out)).trans HX0.out
      have hx1 := (HB2.out.cell (World.block_lt_of_cell? w _ HX1.out)).trans HX1.out
      have hx2 := (HB2.out.cell (World.block_lt_of_cell? w _ HX2.out)).trans HX2.out
      have HBa : Aside0 (Below w.heap.size w (wr.alloc (.cells #[.int .i64 3, .int .i64 (n : Int), .string nm] 39))) := ⟨HB2.out.alloc HB2.out.size _⟩
      have hT := (MapKept.heap_alloc wr (.cells #[.int .i64 3, .int .i64 (n : Int), .string nm] 39)).1
      have HT := Aside0.mk hT
      clear hT
      go_wp2_with fail
      refine (types_Valid.calls 3 (n : Int) nm A0 c0 l0 true _ (Kd.C_below HR0.out HBa.out) hc0 HV.out).mono ?_
      rintro e w2 ⟨rfl, hb2⟩
      have HB3 : Aside0 (Below w.heap.size w w2) := ⟨HBa.out.trans (hb2.mono HBa.out.size)⟩
      have hT2 : w2.heap[wr.heap.size]? = some (.cells #[.int .i64 3, .int .i64 (n : Int), .string nm] 39 (0, 0)) := by
        rw [hb2.block _ (by simp)]; exact HT.out
      have hz0 : w2.cell? ⟨wr.heap.size, 0, none⟩ = some (.int .i64 3) := blk_cell hT2 0
      have hz1 : w2.cell? ⟨wr.heap.size, 1, none⟩ = some (.int .i64 (n : Int)) := blk_cell hT2 1
      have hz2 : w2.cell? ⟨wr.heap.size, 2, none⟩ = some (.string nm) := blk_cell hT2 2
      have hlt2 := blk_lt hT2
      have HLT := Aside0.mk hlt2
      clear hb2 hT2 hlt2 hx0 hx1 hx2
      go_wp2_with fail
      go_region_held3 (fun w' => w'.cell? ⟨wr.heap.size, 0, none⟩ = some (.int .i64 3) ∧ w'.cell? ⟨wr.heap.size, 1, none⟩ = some (.int .i64 (n : Int)) ∧ w'.cell? ⟨wr.heap.size, 2, none⟩ = some (.string nm)) (first | go_keep | exact hzw | exact hzw6 | (refine ⟨?_, ?_, ?_⟩ <;> first | assumption | exact hzw.1 | exact hzw.2.1 | exact hzw.2.2))
        (first
          | (go_at_call 76; refine (shapes_calls _).mono ?_; rintro e w3 ⟨rfl, hown, hb⟩; have hzw : w3.cell? ⟨wr.heap.size, 0, none⟩ = some (.int .i64 3) ∧ w3.cell? ⟨wr.heap.size, 1, none⟩ = some (.int .i64 (n : Int)) ∧ w3.cell? ⟨wr.heap.size, 2, none⟩ = some (.string nm) := ⟨(hb.cell (p := ⟨wr.heap.size, 0, none⟩) (by simpa using HLT.out)).trans hz0, (hb.cell (p := ⟨wr.heap.size, 1, none⟩) (by simpa using HLT.out)).trans hz1, (hb.cell (p := ⟨wr.heap.size, 2, none⟩) (by simpa using HLT.out)).trans hz2⟩; have hlk := (look_shape3 w3 w2.heap.size _ (by simpa using hown)).2; have HB4 : Aside0 (Below w.heap.size w w3) := ⟨by (refine Below.trans ?_ (hb.mono ?_)) <;> first | exact HB3.out | exact HB3.out.drew | (simpa using HB3.out.size)⟩; clear hb hown)
          | (go_at_call 93; refine (shape4_calls 3 n nm A0 c0 l0 _ hn).mono ?_; rintro e w5 ⟨v5, rfl, ho5, hb5⟩; obtain ⟨A5, c5, rfl, hc5, hC5⟩ := Kd.R_reads ho5; have hrow0 := row39 hC5; rw [List.length_replicate] at hrow0; have HRow := Aside0.mk hrow0; clear hrow0; have HB5 : Aside0 (Below w.heap.size w w5) := ⟨HB4.out.trans (hb5.mono HB4.out.size)⟩; have hzw5 := carry3 hb5 hzw; clear hzw; have hzw := hzw5; clear hzw5; clear ho5 hb5 hC5; obtain ⟨v1, w6, happ, ho6, hg6, _⟩ := append_run k39 (Rr := plain39) w.heap.size 67 39 67 (.agg #[(.int .i64 0), (.int .i64 0), (.string ⟨#[]⟩)]) 32 Try.underlying67 info39 rfl (by decide) (by omega) (.slice none 0 0) [] (List.replicate n (⟨1, 0, ⟨#[]⟩⟩ : S39)) A5 n c5 (fun _ => True) (fun _ => False) (HE.out _) HRow.out (fun x cs h => (by have h' : cs = _ := h; rw [h']; exact k39_mkM _ _ _ x)) (fun _ hk => hk.elim) (fun _ _ => trivial) HB5.out.size (by simp only [List.length_nil]; omega); have HO6 := Aside0.mk ho6; have HB6 : Aside0 (Below w.heap.size w w6) := ⟨HB5.out.grown hg6 HB5.out.size (fun k e => by cases e)⟩; have hzw6 : w6.cell? ⟨wr.heap.size, 0, none⟩ = some (.int .i64 3) ∧ w6.cell? ⟨wr.heap.size, 1, none⟩ = some (.int .i64 (n : Int)) ∧ w6.cell? ⟨wr.heap.size, 2, none⟩ = some (.string nm) := ⟨cell_grown hg6 hzw.1 (by simp [Value.ownBlock]), cell_grown hg6 hzw.2.1 (by simp [Value.ownBlock]), cell_grown hg6 hzw.2.2 (by simp [Value.ownBlock])⟩; clear ho6 hg6)
          | (refine step_append_run (by rfl) (.tmp 18) (.tmp 26) 67 (by rfl) _ _ v1 (by rfl) (by rfl) happ ?_))
      go_wp2
      exact ⟨⟨HB6, .inr ⟨by go_num, ⟨by have h := HO6.out; rwa [List.nil_append] at h⟩⟩⟩, by simp [intOf]⟩
    · go_wp2
      go_ret
      exact ⟨_, rfl, HO.out, HB2.out⟩
set_option maxHeartbeats 4000000 in
set_option maxRecDepth 100000 in
theorem scalars_4 (A0 : Option Addr) (c0 : Nat) (l0 : List S57) (A1 : Option Addr) (c1 : Nat) (nm : ByteArray) (w : World) (hr0 : Kd.C k57 w A0 l0.length l0) (hr1 : Kd.C k39 w A1 1 [(⟨4, 0, nm⟩ : S39)]) (hh : hasRec l0 nm = true) (hl : (rd_T57 l0 (recIx l0 nm : Int)).f1.length ≤ 1000000) (hc0 : l0.length ≤ c0) (hc1 : 1 ≤ c1) :
    Calls Try.prog 45 #[.slice A0 l0.length c0, .slice A1 1 c1] w fun e w' => ∃ v0_ : Value, e = .returned v0_ ∧ Kd.R k39 39 w' w.heap.size (fun _ => True) v0_ ((rd_T57 l0 (recIx l0 nm : Int)).f1.map scal) ∧ Below w.heap.size w w' := by
  have HR0 := Aside0.mk hr0
  have HR1 := Aside0.mk hr1
  have hv : types_Valid.f 4 0 nm l0 = some true := by unfold types_Valid.f; rw [if_pos (by decide)]; simp [validT, hh]
  have HV := Aside0.mk hv
  have HE : Aside0 (∀ W, Kd.R k39 39 W w.heap.size (fun _ => True) (.slice none 0 0) []) := ⟨fun W => Kd.R_nil _ _ _ _ _⟩
  have HB : Aside0 (Below w.heap.size w w) := ⟨Below.refl _ _⟩
  have HL := Aside0.mk hl
  obtain ⟨ad, e1, hx0, hx1, hx2⟩ := at_T39 hr1 0 (by omega) (by omega)
  have HX0 : Aside0 (w.cell? ad = some (.int .i64 4)) := ⟨hx0⟩
  have HX1 : Aside0 (w.cell? ⟨ad.block, ad.off + 1, none⟩ = some (.int .i64 0)) := ⟨hx1⟩
  have HX2 : Aside0 (w.cell? ⟨ad.block, ad.off + 2, none⟩ = some (.string nm)) := ⟨hx2⟩
  subst e1
  have hfld : ∀ w : World, (Instr.field 93 (.agg #[.func (.func 95) #[] #[], .func (.func 97) #[] #[]]) 1).run Try.prog w = .ok (.func (.func 97) #[] #[]) w := fun w => by kernel_rfl
  have mixed : Try.prog.follows Departure.mixedOrders = true := by kernel_rfl
  clear hr0 hr1 hv hx0 hx1 hx2 hl
  go_enter Try.func45, Try.ntmps45
  go_wp2_with fail
  go_loopw [5, 10] (fun v5 v10 wr => Aside0 (Below w.heap.size w wr) ∧ ((v10 = .int .i64 0 ∧ v5 = .slice none 0 0) ∨ (v10 = .int .i64 1 ∧ Aside0 (Kd.R k39 39 wr w.heap.size (fun _ => True) v5 ((rd_T57 l0 (recIx l0 nm : Int)).f1.map scal))))) (fun _ v _ => 1 - (intOf v).toNat)
  case atStart => exact ⟨HB, .inl ⟨rfl, rfl⟩⟩
  case round =>
    obtain ⟨HB2, ⟨rfl, rfl⟩ | ⟨rfl, HO⟩⟩ := hrel
    · have hx0 := (HB2.out.cell (World.block_lt_of_cell? w _ HX0.out)).trans HX0.out
      have hx1 := (HB2.out.cell (World.block_lt_of_cell? w _ HX1.out)).trans HX1.out
      have hx2 := (HB2.out.cell (World.block_lt_of_cell? w _ HX2.out)).trans HX2.out
      have HBa : Aside0 (Below w.heap.size w (wr.alloc (.cells #[.int .i64 4, .int .i64 0, .string nm] 39))) := ⟨HB2.out.alloc HB2.out.size _⟩
      have hT := (MapKept.heap_alloc wr (.cells #[.int .i64 4, .int .i64 0, .string nm] 39)).1
      have HT := Aside0.mk hT
      clear hT
      go_wp2_with fail
      refine (types_Valid.calls 4 0 nm A0 c0 l0 true _ (Kd.C_below HR0.out HBa.out) hc0 HV.out).mono ?_
      rintro e w2 ⟨rfl, hb2⟩
      have HB3 : Aside0 (Below w.heap.size w w2) := ⟨HBa.out.trans (hb2.mono HBa.out.size)⟩
      have hT2 : w2.heap[wr.heap.size]? = some (.cells #[.int .i64 4, .int .i64 0, .string nm] 39 (0, 0)) := by
        rw [hb2.block _ (by simp)]; exact HT.out
      have hz0 : w2.cell? ⟨wr.heap.size, 0, none⟩ = some (.int .i64 4) := blk_cell hT2 0
      have hz1 : w2.cell? ⟨wr.heap.size, 1, none⟩ = some (.int .i64 0) := blk_cell hT2 1
      have hz2 : w2.cell? ⟨wr.heap.size, 2, none⟩ = some (.string nm) := blk_cell hT2 2
      have hlt2 := blk_lt hT2
      have HLT := Aside0.mk hlt2
      clear hb2 hT2 hlt2 hx0 hx1 hx2
      go_wp2_with fail
      go_region_held3 (fun w' => w'.cell? ⟨wr.heap.size, 0, none⟩ = some (.int .i64 4) ∧ w'.cell? ⟨wr.heap.size, 1, none⟩ = some (.int .i64 0) ∧ w'.cell? ⟨wr.heap.size, 2, none⟩ = some (.string nm)) (first | go_keep | exact hzw | exact hzw6 | (refine ⟨?_, ?_, ?_⟩ <;> first | assumption | exact hzw.1 | exact hzw.2.1 | exact hzw.2.2))
        (first
          | (go_at_call 76; refine (shapes_calls _).mono ?_; rintro e w3 ⟨rfl, hown, hb⟩; have hzw : w3.cell? ⟨wr.heap.size, 0, none⟩ = some (.int .i64 4) ∧ w3.cell? ⟨wr.heap.size, 1, none⟩ = some (.int .i64 0) ∧ w3.cell? ⟨wr.heap.size, 2, none⟩ = some (.string nm) := ⟨(hb.cell (p := ⟨wr.heap.size, 0, none⟩) (by simpa using HLT.out)).trans hz0, (hb.cell (p := ⟨wr.heap.size, 1, none⟩) (by simpa using HLT.out)).trans hz1, (hb.cell (p := ⟨wr.heap.size, 2, none⟩) (by simpa using HLT.out)).trans hz2⟩; have hlk := (look_shape w3 w2.heap.size _ (by simpa using hown)).2; have HB4 : Aside0 (Below w.heap.size w w3) := ⟨by (refine Below.trans ?_ (hb.mono ?_)) <;> first | exact HB3.out | exact HB3.out.drew | (simpa using HB3.out.size)⟩; clear hb hown)
          | (go_at_call 97; refine (shape6_calls 4 0 nm A0 c0 l0 _ (Kd.C_below HR0.out HB4.out) HL.out).mono ?_; rintro e w5 ⟨v5, rfl, ho5, hb5⟩; obtain ⟨A5, c5, rfl, hc5, hC5⟩ := Kd.R_reads ho5; have hrow0 := row39 hC5; rw [List.length_map] at hrow0; have HRow := Aside0.mk hrow0; clear hrow0; have HB5 : Aside0 (Below w.heap.size w w5) := ⟨HB4.out.trans (hb5.mono HB4.out.size)⟩; have hzw5 := carry3 hb5 hzw; clear hzw; have hzw := hzw5; clear hzw5; clear ho5 hb5 hC5; obtain ⟨v1, w6, happ, ho6, hg6, _⟩ := append_run k39 (Rr := plain39) w.heap.size 67 39 67 (.agg #[(.int .i64 0), (.int .i64 0), (.string ⟨#[]⟩)]) 32 Try.underlying67 info39 rfl (by decide) (by omega) (.slice none 0 0) [] ((rd_T57 l0 (recIx l0 nm : Int)).f1.map scal) A5 ((rd_T57 l0 (recIx l0 nm : Int)).f1.length) c5 (fun _ => True) (fun _ => False) (HE.out _) HRow.out (fun x cs h => (by have h' : cs = _ := h; rw [h']; exact k39_mkM _ _ _ x)) (fun _ hk => hk.elim) (fun _ _ => trivial) HB5.out.size (by have := HL.out; simp only [List.length_nil]; omega); have HO6 := Aside0.mk ho6; have HB6 : Aside0 (Below w.heap.size w w6) := ⟨HB5.out.grown hg6 HB5.out.size (fun k e => by cases e)⟩; have hzw6 : w6.cell? ⟨wr.heap.size, 0, none⟩ = some (.int .i64 4) ∧ w6.cell? ⟨wr.heap.size, 1, none⟩ = some (.int .i64 0) ∧ w6.cell? ⟨wr.heap.size, 2, none⟩ = some (.string nm) := ⟨cell_grown hg6 hzw.1 (by simp [Value.ownBlock]), cell_grown hg6 hzw.2.1 (by simp [Value.ownBlock]), cell_grown hg6 hzw.2.2 (by simp [Value.ownBlock])⟩; clear ho6 hg6)
          | (refine step_append_run (by rfl) (.tmp 18) (.tmp 26) 67 (by rfl) _ _ v1 (by rfl) (by rfl) happ ?_))
      go_wp2
      exact ⟨⟨HB6, .inr ⟨by go_num, ⟨by have h := HO6.out; rwa [List.nil_append] at h⟩⟩⟩, by simp [intOf]⟩
    · go_wp2
      go_ret
      exact ⟨_, rfl, HO.out, HB2.out⟩
def scalarsT (k n : Int) (rec : ByteArray) (l : List S57) : List S39 :=
  if k = 1 ∨ k = 2 then [⟨k, 0, ⟨#[]⟩⟩] else if k = 3 then List.replicate n.toNat ⟨1, 0, ⟨#[]⟩⟩ else (rd_T57 l (recIx l rec : Int)).f1.map scal
def types_Scalars.f (l0 : List S57) (l1 : List S39) : Option (List S39) := match l1 with
  | [t] => if validT t.f0 t.f1 t.f2 l0 = true ∧ (rd_T57 l0 (recIx l0 t.f2 : Int)).f1.length ≤ 1000000 then some (scalarsT t.f0 t.f1 t.f2 l0) else none
  | _ => none
theorem types_Scalars.calls (A0 : Option Addr) (c0 : Nat) (l0 : List S57) (A1 : Option Addr) (c1 : Nat) (l1 : List S39) (r : List S39) (w : World) (hr0 : Kd.C k57 w A0 l0.length l0) (hc0 : l0.length ≤ c0) (hr1 : Kd.C k39 w A1 l1.length l1) (hc1 : l1.length ≤ c1) (h : types_Scalars.f l0 l1 = some r) :
    Calls Try.prog 45 #[.slice A0 l0.length c0, .slice A1 l1.length c1] w fun e w' => ∃ v0_ : Value, e = .returned v0_ ∧ Kd.R k39 39 w' w.heap.size (fun _ => True) v0_ r ∧ Below w.heap.size w w' := by
  unfold types_Scalars.f at h
  split at h
  · rename_i t
    split at h
    · rename_i hc
      obtain ⟨hv, hl⟩ := hc
      obtain rfl := Option.some.inj h
      obtain ⟨k, n, nm⟩ := t
      have hv : validT k n nm l0 = true := hv
      show Calls Try.prog 45 #[.slice A0 l0.length c0, .slice A1 1 c1] w fun e w' => ∃ v0_ : Value, e = .returned v0_ ∧ Kd.R k39 39 w' w.heap.size (fun _ => True) v0_ (scalarsT k n nm l0) ∧ Below w.heap.size w w'
      by_cases n1 : k = 1
      · subst n1
        obtain ⟨rfl, hh⟩ : n = 0 ∧ noRec nm = true := by simpa [validT] using hv
        exact scalars_1 A0 c0 l0 A1 c1 nm w hr0 hr1 hh hc0 hc1
      by_cases n2 : k = 2
      · subst n2
        obtain ⟨rfl, hh⟩ : n = 0 ∧ noRec nm = true := by simpa [validT] using hv
        exact scalars_2 A0 c0 l0 A1 c1 nm w hr0 hr1 hh hc0 hc1
      by_cases n3 : k = 3
      · subst n3
        obtain ⟨h1, h2, hh⟩ : 1 ≤ n ∧ n ≤ 8 ∧ noRec nm = true := by simpa [validT] using hv
        obtain ⟨m, rfl⟩ : ∃ m : Nat, n = m := ⟨n.toNat, by omega⟩
        exact scalars_3 A0 c0 l0 A1 c1 nm m w hr0 hr1 hh (by omega) hc0 hc1
      by_cases n4 : k = 4
      · subst n4
        obtain ⟨rfl, hh⟩ : n = 0 ∧ hasRec l0 nm = true := by simpa [validT] using hv
        exact scalars_4 A0 c0 l0 A1 c1 nm w hr0 hr1 hh hl hc0 hc1
      · simp [validT, n1, n2, n3, n4] at hv
    · cases h
  · cases h
end Go.Proofs.Ytogknojocodhgaa.P
end
