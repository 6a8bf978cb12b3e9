-- Texts of this claim, put together and cut down to what is used (trim.py, a program of this session).
import Derived.Test.YtogknojocodhgaaZ31
import Derived.Test.YtogknojocodhgaaZ32
import Derived.Test.YtogknojocodhgaaZ38
section
namespace Go.Proofs.Ytogknojocodhgaa.P
open Go.RowKit Go.WideMaps Go.Proofs.YtogknojocodhgaaW.PrintWords Go.Proofs.YtogknojocodhgaaW.PrintLast Go.Proofs.YtogknojocodhgaaW.PrintMore
set_option linter.unusedVariables false
set_option linter.unusedSimpArgs false
theorem mf_ (fn : Fn) (first cap : Array Value) (w : World) : (Instr.makeFunc fn first cap).run Try.prog w = .ok (.func fn first cap) w := rfl
structure TS (w : World) (g : Nat) (a0 k n : Int) (rec : ByteArray) : Prop where
  c : w.cell? ⟨g, 0, none⟩ = some (.int .i64 a0)
  c0 : w.cell? ⟨g + 1, 0, none⟩ = some (.int .i64 k)
  c1 : w.cell? ⟨g + 1, 1, none⟩ = some (.int .i64 n)
  c2 : w.cell? ⟨g + 1, 2, none⟩ = some (.string rec)
theorem TS.below {w w' : World} {g : Nat} {a0 k n : Int} {rec : ByteArray} (h : TS w g a0 k n rec) (hb : Below w.heap.size w w') : TS w' g a0 k n rec :=
  ⟨(hb.cell (World.block_lt_of_cell? w _ h.c)).trans h.c, (hb.cell (World.block_lt_of_cell? w _ h.c0)).trans h.c0, (hb.cell (World.block_lt_of_cell? w _ h.c1)).trans h.c1, (hb.cell (World.block_lt_of_cell? w _ h.c2)).trans h.c2⟩
theorem TS.kept {w w' : World} {g : Nat} {a0 k n : Int} {rec : ByteArray} {S : Nat → Prop} (h : TS w g a0 k n rec) (hk : Kept w w' S) (h0 : ¬ S g) (h1 : ¬ S (g + 1)) : TS w' g a0 k n rec :=
  ⟨cell_kept h.c hk h0, cell_kept h.c0 hk h1, cell_kept h.c1 hk h1, cell_kept h.c2 hk h1⟩
structure PS (w0 w : World) (g0 g3 g4 N : Nat) (a0 k n : Int) (rec : ByteArray) (ws : List ByteArray) (ts : List S74) (i : Nat) : Prop where
  b : Below w0.heap.size w0 w
  t : TS w g0 a0 k n rec
  s : St w g4 (g4 + 1) g3 (g4 + 3) g0 (g4 + 2) N a0 ws ts i
  o : w0.heap.size ≤ g0 ∧ g0 + 1 < g4 ∧ g4 + 3 < w.heap.size
section
variable {w0 w w' : World} {g0 g3 g4 N i i' : Nat} {a0 k n : Int} {rec : ByteArray} {ws : List ByteArray} {ts : List S74}
theorem PS.below (h : PS w0 w g0 g3 g4 N a0 k n rec ws ts i) (hb : Below w.heap.size w w') : PS w0 w' g0 g3 g4 N a0 k n rec ws ts i :=
  ⟨h.b.trans (hb.mono h.b.size), h.t.below hb, h.s.below hb, h.o.1, h.o.2.1, Nat.lt_of_lt_of_le h.o.2.2 hb.size⟩
theorem PS.moved (h : PS w0 w g0 g3 g4 N a0 k n rec ws ts i) (hs : St w' g4 (g4 + 1) g3 (g4 + 3) g0 (g4 + 2) N a0 ws ts i') (hm : Moved w0.heap.size (g4 + 1) (g4 + 3) w w') : PS w0 w' g0 g3 g4 N a0 k n rec ws ts i' :=
  ⟨h.b.trans hm.1, h.t.kept hm.2 (by have := h.o; omega) (by have := h.o; omega), hs, h.o.1, h.o.2.1, Nat.lt_of_lt_of_le h.o.2.2 hm.2.1⟩
theorem PS.grown {row : Option Nat} (h : PS w0 w g0 g3 g4 N a0 k n rec ws ts i) (hb : Below w0.heap.size w0 w') (hg : w.grownBy w' row) (hr : ∀ k, row = some k → g4 + 3 < k) (h3 : g3 < g4) : PS w0 w' g0 g3 g4 N a0 k n rec ws ts i := by
  have ho := h.o
  have no : ∀ g, g ≤ g4 + 3 → some g ≠ row := fun g hgg he => by have := hr g he.symm; omega
  exact ⟨hb, ⟨cell_grown hg h.t.c (no g0 (by omega)), cell_grown hg h.t.c0 (no (g0 + 1) (by omega)), cell_grown hg h.t.c1 (no (g0 + 1) (by omega)), cell_grown hg h.t.c2 (no (g0 + 1) (by omega))⟩, h.s.grown hg (fun k hk => by have := hr k hk; omega), ho.1, ho.2.1, Nat.lt_of_lt_of_le ho.2.2 hg.size⟩
theorem PS.setA (h : PS w0 w g0 g3 g4 N a0 k n rec ws ts i) (hi : i' < N) : PS w0 (w.setCell ⟨g4 + 1, 0, none⟩ (.int .i64 (i' : Int))) g0 g3 g4 N a0 k n rec ws ts i' :=
  h.moved (h.s.setA hi) (Moved.setA ⟨Below.refl _ _, Kept.refl _ _⟩ (by have := h.o; omega) _)
end
theorem C39_new (w : World) (k n : Int) (rec : ByteArray) : k39.C (w.alloc (.cells #[.int .i64 k, .int .i64 n, .string rec] 39)) (some ⟨w.heap.size, 0, none⟩) 1 [(⟨k, n, rec⟩ : S39)] := by
  have hh := (MapKept.heap_alloc w (.cells #[.int .i64 k, .int .i64 n, .string rec] 39)).1
  have hR : Kd.R k39 39 (w.alloc (.cells #[.int .i64 k, .int .i64 n, .string rec] 39)) 0 (fun _ => True) (.slice (some ⟨w.heap.size, 0, none⟩) 1 1) [(⟨k, n, rec⟩ : S39)] := by
    refine ⟨fun _ _ => trivial, [.int .i64 k, .int .i64 n, .string rec], ⟨rfl, .inr ⟨w.heap.size, 1, _, rfl, Nat.zero_le _, hh, Nat.le_refl _, by simp only [maxLen]; omega, rfl, rfl⟩⟩, ?_⟩
    refine ⟨rfl, fun j p hp => ?_⟩
    have hj : j = 0 := by
      have := (List.getElem?_eq_some_iff.1 hp).1
      simpa using this
    subst hj
    have hp2 : (⟨k, n, rec⟩ : S39) = p := by simpa using hp
    subst hp2
    exact k39_mkM _ _ _ _
  obtain ⟨A5, c5, e5, _, hC⟩ := Kd.R_reads hR
  injection e5 with e6
  rw [e6]; exact hC
theorem addr_add_zero (ad : Addr) : ad.add 0 = ad := by
  obtain ⟨b, o, s⟩ := ad
  cases s <;> rfl
set_option maxHeartbeats 4000000 in
set_option maxRecDepth 100000 in
theorem parse_3 (a0 n : Int) (rec : ByteArray) (A2 : Option Addr) (c2 : Nat) (l2 : List S57) (text : ByteArray) (w : World) (hr2 : Kd.C k57 w A2 l2.length l2) (hc2 : l2.length ≤ c2)
    (hw : 2 ≤ a0 ∧ a0 ≤ 8) (hk : (Lit.int .i64 3).wf = true) (hv : validT 3 n rec l2 = true) (hl : (rd_T57 l2 (recIx l2 rec : Int)).f1.length ≤ 1000000) (ht : text.size ≤ 4096) (h0 : 0 < (tokT text).length) (out : List Int) (hp : parseW a0 (wordsP text (tokT text)) (tokT text) 3 rec (scalarsT 3 n rec l2) = some out) :
    Calls Try.prog 28 #[.int .i64 a0, .agg #[.int .i64 3, .int .i64 n, .string rec], .slice A2 l2.length c2, .string text] w fun e w' => ∃ v0_ : Value, e = .returned (.tuple #[v0_, .int .i64 0]) ∧ Kd.R (Kd.int .i64) 3 w' w.heap.size (fun _ => True) v0_ out ∧ Below w.heap.size w w' := by
  have hmf := mf_
  have HR := Aside0.mk hr2
  obtain ⟨ks, hks⟩ := Ev.rounds (lexer_Scan_ev text)
  obtain ⟨sc1, sc2, sc3⟩ := scan_ok ht
  rw [sc1] at hks
  change lexer_Scan.f ks text = some (tokT text, 0) at hks
  obtain ⟨kw, hkw⟩ := Ev.rounds (lexer_Words_ev text (tokT text) sc2 sc3)
  have hvv : types_Valid.f 3 n rec l2 = some true := by unfold types_Valid.f; rw [if_pos hk, hv]
  have hii := isWidth_eq a0 hw
  have HKS := Aside0.mk hks
  have HKW := Aside0.mk hkw
  have HVV := Aside0.mk hvv
  have HII := Aside0.mk hii
  have HP := Aside0.mk hp
  have hlen : (wordsP text (tokT text)).length = (tokT text).length := by simp [wordsP]
  generalize hws : wordsP text (tokT text) = ws at *
  generalize hts : tokT text = ts at *
  obtain ⟨N, hN⟩ : ∃ N, N = ts.length := ⟨_, rfl⟩
  have hF : ((w.alloc (.cells #[.int .i64 a0] 3)).alloc (.cells #[.int .i64 3, .int .i64 n, .string rec] 39)).heap[w.heap.size + 1]? = some (.cells #[.int .i64 3, .int .i64 n, .string rec] 39 (0, 0)) := by
    have h := (MapKept.heap_alloc (w.alloc (.cells #[.int .i64 a0] 3)) (.cells #[.int .i64 3, .int .i64 n, .string rec] 39)).1
    simpa using h
  have hF0 : ((w.alloc (.cells #[.int .i64 a0] 3)).alloc (.cells #[.int .i64 3, .int .i64 n, .string rec] 39)).cell? ⟨w.heap.size, 0, none⟩ = some (.int .i64 a0) :=
    (World.cell?_alloc_lt _ _ _ (by simp)).trans (blk_cell (MapKept.heap_alloc w _).1 0)
  have HT0 : Aside0 (TS ((w.alloc (.cells #[.int .i64 a0] 3)).alloc (.cells #[.int .i64 3, .int .i64 n, .string rec] 39)) w.heap.size a0 3 n rec) := ⟨⟨hF0, blk_cell hF 0, blk_cell hF 1, blk_cell hF 2⟩⟩
  have HB0 : Aside0 (Below w.heap.size w ((w.alloc (.cells #[.int .i64 a0] 3)).alloc (.cells #[.int .i64 3, .int .i64 n, .string rec] 39))) := ⟨((Below.refl _ _).alloc (Nat.le_refl _) _).alloc (by simp) _⟩
  clear hks hkw hvv hii hp sc1 sc2 sc3 hr2 hF hF0
  go_enter Try.func28, Try.ntmps28
  go_wp2_with fail
  refine (value_isWidth.calls a0 true _ HII.out).mono ?_
  rintro e w1 ⟨rfl, hd1⟩
  have hb1 := Drawn0.below hd1
  have HT1 := Aside0.mk (HT0.out.below hb1)
  have HB1 : Aside0 (Below w.heap.size w w1) := ⟨HB0.out.trans (hb1.mono HB0.out.size)⟩
  obtain ⟨x1, x2, x3, x4⟩ := HT1.out
  clear hb1 hd1
  go_wp2_with fail
  refine (types_Valid.calls 3 n rec A2 c2 l2 true _ (Kd.C_below HR.out HB1.out) hc2 HVV.out).mono ?_
  rintro e w2 ⟨rfl, hb2⟩
  have HT2 := Aside0.mk (HT1.out.below hb2)
  have HB2 : Aside0 (Below w.heap.size w w2) := ⟨HB1.out.trans (hb2.mono HB1.out.size)⟩
  clear hb2 x1 x2 x3 x4
  go_wp2_with fail
  refine (lexer_Scan.calls ks text ts 0 _ HKS.out).mono ?_
  rintro e w3 ⟨v3, rfl, ho3, hb3⟩
  obtain ⟨A3, c3, rfl, hc3, hC3⟩ := Kd.R_reads ho3
  have HT3 := Aside0.mk (HT2.out.below hb3)
  have HB3 : Aside0 (Below w.heap.size w w3) := ⟨HB2.out.trans (hb3.mono HB2.out.size)⟩
  have HO3 := Aside0.mk ho3
  have HC3 := Aside0.mk hC3
  clear hb3 ho3 hC3
  go_wp2_with fail
  have HB4a : Aside0 (Below w.heap.size w (w3.alloc (.cells #[.slice A3 ts.length c3] 47))) := ⟨HB3.out.alloc HB3.out.size _⟩
  refine (lexer_Words.calls kw text A3 c3 ts ws _ (Kd.C_alloc HC3.out _) hc3 HKW.out).mono ?_
  rintro e w4 ⟨v4, rfl, ho4, hb4⟩
  obtain ⟨A4, c4, rfl, hc4, hC4⟩ := Kd.R_reads ho4
  have HB4 : Aside0 (Below w.heap.size w w4) := ⟨HB4a.out.trans (hb4.mono HB4a.out.size)⟩
  have hb34 : Below w3.heap.size w3 w4 := ((Below.refl _ _).alloc (Nat.le_refl _) _).trans (hb4.mono (by simp))
  have HT4 := Aside0.mk (HT3.out.below hb34)
  have hgt : w4.cell? ⟨w3.heap.size, 0, none⟩ = some (.slice A3 ts.length c3) := by
    have h := blk_cell (MapKept.heap_alloc w3 (.cells #[.slice A3 ts.length c3] 47)).1 0
    exact (hb4.cell (p := ⟨w3.heap.size, 0, none⟩) (by simp)).trans h
  have hf3 : Kd.F k74 w4 (fun k => True ∧ k < w3.heap.size) A3 ts.length ts := Kd.F_below (Kd.F_bound (Kd.R_F HO3.out)) hb34
  have hf4 : Kd.F Kd.string w4 (fun k => True ∧ k < w4.heap.size) A4 ws.length ws := Kd.F_bound (Kd.R_F ho4)
  have HF3 := Aside0.mk hf3
  have HF4 := Aside0.mk hf4
  have HGT := Aside0.mk hgt
  have HLT : Aside0 (w3.heap.size < w4.heap.size) := ⟨by have := hb4.size; simp at this; omega⟩
  clear hb4 hb34 ho4 hC4 hf3 hf4 hgt
  rw [hlen] at HF4
  obtain ⟨w8, hw8⟩ : ∃ w8, w8 = ((((w4.alloc (.cells #[.slice A4 ts.length c4] 51)).alloc (.cells #[.int .i64 0] 3)).alloc (.cells #[.func (.func 52) #[] #[.pointer (some ⟨w4.heap.size, 0, none⟩), .pointer (some ⟨w4.heap.size + 1, 0, none⟩), .pointer (some ⟨w3.heap.size, 0, none⟩)]] 43)).alloc (.cells #[.bool true] 4)) := ⟨_, rfl⟩
  have hb48 : Below w4.heap.size w4 w8 := by
    rw [hw8]
    exact ((((Below.refl _ _).alloc (Nat.le_refl _) _).alloc (by simp) _).alloc (by simp <;> omega) _).alloc (by simp <;> omega) _
  have HT8 := Aside0.mk (HT4.out.below hb48)
  have HB8 : Aside0 (Below w.heap.size w w8) := ⟨HB4.out.trans (hb48.mono HB4.out.size)⟩
  have hl1 := World.block_lt_of_cell? w4 _ HT4.out.c
  have HS8 : Aside0 (St w8 w4.heap.size (w4.heap.size + 1) w3.heap.size (w4.heap.size + 1 + 1 + 1) w.heap.size (w4.heap.size + 1 + 1) ts.length a0 ws ts 0) := by
    have hlt := HLT.out
    have b0 : w8.heap[w4.heap.size]? = some (.cells #[.slice A4 ts.length c4] 51 (0, 0)) := by
      rw [hw8, Below.heap_alloc _ _ _ (by simp <;> omega), Below.heap_alloc _ _ _ (by simp <;> omega), Below.heap_alloc _ _ _ (by simp <;> omega)]
      exact (MapKept.heap_alloc w4 _).1
    have b1 : w8.heap[w4.heap.size + 1]? = some (.cells #[.int .i64 0] 3 (0, 0)) := by
      rw [hw8, Below.heap_alloc _ _ _ (by simp <;> omega), Below.heap_alloc _ _ _ (by simp <;> omega)]
      have h := (MapKept.heap_alloc (w4.alloc (.cells #[.slice A4 ts.length c4] 51)) (.cells #[.int .i64 0] 3)).1
      simpa using h
    have b2 : w8.heap[w4.heap.size + 1 + 1]? = some (.cells #[.func (.func 52) #[] #[.pointer (some ⟨w4.heap.size, 0, none⟩), .pointer (some ⟨w4.heap.size + 1, 0, none⟩), .pointer (some ⟨w3.heap.size, 0, none⟩)]] 43 (0, 0)) := by
      rw [hw8, Below.heap_alloc _ _ _ (by simp <;> omega)]
      have h := (MapKept.heap_alloc ((w4.alloc (.cells #[.slice A4 ts.length c4] 51)).alloc (.cells #[.int .i64 0] 3)) (.cells #[.func (.func 52) #[] #[.pointer (some ⟨w4.heap.size, 0, none⟩), .pointer (some ⟨w4.heap.size + 1, 0, none⟩), .pointer (some ⟨w3.heap.size, 0, none⟩)]] 43)).1
      simpa using h
    have b3 : w8.heap[w4.heap.size + 1 + 1 + 1]? = some (.cells #[.bool true] 4 (0, 0)) := by
      rw [hw8]
      have h := (MapKept.heap_alloc (((w4.alloc (.cells #[.slice A4 ts.length c4] 51)).alloc (.cells #[.int .i64 0] 3)).alloc (.cells #[.func (.func 52) #[] #[.pointer (some ⟨w4.heap.size, 0, none⟩), .pointer (some ⟨w4.heap.size + 1, 0, none⟩), .pointer (some ⟨w3.heap.size, 0, none⟩)]] 43)) (.cells #[.bool true] 4)).1
      simpa using h
    refine ⟨⟨⟨hlen, rfl, h0⟩, ⟨A4, c4, ?_, blk_cell b0 0⟩, ⟨A3, c3, ?_, (hb48.cell (World.block_lt_of_cell? _ _ HGT.out)).trans HGT.out⟩, ⟨blk_cell b1 0, blk_frozen b1 0⟩, ⟨blk_cell b3 0, blk_frozen b3 0⟩, HT8.out.c, blk_cell b2 0, ?_⟩⟩
    · exact Kd.F_mono (Kd.F_below HF4.out hb48) (fun k hk => hk.2)
    · exact Kd.F_mono (Kd.F_below HF3.out hb48) (fun k hk => by have := hk.2; show k < w4.heap.size; omega)
    · have hle : w.heap.size < w4.heap.size := hl1
      omega
  have HPS : Aside0 (PS w w8 w.heap.size w3.heap.size w4.heap.size ts.length a0 3 n rec ws ts 0) := ⟨⟨HB8.out, HT8.out, HS8.out, Nat.le_refl _, by have := World.block_lt_of_cell? w4 _ HT4.out.c0; simpa using this, by rw [hw8]; simp⟩⟩
  obtain ⟨x1, x2, x3, x4⟩ := HT8.out
  have hcc := HS8.out.hc
  rw [hw8] at x1 x2 x3 x4 hcc
  have HW8 := Aside0.mk hw8
  clear hw8
  have hsz8 : w.heap.size ≤ w8.heap.size := HB8.out.size
  clear HS8 HT8 HB8 HF3 HF4 HGT HB4 HB3 HB2 HB1 HT4 HT3 HT2 HT1 HB0 HT0 HO3 HC3 HB4a HKS HKW HVV hl1 hb48
  have hpw := HP.out
  unfold parseW at hpw
  split at hpw
  · cases hpw
  rename_i iop hop
  split at hpw
  · cases hpw
  rename_i lo e0 hlp
  split at hpw
  case isFalse => cases hpw
  rename_i hcl2
  obtain ⟨he0, hcl⟩ := hcl2
  obtain rfl := Option.some.inj hpw
  clear hpw HP
  have hop2 : (accB ws ts 0 [91] = true ∧ 1 < ws.length) ∧ 1 = iop := by simpa [opStep] using hop
  obtain ⟨⟨hacc, h1N⟩, rfl⟩ := hop2
  rw [hlen] at h1N
  go_wp2_with fail
  rw [← HW8.out]
  clear HW8 x1 x2 x3 x4 hcc hop
  generalize hg3 : w3.heap.size = g3 at *
  generalize hg4 : w4.heap.size = g4 at *
  refine (accept_calls _ HPS.out.s).mono ?_
  rw [show (⟨#[91]⟩ : ByteArray).toList = [91] from by kernel_rfl, hacc]
  rintro e w9 ⟨rfl, hw9⟩
  rw [if_pos rfl] at hw9
  have HPS9 : Aside0 (PS w w9 w.heap.size g3 g4 ts.length a0 3 n rec ws ts 1) := ⟨by rw [hw9]; exact HPS.out.setA h1N⟩
  clear hw9 HPS
  obtain ⟨x1, x2, x3, x4⟩ := HPS9.out.t
  have HSC : Aside0 (types_Scalars.f l2 [(⟨3, n, rec⟩ : S39)] = some (scalarsT 3 n rec l2)) := ⟨by unfold types_Scalars.f; exact if_pos ⟨hv, hl⟩⟩
  have HCA := Aside0.mk (C39_new w9 3 n rec)
  have hba : Below w9.heap.size w9 (w9.alloc (.cells #[.int .i64 3, .int .i64 n, .string rec] 39)) := (Below.refl _ _).alloc (Nat.le_refl _) _
  have HPSa := Aside0.mk (HPS9.out.below hba)
  have HSZ9 : Aside0 (g4 + 3 < w9.heap.size) := ⟨HPS9.out.o.2.2⟩
  clear hba
  go_wp2_with fail
  refine (types_Scalars.calls A2 c2 l2 (some ⟨w9.heap.size, 0, none⟩) 1 [(⟨3, n, rec⟩ : S39)] (scalarsT 3 n rec l2) _ (Kd.C_below HR.out HPSa.out.b) hc2 HCA.out (Nat.le_refl _) HSC.out).mono ?_
  rintro e w10 ⟨v10, rfl, ho10, hb10⟩
  have HPS10 := Aside0.mk (HPSa.out.below hb10)
  obtain ⟨A5, c5, rfl, hc5, hC5⟩ := Kd.R_reads ho10
  have HFS : Aside0 (Kd.F k39 w10 (fun k => (k ≠ g4 + 1 ∧ k ≠ g4 + 3) ∧ k < w10.heap.size) A5 (scalarsT 3 n rec l2).length (scalarsT 3 n rec l2)) := ⟨Kd.F_bound (Kd.R_F (Kd.R_mono (Kd.R_bound ho10) (fun k hk => by have h1 := hk.2.1; have h2 := HSZ9.out; simp at h1; omega)))⟩
  have hmax5 := Kd.C_max hC5
  have HO0 : ∀ W, Kd.R (Kd.int .i64) 3 W w.heap.size (fun k => w10.heap.size ≤ k) (.slice none 0 0) [] := fun W => Kd.R_nil _ _ _ _ _
  have HOE := Aside0.mk HO0
  clear ho10 hb10 hC5 HO0 x1 x2 x3 x4 HPSa HCA HSC HPS9
  have HSL := Aside0.mk (scT_len 3 n rec l2 hv hl)
  have HSZ10 : Aside0 (g4 + 3 < w10.heap.size) := ⟨HPS10.out.o.2.2⟩
  generalize scalarsT 3 n rec l2 = sc at *
  have HLP := Aside0.mk hlp
  have HCL := Aside0.mk hcl
  have HE0 := Aside0.mk he0
  clear hlp hcl he0
  go_wp2_with fail
  go_loopw [19, 67] (fun v19 v67 wr => ∃ (j i : Nat) (outs rest : List Int), v67 = .int .i64 (j : Int) ∧ j ≤ sc.length ∧ outs.length = j ∧ outs ++ rest = lo ∧ Aside0 (PS w wr w.heap.size g3 g4 ts.length a0 3 n rec ws ts i) ∧ Aside0 (Kd.R (Kd.int .i64) 3 wr w.heap.size (fun k => w10.heap.size ≤ k) v19 outs) ∧ Aside0 (Kd.F k39 wr (fun k => (k ≠ g4 + 1 ∧ k ≠ g4 + 3) ∧ k < w10.heap.size) A5 sc.length sc) ∧ Aside0 (lpStep a0 ws ts (sc.drop j) (decide (j = 0)) i = some (rest, e0)) ∧ Aside0 (w10.heap.size ≤ wr.heap.size)) (fun _ v _ => sc.length - (intOf v).toNat)
  case atStart => exact ⟨0, 1, [], lo, rfl, Nat.zero_le _, rfl, rfl, HPS10, ⟨HOE.out _⟩, HFS, ⟨by simpa using HLP.out⟩, ⟨Nat.le_refl _⟩⟩
  case round =>
    clear HPS10 HFS HLP HOE
    obtain ⟨j, i, outs, rest, rfl, hj, hol, hor, HPS, HO, HF, HLP, HLE⟩ := hrel
    by_cases hlt : j < sc.length
    · have c0 : decide ((j : Int) < (sc.length : Int)) = true := decide_eq_true (by omega)
      obtain ⟨ad, e1, hx0, hx1, hx2⟩ := at_T39 (Kd.F_now HF.out) (j : Int) (by omega) (by omega)
      subst e1
      rw [Int.toNat_natCast] at hx0 hx1 hx2
      have hdr : sc.drop j = rd_T39 sc (j : Int) :: sc.drop (j + 1) := by
        rw [List.drop_eq_getElem_cons hlt]
        congr 1
        unfold rd_T39
        rw [Int.toNat_natCast, List.getD_eq_getElem?_getD, List.getElem?_eq_getElem hlt]
        rfl
      have hlp := HLP.out
      rw [hdr] at hlp
      obtain ⟨jj, v, i', l', hfst, hsc, hrest, rfl⟩ := lp_cons hlp
      clear hlp HLP hdr
      obtain ⟨S, hS⟩ : ∃ S, S = rd_T39 sc (j : Int) := ⟨_, rfl⟩
      rw [← hS] at hx0 hx1 hx2 hsc
      obtain ⟨S0, S1, S2⟩ := S
      have hsc : scStep a0 ws ts (S0 == 2) jj = some (v, i') := hsc
      have hx0 : wr.cell? (ad.add (j * 3)) = some (.int .i64 S0) := hx0
      have hTb := (MapKept.heap_alloc wr (.cells #[.int .i64 S0, .int .i64 S1, .string S2] 39)).1
      have HTB := Aside0.mk hTb
      have HPSA := Aside0.mk (HPS.out.below ((Below.refl _ _).alloc (Nat.le_refl _) (.cells #[.int .i64 S0, .int .i64 S1, .string S2] 39)))
      have HSZr : Aside0 (g4 + 3 < wr.heap.size) := ⟨HPS.out.o.2.2⟩
      have HSC := Aside0.mk hsc
      have HREST := Aside0.mk hrest
      have HFST := Aside0.mk hfst
      have hccA := HPSA.out.s.hc
      clear hTb hsc hrest hfst
      by_cases hj0 : j = 0
      · subst hj0
        have hz : ad.add (0 * 3) = ad := by rw [Nat.zero_mul]; exact addr_add_zero ad
        rw [hz] at hx0 hx1 hx2
        go_wp2_with fail
        rcases HFST.out with ⟨_, rfl⟩ | ⟨hbad, _⟩
        case inr => exact absurd hbad (by simp)
        have HOB : Aside0 (Kd.R (Kd.int .i64) 3 (wr.alloc (.cells #[.int .i64 S0, .int .i64 S1, .string S2] 39)) w.heap.size (fun k => w10.heap.size ≤ k) _ outs) := ⟨Kd.R_alloc HO.out _⟩
        have HFB : Aside0 (Kd.F k39 (wr.alloc (.cells #[.int .i64 S0, .int .i64 S1, .string S2] 39)) (fun k => (k ≠ g4 + 1 ∧ k ≠ g4 + 3) ∧ k < w10.heap.size) (some ad) sc.length sc) := ⟨Kd.F_alloc HF.out _⟩
        refine (scalar_step w.heap.size (by have := HPSA.out.o; omega) (by have := HPSA.out.o; omega) HPSA.out.b.size S0 S1 S2 v HPSA.out.s HSC.out).mono ?_
        rintro e wC ⟨rfl, hsC, hmC⟩
        have HPSC := Aside0.mk (HPSA.out.moved hsC hmC)
        have HOC : Aside0 (Kd.R (Kd.int .i64) 3 wC w.heap.size (fun k => w10.heap.size ≤ k) _ outs) := ⟨Kd.R_kept HOB.out hmC.2 (fun k hk => by have h1 : w10.heap.size ≤ k := hk; have h2 := HSZ10.out; omega)⟩
        have HFC : Aside0 (Kd.F k39 wC (fun k => (k ≠ g4 + 1 ∧ k ≠ g4 + 3) ∧ k < w10.heap.size) (some ad) sc.length sc) := ⟨Kd.F_kept HFB.out hmC.2 (fun k hk => by have h1 := hk.1; omega)⟩
        have HLC : Aside0 (w10.heap.size ≤ wC.heap.size) := ⟨Nat.le_trans HLE.out (Nat.le_trans (by simp) hmC.2.1)⟩
        clear hsC hmC
        have hlenO : outs.length ≤ 1000000 := by have := HSL.out; omega
        go_wp2_with ((with_reducible refine gate_builtin (b := .append) (xs := #[.tmp 87, .tmp 89]) rfl ?_); at_builtin; go_loud (refine Kd.R_append (Kd.int .i64) (w0 := w) w.heap.size rfl (.tmp 87) (.tmp 89) 22 3 (.int .i64 0) 8 rfl Try.underlying22 (by kernel_rfl) rfl (by decide) (by omega) _ outs v [.int .i64 v] (fun k => w10.heap.size ≤ k) (fun _ => False) rfl rfl ?aP (fun _ hk => hk.elim) ?aF ?aO ?aB ?aS ?aL ?_); (case aP => first | rfl | exact ⟨_, rfl⟩ | simp [Kd.int, Kd.scalar]); (case aF => exact (fun k hk => Nat.le_trans HLC.out hk)); (case aO => exact HOC.out); (case aB => exact HPSC.out.b); (case aS => exact HPSC.out.b.size); (case aL => omega); intro v6 w6 ho6 hb6 hg6 hat6; have HPS6 := Aside0.mk (HPSC.out.grown hb6 hg6 (fun k hk => (by have h1 := HOC.out.1 k hk; have h1' : w10.heap.size ≤ k := h1; have h2 := HSZ10.out; omega)) HLT.out); have HF6 : Aside0 (Kd.F k39 w6 (fun k => (k ≠ g4 + 1 ∧ k ≠ g4 + 3) ∧ k < w10.heap.size) (some ad) sc.length sc) := ⟨Kd.F_grown HFC.out hg6 (fun k hk he => (by have h1 := HOC.out.1 k he.symm; have h1' : w10.heap.size ≤ k := h1; have h3 := hk.2; omega))⟩; have HL6 : Aside0 (w10.heap.size ≤ w6.heap.size) := ⟨Nat.le_trans HLC.out hg6.size⟩; have HO6 := Aside0.mk ho6; clear ho6 hb6 hg6 hat6)
        refine ⟨⟨0 + 1, i', outs ++ [v], l', by go_num, by omega, by simp [hol], by rw [List.append_assoc]; exact hor, HPS6, HO6, HF6, ⟨HREST.out⟩, HL6⟩, by simp [intOf]; omega⟩
      · have cj : decide (0 < (j : Int)) = true := decide_eq_true (by omega)
        go_wp2_with fail
        obtain ⟨hbad, _⟩ | ⟨_, hA, hB, rfl⟩ := HFST.out
        · exact absurd (of_decide_eq_true hbad) hj0
        refine (accept_calls _ HPSA.out.s).mono ?_
        rw [show (⟨#[44]⟩ : ByteArray).toList = [44] from by kernel_rfl, hA]
        rintro e wB ⟨rfl, hwB⟩
        rw [if_pos rfl] at hwB
        have HPSB : Aside0 (PS w wB w.heap.size g3 g4 ts.length a0 3 n rec ws ts (i + 1)) := ⟨by rw [hwB]; exact HPSA.out.setA (by omega)⟩
        have hkAB : Kept (wr.alloc (.cells #[.int .i64 S0, .int .i64 S1, .string S2] 39)) wB (fun k => k = g4 + 1 ∨ k = g4 + 3) := by rw [hwB]; exact (Kept.refl _ _).setCell (.inl (.inl rfl)) _
        have HOB : Aside0 (Kd.R (Kd.int .i64) 3 wB w.heap.size (fun k => w10.heap.size ≤ k) _ outs) := ⟨Kd.R_kept (Kd.R_alloc HO.out _) hkAB (fun k hk => by have h1 : w10.heap.size ≤ k := hk; have h2 := HSZ10.out; omega)⟩
        have HFB : Aside0 (Kd.F k39 wB (fun k => (k ≠ g4 + 1 ∧ k ≠ g4 + 3) ∧ k < w10.heap.size) (some ad) sc.length sc) := ⟨Kd.F_kept (Kd.F_alloc HF.out _) hkAB (fun k hk => by have h1 := hk.1; omega)⟩
        have hy := blk_kept HTB.out hkAB (by have := HSZr.out; omega)
        have hy0 := blk_cell hy 0
        have hy1 := blk_cell hy 1
        have hy2 := blk_cell hy 2
        have hccB := HPSB.out.s.hc
        have HLEB : Aside0 (wr.heap.size ≤ wB.heap.size) := ⟨Nat.le_trans (by simp) hkAB.1⟩
        clear hwB hkAB hy hccA hx0 hx1 hx2
        go_wp2_with fail
        refine (scalar_step w.heap.size (by have := HPSB.out.o; omega) (by have := HPSB.out.o; omega) HPSB.out.b.size S0 S1 S2 v HPSB.out.s HSC.out).mono ?_
        rintro e wC ⟨rfl, hsC, hmC⟩
        have HPSC := Aside0.mk (HPSB.out.moved hsC hmC)
        have HOC : Aside0 (Kd.R (Kd.int .i64) 3 wC w.heap.size (fun k => w10.heap.size ≤ k) _ outs) := ⟨Kd.R_kept HOB.out hmC.2 (fun k hk => by have h1 : w10.heap.size ≤ k := hk; have h2 := HSZ10.out; omega)⟩
        have HFC : Aside0 (Kd.F k39 wC (fun k => (k ≠ g4 + 1 ∧ k ≠ g4 + 3) ∧ k < w10.heap.size) (some ad) sc.length sc) := ⟨Kd.F_kept HFB.out hmC.2 (fun k hk => by have h1 := hk.1; omega)⟩
        have HLC : Aside0 (w10.heap.size ≤ wC.heap.size) := ⟨Nat.le_trans HLE.out (Nat.le_trans HLEB.out hmC.2.1)⟩
        clear hsC hmC
        have hlenO : outs.length ≤ 1000000 := by have := HSL.out; omega
        go_wp2_with ((with_reducible refine gate_builtin (b := .append) (xs := #[.tmp 87, .tmp 89]) rfl ?_); at_builtin; go_loud (refine Kd.R_append (Kd.int .i64) (w0 := w) w.heap.size rfl (.tmp 87) (.tmp 89) 22 3 (.int .i64 0) 8 rfl Try.underlying22 (by kernel_rfl) rfl (by decide) (by omega) _ outs v [.int .i64 v] (fun k => w10.heap.size ≤ k) (fun _ => False) rfl rfl ?aP (fun _ hk => hk.elim) ?aF ?aO ?aB ?aS ?aL ?_); (case aP => first | rfl | exact ⟨_, rfl⟩ | simp [Kd.int, Kd.scalar]); (case aF => exact (fun k hk => Nat.le_trans HLC.out hk)); (case aO => exact HOC.out); (case aB => exact HPSC.out.b); (case aS => exact HPSC.out.b.size); (case aL => omega); intro v6 w6 ho6 hb6 hg6 hat6; have HPS6 := Aside0.mk (HPSC.out.grown hb6 hg6 (fun k hk => (by have h1 := HOC.out.1 k hk; have h1' : w10.heap.size ≤ k := h1; have h2 := HSZ10.out; omega)) HLT.out); have HF6 : Aside0 (Kd.F k39 w6 (fun k => (k ≠ g4 + 1 ∧ k ≠ g4 + 3) ∧ k < w10.heap.size) (some ad) sc.length sc) := ⟨Kd.F_grown HFC.out hg6 (fun k hk he => (by have h1 := HOC.out.1 k he.symm; have h1' : w10.heap.size ≤ k := h1; have h3 := hk.2; omega))⟩; have HL6 : Aside0 (w10.heap.size ≤ w6.heap.size) := ⟨Nat.le_trans HLC.out hg6.size⟩; have HO6 := Aside0.mk ho6; clear ho6 hb6 hg6 hat6)
        refine ⟨⟨j + 1, i', outs ++ [v], l', by go_num, by omega, by simp [hol], by rw [List.append_assoc]; exact hor, HPS6, HO6, HF6, ⟨HREST.out⟩, HL6⟩, by simp [intOf]; omega⟩
    · have c0 : decide ((j : Int) < (sc.length : Int)) = false := decide_eq_false (by omega)
      have hccA := HPS.out.s.hc
      go_wp2_with fail
      have hlp := HLP.out
      rw [List.drop_of_length_le (by omega)] at hlp
      have hlp2 : [] = rest ∧ i = e0 := by simpa [lpStep] using hlp
      obtain ⟨rfl, rfl⟩ := hlp2
      rw [List.append_nil] at hor
      subst hor
      have hcl : accB ws ts i [93] = true ∧ i + 1 < ws.length ∧ (rd_T74 ts ((i + 1 : Nat) : Int)).f0 = 5 := by
        have h := HCL.out
        simpa [clStep] using h
      obtain ⟨hA, hB, hK⟩ := hcl
      have HK := Aside0.mk hK
      refine (accept_calls _ HPS.out.s).mono ?_
      rw [show (⟨#[93]⟩ : ByteArray).toList = [93] from by kernel_rfl, hA]
      rintro e wB ⟨rfl, hwB⟩
      rw [if_pos rfl] at hwB
      have HPSB : Aside0 (PS w wB w.heap.size g3 g4 ts.length a0 3 n rec ws ts (i + 1)) := ⟨by rw [hwB]; exact HPS.out.setA (by omega)⟩
      have hkAB : Kept wr wB (fun k => k = g4 + 1 ∨ k = g4 + 3) := by rw [hwB]; exact (Kept.refl _ _).setCell (.inl (.inl rfl)) _
      have HOB : Aside0 (Kd.R (Kd.int .i64) 3 wB w.heap.size (fun k => w10.heap.size ≤ k) _ outs) := ⟨Kd.R_kept HO.out hkAB (fun k hk => by have h1 : w10.heap.size ≤ k := hk; have h2 := HSZ10.out; omega)⟩
      obtain ⟨_, _, ⟨A6, c6, hT6, hT6c⟩, ⟨ha6, _⟩, ⟨hf6, _⟩, _, _, _⟩ := HPSB.out.s
      obtain ⟨ad6, e6, hk6, _, _, _⟩ := at_T74 (Kd.F_now hT6) ((i + 1 : Nat) : Int) (by omega) (by omega)
      subst e6
      rw [Int.toNat_natCast, HK.out] at hk6
      have hm6 := Kd.C_max (Kd.F_now hT6)
      clear hwB hkAB hT6 hccA HPS HO HF HLP
      go_wp2_with fail
      go_ret2
      exact ⟨_, rfl, Kd.R_mono HOB.out (fun _ _ => trivial), HPSB.out.b⟩
set_option maxHeartbeats 4000000 in
set_option maxRecDepth 100000 in
theorem parse_4 (a0 n : Int) (rec : ByteArray) (A2 : Option Addr) (c2 : Nat) (l2 : List S57) (text : ByteArray) (w : World) (hr2 : Kd.C k57 w A2 l2.length l2) (hc2 : l2.length ≤ c2)
    (hw : 2 ≤ a0 ∧ a0 ≤ 8) (hk : (Lit.int .i64 4).wf = true) (hv : validT 4 n rec l2 = true) (hl : (rd_T57 l2 (recIx l2 rec : Int)).f1.length ≤ 1000000) (ht : text.size ≤ 4096) (h0 : 0 < (tokT text).length) (out : List Int) (hp : parseW a0 (wordsP text (tokT text)) (tokT text) 4 rec (scalarsT 4 n rec l2) = some out) :
    Calls Try.prog 28 #[.int .i64 a0, .agg #[.int .i64 4, .int .i64 n, .string rec], .slice A2 l2.length c2, .string text] w fun e w' => ∃ v0_ : Value, e = .returned (.tuple #[v0_, .int .i64 0]) ∧ Kd.R (Kd.int .i64) 3 w' w.heap.size (fun _ => True) v0_ out ∧ Below w.heap.size w w' := by
  have hmf := mf_
  have HR := Aside0.mk hr2
  obtain ⟨ks, hks⟩ := Ev.rounds (lexer_Scan_ev text)
  obtain ⟨sc1, sc2, sc3⟩ := scan_ok ht
  rw [sc1] at hks
  change lexer_Scan.f ks text = some (tokT text, 0) at hks
  obtain ⟨kw, hkw⟩ := Ev.rounds (lexer_Words_ev text (tokT text) sc2 sc3)
  have hvv : types_Valid.f 4 n rec l2 = some true := by unfold types_Valid.f; rw [if_pos hk, hv]
  have hii := isWidth_eq a0 hw
  have HKS := Aside0.mk hks
  have HKW := Aside0.mk hkw
  have HVV := Aside0.mk hvv
  have HII := Aside0.mk hii
  have HP := Aside0.mk hp
  have hlen : (wordsP text (tokT text)).length = (tokT text).length := by simp [wordsP]
  generalize hws : wordsP text (tokT text) = ws at *
  generalize hts : tokT text = ts at *
  obtain ⟨N, hN⟩ : ∃ N, N = ts.length := ⟨_, rfl⟩
  have hF : ((w.alloc (.cells #[.int .i64 a0] 3)).alloc (.cells #[.int .i64 4, .int .i64 n, .string rec] 39)).heap[w.heap.size + 1]? = some (.cells #[.int .i64 4, .int .i64 n, .string rec] 39 (0, 0)) := by
    have h := (MapKept.heap_alloc (w.alloc (.cells #[.int .i64 a0] 3)) (.cells #[.int .i64 4, .int .i64 n, .string rec] 39)).1
    simpa using h
  have hF0 : ((w.alloc (.cells #[.int .i64 a0] 3)).alloc (.cells #[.int .i64 4, .int .i64 n, .string rec] 39)).cell? ⟨w.heap.size, 0, none⟩ = some (.int .i64 a0) :=
    (World.cell?_alloc_lt _ _ _ (by simp)).trans (blk_cell (MapKept.heap_alloc w _).1 0)
  have HT0 : Aside0 (TS ((w.alloc (.cells #[.int .i64 a0] 3)).alloc (.cells #[.int .i64 4, .int .i64 n, .string rec] 39)) w.heap.size a0 4 n rec) := ⟨⟨hF0, blk_cell hF 0, blk_cell hF 1, blk_cell hF 2⟩⟩
  have HB0 : Aside0 (Below w.heap.size w ((w.alloc (.cells #[.int .i64 a0] 3)).alloc (.cells #[.int .i64 4, .int .i64 n, .string rec] 39))) := ⟨((Below.refl _ _).alloc (Nat.le_refl _) _).alloc (by simp) _⟩
  clear hks hkw hvv hii hp sc1 sc2 sc3 hr2 hF hF0
  go_enter Try.func28, Try.ntmps28
  go_wp2_with fail
  refine (value_isWidth.calls a0 true _ HII.out).mono ?_
  rintro e w1 ⟨rfl, hd1⟩
  have hb1 := Drawn0.below hd1
  have HT1 := Aside0.mk (HT0.out.below hb1)
  have HB1 : Aside0 (Below w.heap.size w w1) := ⟨HB0.out.trans (hb1.mono HB0.out.size)⟩
  obtain ⟨x1, x2, x3, x4⟩ := HT1.out
  clear hb1 hd1
  go_wp2_with fail
  refine (types_Valid.calls 4 n rec A2 c2 l2 true _ (Kd.C_below HR.out HB1.out) hc2 HVV.out).mono ?_
  rintro e w2 ⟨rfl, hb2⟩
  have HT2 := Aside0.mk (HT1.out.below hb2)
  have HB2 : Aside0 (Below w.heap.size w w2) := ⟨HB1.out.trans (hb2.mono HB1.out.size)⟩
  clear hb2 x1 x2 x3 x4
  go_wp2_with fail
  refine (lexer_Scan.calls ks text ts 0 _ HKS.out).mono ?_
  rintro e w3 ⟨v3, rfl, ho3, hb3⟩
  obtain ⟨A3, c3, rfl, hc3, hC3⟩ := Kd.R_reads ho3
  have HT3 := Aside0.mk (HT2.out.below hb3)
  have HB3 : Aside0 (Below w.heap.size w w3) := ⟨HB2.out.trans (hb3.mono HB2.out.size)⟩
  have HO3 := Aside0.mk ho3
  have HC3 := Aside0.mk hC3
  clear hb3 ho3 hC3
  go_wp2_with fail
  have HB4a : Aside0 (Below w.heap.size w (w3.alloc (.cells #[.slice A3 ts.length c3] 47))) := ⟨HB3.out.alloc HB3.out.size _⟩
  refine (lexer_Words.calls kw text A3 c3 ts ws _ (Kd.C_alloc HC3.out _) hc3 HKW.out).mono ?_
  rintro e w4 ⟨v4, rfl, ho4, hb4⟩
  obtain ⟨A4, c4, rfl, hc4, hC4⟩ := Kd.R_reads ho4
  have HB4 : Aside0 (Below w.heap.size w w4) := ⟨HB4a.out.trans (hb4.mono HB4a.out.size)⟩
  have hb34 : Below w3.heap.size w3 w4 := ((Below.refl _ _).alloc (Nat.le_refl _) _).trans (hb4.mono (by simp))
  have HT4 := Aside0.mk (HT3.out.below hb34)
  have hgt : w4.cell? ⟨w3.heap.size, 0, none⟩ = some (.slice A3 ts.length c3) := by
    have h := blk_cell (MapKept.heap_alloc w3 (.cells #[.slice A3 ts.length c3] 47)).1 0
    exact (hb4.cell (p := ⟨w3.heap.size, 0, none⟩) (by simp)).trans h
  have hf3 : Kd.F k74 w4 (fun k => True ∧ k < w3.heap.size) A3 ts.length ts := Kd.F_below (Kd.F_bound (Kd.R_F HO3.out)) hb34
  have hf4 : Kd.F Kd.string w4 (fun k => True ∧ k < w4.heap.size) A4 ws.length ws := Kd.F_bound (Kd.R_F ho4)
  have HF3 := Aside0.mk hf3
  have HF4 := Aside0.mk hf4
  have HGT := Aside0.mk hgt
  have HLT : Aside0 (w3.heap.size < w4.heap.size) := ⟨by have := hb4.size; simp at this; omega⟩
  clear hb4 hb34 ho4 hC4 hf3 hf4 hgt
  rw [hlen] at HF4
  obtain ⟨w8, hw8⟩ : ∃ w8, w8 = ((((w4.alloc (.cells #[.slice A4 ts.length c4] 51)).alloc (.cells #[.int .i64 0] 3)).alloc (.cells #[.func (.func 52) #[] #[.pointer (some ⟨w4.heap.size, 0, none⟩), .pointer (some ⟨w4.heap.size + 1, 0, none⟩), .pointer (some ⟨w3.heap.size, 0, none⟩)]] 43)).alloc (.cells #[.bool true] 4)) := ⟨_, rfl⟩
  have hb48 : Below w4.heap.size w4 w8 := by
    rw [hw8]
    exact ((((Below.refl _ _).alloc (Nat.le_refl _) _).alloc (by simp) _).alloc (by simp <;> omega) _).alloc (by simp <;> omega) _
  have HT8 := Aside0.mk (HT4.out.below hb48)
  have HB8 : Aside0 (Below w.heap.size w w8) := ⟨HB4.out.trans (hb48.mono HB4.out.size)⟩
  have hl1 := World.block_lt_of_cell? w4 _ HT4.out.c
  have HS8 : Aside0 (St w8 w4.heap.size (w4.heap.size + 1) w3.heap.size (w4.heap.size + 1 + 1 + 1) w.heap.size (w4.heap.size + 1 + 1) ts.length a0 ws ts 0) := by
    have hlt := HLT.out
    have b0 : w8.heap[w4.heap.size]? = some (.cells #[.slice A4 ts.length c4] 51 (0, 0)) := by
      rw [hw8, Below.heap_alloc _ _ _ (by simp <;> omega), Below.heap_alloc _ _ _ (by simp <;> omega), Below.heap_alloc _ _ _ (by simp <;> omega)]
      exact (MapKept.heap_alloc w4 _).1
    have b1 : w8.heap[w4.heap.size + 1]? = some (.cells #[.int .i64 0] 3 (0, 0)) := by
      rw [hw8, Below.heap_alloc _ _ _ (by simp <;> omega), Below.heap_alloc _ _ _ (by simp <;> omega)]
      have h := (MapKept.heap_alloc (w4.alloc (.cells #[.slice A4 ts.length c4] 51)) (.cells #[.int .i64 0] 3)).1
      simpa using h
    have b2 : w8.heap[w4.heap.size + 1 + 1]? = some (.cells #[.func (.func 52) #[] #[.pointer (some ⟨w4.heap.size, 0, none⟩), .pointer (some ⟨w4.heap.size + 1, 0, none⟩), .pointer (some ⟨w3.heap.size, 0, none⟩)]] 43 (0, 0)) := by
      rw [hw8, Below.heap_alloc _ _ _ (by simp <;> omega)]
      have h := (MapKept.heap_alloc ((w4.alloc (.cells #[.slice A4 ts.length c4] 51)).alloc (.cells #[.int .i64 0] 3)) (.cells #[.func (.func 52) #[] #[.pointer (some ⟨w4.heap.size, 0, none⟩), .pointer (some ⟨w4.heap.size + 1, 0, none⟩), .pointer (some ⟨w3.heap.size, 0, none⟩)]] 43)).1
      simpa using h
    have b3 : w8.heap[w4.heap.size + 1 + 1 + 1]? = some (.cells #[.bool true] 4 (0, 0)) := by
      rw [hw8]
      have h := (MapKept.heap_alloc (((w4.alloc (.cells #[.slice A4 ts.length c4] 51)).alloc (.cells #[.int .i64 0] 3)).alloc (.cells #[.func (.func 52) #[] #[.pointer (some ⟨w4.heap.size, 0, none⟩), .pointer (some ⟨w4.heap.size + 1, 0, none⟩), .pointer (some ⟨w3.heap.size, 0, none⟩)]] 43)) (.cells #[.bool true] 4)).1
      simpa using h
    refine ⟨⟨⟨hlen, rfl, h0⟩, ⟨A4, c4, ?_, blk_cell b0 0⟩, ⟨A3, c3, ?_, (hb48.cell (World.block_lt_of_cell? _ _ HGT.out)).trans HGT.out⟩, ⟨blk_cell b1 0, blk_frozen b1 0⟩, ⟨blk_cell b3 0, blk_frozen b3 0⟩, HT8.out.c, blk_cell b2 0, ?_⟩⟩
    · exact Kd.F_mono (Kd.F_below HF4.out hb48) (fun k hk => hk.2)
    · exact Kd.F_mono (Kd.F_below HF3.out hb48) (fun k hk => by have := hk.2; show k < w4.heap.size; omega)
    · have hle : w.heap.size < w4.heap.size := hl1
      omega
  have HPS : Aside0 (PS w w8 w.heap.size w3.heap.size w4.heap.size ts.length a0 4 n rec ws ts 0) := ⟨⟨HB8.out, HT8.out, HS8.out, Nat.le_refl _, by have := World.block_lt_of_cell? w4 _ HT4.out.c0; simpa using this, by rw [hw8]; simp⟩⟩
  obtain ⟨x1, x2, x3, x4⟩ := HT8.out
  have hcc := HS8.out.hc
  rw [hw8] at x1 x2 x3 x4 hcc
  have HW8 := Aside0.mk hw8
  clear hw8
  have hsz8 : w.heap.size ≤ w8.heap.size := HB8.out.size
  clear HS8 HT8 HB8 HF3 HF4 HGT HB4 HB3 HB2 HB1 HT4 HT3 HT2 HT1 HB0 HT0 HO3 HC3 HB4a HKS HKW HVV hl1 hb48
  have hpw := HP.out
  unfold parseW at hpw
  split at hpw
  · cases hpw
  rename_i iop hop
  split at hpw
  · cases hpw
  rename_i lo e0 hlp
  split at hpw
  case isFalse => cases hpw
  rename_i hcl2
  obtain ⟨he0, hcl⟩ := hcl2
  obtain rfl := Option.some.inj hpw
  clear hpw HP
  have hop2 : (accB ws ts 0 rec.toList = true ∧ accB ws ts 1 [40] = true ∧ 2 < ws.length) ∧ 2 = iop := by simpa [opStep] using hop
  obtain ⟨⟨hacc0, hacc, h2N⟩, rfl⟩ := hop2
  rw [hlen] at h2N
  go_wp2_with fail
  rw [← HW8.out]
  clear HW8 x1 x2 x3 x4 hcc hop
  generalize hg3 : w3.heap.size = g3 at *
  generalize hg4 : w4.heap.size = g4 at *
  refine (accept_calls _ HPS.out.s).mono ?_
  rw [hacc0]
  rintro e w7 ⟨rfl, hw7⟩
  rw [if_pos rfl] at hw7
  have HPS7 : Aside0 (PS w w7 w.heap.size g3 g4 ts.length a0 4 n rec ws ts 1) := ⟨by rw [hw7]; exact HPS.out.setA (by omega)⟩
  clear hw7 HPS
  have hcc7 := HPS7.out.s.hc
  go_wp2_with fail
  refine (accept_calls _ HPS7.out.s).mono ?_
  rw [show (⟨#[40]⟩ : ByteArray).toList = [40] from by kernel_rfl, hacc]
  rintro e w9 ⟨rfl, hw9⟩
  rw [if_pos rfl] at hw9
  have HPS9 : Aside0 (PS w w9 w.heap.size g3 g4 ts.length a0 4 n rec ws ts 2) := ⟨by rw [hw9]; exact HPS7.out.setA h2N⟩
  clear hw9 HPS7 hcc7
  obtain ⟨x1, x2, x3, x4⟩ := HPS9.out.t
  have HSC : Aside0 (types_Scalars.f l2 [(⟨4, n, rec⟩ : S39)] = some (scalarsT 4 n rec l2)) := ⟨by unfold types_Scalars.f; exact if_pos ⟨hv, hl⟩⟩
  have HCA := Aside0.mk (C39_new w9 4 n rec)
  have hba : Below w9.heap.size w9 (w9.alloc (.cells #[.int .i64 4, .int .i64 n, .string rec] 39)) := (Below.refl _ _).alloc (Nat.le_refl _) _
  have HPSa := Aside0.mk (HPS9.out.below hba)
  have HSZ9 : Aside0 (g4 + 3 < w9.heap.size) := ⟨HPS9.out.o.2.2⟩
  clear hba
  go_wp2_with fail
  refine (types_Scalars.calls A2 c2 l2 (some ⟨w9.heap.size, 0, none⟩) 1 [(⟨4, n, rec⟩ : S39)] (scalarsT 4 n rec l2) _ (Kd.C_below HR.out HPSa.out.b) hc2 HCA.out (Nat.le_refl _) HSC.out).mono ?_
  rintro e w10 ⟨v10, rfl, ho10, hb10⟩
  have HPS10 := Aside0.mk (HPSa.out.below hb10)
  obtain ⟨A5, c5, rfl, hc5, hC5⟩ := Kd.R_reads ho10
  have HFS : Aside0 (Kd.F k39 w10 (fun k => (k ≠ g4 + 1 ∧ k ≠ g4 + 3) ∧ k < w10.heap.size) A5 (scalarsT 4 n rec l2).length (scalarsT 4 n rec l2)) := ⟨Kd.F_bound (Kd.R_F (Kd.R_mono (Kd.R_bound ho10) (fun k hk => by have h1 := hk.2.1; have h2 := HSZ9.out; simp at h1; omega)))⟩
  have hmax5 := Kd.C_max hC5
  have HO0 : ∀ W, Kd.R (Kd.int .i64) 3 W w.heap.size (fun k => w10.heap.size ≤ k) (.slice none 0 0) [] := fun W => Kd.R_nil _ _ _ _ _
  have HOE := Aside0.mk HO0
  clear ho10 hb10 hC5 HO0 x1 x2 x3 x4 HPSa HCA HSC HPS9
  have HSL := Aside0.mk (scT_len 4 n rec l2 hv hl)
  have HSZ10 : Aside0 (g4 + 3 < w10.heap.size) := ⟨HPS10.out.o.2.2⟩
  generalize scalarsT 4 n rec l2 = sc at *
  have HLP := Aside0.mk hlp
  have HCL := Aside0.mk hcl
  have HE0 := Aside0.mk he0
  clear hlp hcl he0
  go_wp2_with fail
  go_loopw [19, 67] (fun v19 v67 wr => ∃ (j i : Nat) (outs rest : List Int), v67 = .int .i64 (j : Int) ∧ j ≤ sc.length ∧ outs.length = j ∧ outs ++ rest = lo ∧ Aside0 (PS w wr w.heap.size g3 g4 ts.length a0 4 n rec ws ts i) ∧ Aside0 (Kd.R (Kd.int .i64) 3 wr w.heap.size (fun k => w10.heap.size ≤ k) v19 outs) ∧ Aside0 (Kd.F k39 wr (fun k => (k ≠ g4 + 1 ∧ k ≠ g4 + 3) ∧ k < w10.heap.size) A5 sc.length sc) ∧ Aside0 (lpStep a0 ws ts (sc.drop j) (decide (j = 0)) i = some (rest, e0)) ∧ Aside0 (w10.heap.size ≤ wr.heap.size)) (fun _ v _ => sc.length - (intOf v).toNat)
  case atStart => exact ⟨0, 2, [], lo, rfl, Nat.zero_le _, rfl, rfl, HPS10, ⟨HOE.out _⟩, HFS, ⟨by simpa using HLP.out⟩, ⟨Nat.le_refl _⟩⟩
  case round =>
    clear HPS10 HFS HLP HOE
    obtain ⟨j, i, outs, rest, rfl, hj, hol, hor, HPS, HO, HF, HLP, HLE⟩ := hrel
    by_cases hlt : j < sc.length
    · have c0 : decide ((j : Int) < (sc.length : Int)) = true := decide_eq_true (by omega)
      obtain ⟨ad, e1, hx0, hx1, hx2⟩ := at_T39 (Kd.F_now HF.out) (j : Int) (by omega) (by omega)
      subst e1
      rw [Int.toNat_natCast] at hx0 hx1 hx2
      have hdr : sc.drop j = rd_T39 sc (j : Int) :: sc.drop (j + 1) := by
        rw [List.drop_eq_getElem_cons hlt]
        congr 1
        unfold rd_T39
        rw [Int.toNat_natCast, List.getD_eq_getElem?_getD, List.getElem?_eq_getElem hlt]
        rfl
      have hlp := HLP.out
      rw [hdr] at hlp
      obtain ⟨jj, v, i', l', hfst, hsc, hrest, rfl⟩ := lp_cons hlp
      clear hlp HLP hdr
      obtain ⟨S, hS⟩ : ∃ S, S = rd_T39 sc (j : Int) := ⟨_, rfl⟩
      rw [← hS] at hx0 hx1 hx2 hsc
      obtain ⟨S0, S1, S2⟩ := S
      have hsc : scStep a0 ws ts (S0 == 2) jj = some (v, i') := hsc
      have hx0 : wr.cell? (ad.add (j * 3)) = some (.int .i64 S0) := hx0
      have hTb := (MapKept.heap_alloc wr (.cells #[.int .i64 S0, .int .i64 S1, .string S2] 39)).1
      have HTB := Aside0.mk hTb
      have HPSA := Aside0.mk (HPS.out.below ((Below.refl _ _).alloc (Nat.le_refl _) (.cells #[.int .i64 S0, .int .i64 S1, .string S2] 39)))
      have HSZr : Aside0 (g4 + 3 < wr.heap.size) := ⟨HPS.out.o.2.2⟩
      have HSC := Aside0.mk hsc
      have HREST := Aside0.mk hrest
      have HFST := Aside0.mk hfst
      have hccA := HPSA.out.s.hc
      clear hTb hsc hrest hfst
      by_cases hj0 : j = 0
      · subst hj0
        have hz : ad.add (0 * 3) = ad := by rw [Nat.zero_mul]; exact addr_add_zero ad
        rw [hz] at hx0 hx1 hx2
        go_wp2_with fail
        rcases HFST.out with ⟨_, rfl⟩ | ⟨hbad, _⟩
        case inr => exact absurd hbad (by simp)
        have HOB : Aside0 (Kd.R (Kd.int .i64) 3 (wr.alloc (.cells #[.int .i64 S0, .int .i64 S1, .string S2] 39)) w.heap.size (fun k => w10.heap.size ≤ k) _ outs) := ⟨Kd.R_alloc HO.out _⟩
        have HFB : Aside0 (Kd.F k39 (wr.alloc (.cells #[.int .i64 S0, .int .i64 S1, .string S2] 39)) (fun k => (k ≠ g4 + 1 ∧ k ≠ g4 + 3) ∧ k < w10.heap.size) (some ad) sc.length sc) := ⟨Kd.F_alloc HF.out _⟩
        refine (scalar_step w.heap.size (by have := HPSA.out.o; omega) (by have := HPSA.out.o; omega) HPSA.out.b.size S0 S1 S2 v HPSA.out.s HSC.out).mono ?_
        rintro e wC ⟨rfl, hsC, hmC⟩
        have HPSC := Aside0.mk (HPSA.out.moved hsC hmC)
        have HOC : Aside0 (Kd.R (Kd.int .i64) 3 wC w.heap.size (fun k => w10.heap.size ≤ k) _ outs) := ⟨Kd.R_kept HOB.out hmC.2 (fun k hk => by have h1 : w10.heap.size ≤ k := hk; have h2 := HSZ10.out; omega)⟩
        have HFC : Aside0 (Kd.F k39 wC (fun k => (k ≠ g4 + 1 ∧ k ≠ g4 + 3) ∧ k < w10.heap.size) (some ad) sc.length sc) := ⟨Kd.F_kept HFB.out hmC.2 (fun k hk => by have h1 := hk.1; omega)⟩
        have HLC : Aside0 (w10.heap.size ≤ wC.heap.size) := ⟨Nat.le_trans HLE.out (Nat.le_trans (by simp) hmC.2.1)⟩
        clear hsC hmC
        have hlenO : outs.length ≤ 1000000 := by have := HSL.out; omega
        go_wp2_with ((with_reducible refine gate_builtin (b := .append) (xs := #[.tmp 87, .tmp 89]) rfl ?_); at_builtin; go_loud (refine Kd.R_append (Kd.int .i64) (w0 := w) w.heap.size rfl (.tmp 87) (.tmp 89) 22 3 (.int .i64 0) 8 rfl Try.underlying22 (by kernel_rfl) rfl (by decide) (by omega) _ outs v [.int .i64 v] (fun k => w10.heap.size ≤ k) (fun _ => False) rfl rfl ?aP (fun _ hk => hk.elim) ?aF ?aO ?aB ?aS ?aL ?_); (case aP => first | rfl | exact ⟨_, rfl⟩ | simp [Kd.int, Kd.scalar]); (case aF => exact (fun k hk => Nat.le_trans HLC.out hk)); (case aO => exact HOC.out); (case aB => exact HPSC.out.b); (case aS => exact HPSC.out.b.size); (case aL => omega); intro v6 w6 ho6 hb6 hg6 hat6; have HPS6 := Aside0.mk (HPSC.out.grown hb6 hg6 (fun k hk => (by have h1 := HOC.out.1 k hk; have h1' : w10.heap.size ≤ k := h1; have h2 := HSZ10.out; omega)) HLT.out); have HF6 : Aside0 (Kd.F k39 w6 (fun k => (k ≠ g4 + 1 ∧ k ≠ g4 + 3) ∧ k < w10.heap.size) (some ad) sc.length sc) := ⟨Kd.F_grown HFC.out hg6 (fun k hk he => (by have h1 := HOC.out.1 k he.symm; have h1' : w10.heap.size ≤ k := h1; have h3 := hk.2; omega))⟩; have HL6 : Aside0 (w10.heap.size ≤ w6.heap.size) := ⟨Nat.le_trans HLC.out hg6.size⟩; have HO6 := Aside0.mk ho6; clear ho6 hb6 hg6 hat6)
        refine ⟨⟨0 + 1, i', outs ++ [v], l', by go_num, by omega, by simp [hol], by rw [List.append_assoc]; exact hor, HPS6, HO6, HF6, ⟨HREST.out⟩, HL6⟩, by simp [intOf]; omega⟩
      · have cj : decide (0 < (j : Int)) = true := decide_eq_true (by omega)
        go_wp2_with fail
        obtain ⟨hbad, _⟩ | ⟨_, hA, hB, rfl⟩ := HFST.out
        · exact absurd (of_decide_eq_true hbad) hj0
        refine (accept_calls _ HPSA.out.s).mono ?_
        rw [show (⟨#[44]⟩ : ByteArray).toList = [44] from by kernel_rfl, hA]
        rintro e wB ⟨rfl, hwB⟩
        rw [if_pos rfl] at hwB
        have HPSB : Aside0 (PS w wB w.heap.size g3 g4 ts.length a0 4 n rec ws ts (i + 1)) := ⟨by rw [hwB]; exact HPSA.out.setA (by omega)⟩
        have hkAB : Kept (wr.alloc (.cells #[.int .i64 S0, .int .i64 S1, .string S2] 39)) wB (fun k => k = g4 + 1 ∨ k = g4 + 3) := by rw [hwB]; exact (Kept.refl _ _).setCell (.inl (.inl rfl)) _
        have HOB : Aside0 (Kd.R (Kd.int .i64) 3 wB w.heap.size (fun k => w10.heap.size ≤ k) _ outs) := ⟨Kd.R_kept (Kd.R_alloc HO.out _) hkAB (fun k hk => by have h1 : w10.heap.size ≤ k := hk; have h2 := HSZ10.out; omega)⟩
        have HFB : Aside0 (Kd.F k39 wB (fun k => (k ≠ g4 + 1 ∧ k ≠ g4 + 3) ∧ k < w10.heap.size) (some ad) sc.length sc) := ⟨Kd.F_kept (Kd.F_alloc HF.out _) hkAB (fun k hk => by have h1 := hk.1; omega)⟩
        have hy := blk_kept HTB.out hkAB (by have := HSZr.out; omega)
        have hy0 := blk_cell hy 0
        have hy1 := blk_cell hy 1
        have hy2 := blk_cell hy 2
        have hccB := HPSB.out.s.hc
        have HLEB : Aside0 (wr.heap.size ≤ wB.heap.size) := ⟨Nat.le_trans (by simp) hkAB.1⟩
        clear hwB hkAB hy hccA hx0 hx1 hx2
        go_wp2_with fail
        refine (scalar_step w.heap.size (by have := HPSB.out.o; omega) (by have := HPSB.out.o; omega) HPSB.out.b.size S0 S1 S2 v HPSB.out.s HSC.out).mono ?_
        rintro e wC ⟨rfl, hsC, hmC⟩
        have HPSC := Aside0.mk (HPSB.out.moved hsC hmC)
        have HOC : Aside0 (Kd.R (Kd.int .i64) 3 wC w.heap.size (fun k => w10.heap.size ≤ k) _ outs) := ⟨Kd.R_kept HOB.out hmC.2 (fun k hk => by have h1 : w10.heap.size ≤ k := hk; have h2 := HSZ10.out; omega)⟩
        have HFC : Aside0 (Kd.F k39 wC (fun k => (k ≠ g4 + 1 ∧ k ≠ g4 + 3) ∧ k < w10.heap.size) (some ad) sc.length sc) := ⟨Kd.F_kept HFB.out hmC.2 (fun k hk => by have h1 := hk.1; omega)⟩
        have HLC : Aside0 (w10.heap.size ≤ wC.heap.size) := ⟨Nat.le_trans HLE.out (Nat.le_trans HLEB.out hmC.2.1)⟩
        clear hsC hmC
        have hlenO : outs.length ≤ 1000000 := by have := HSL.out; omega
        go_wp2_with ((with_reducible refine gate_builtin (b := .append) (xs := #[.tmp 87, .tmp 89]) rfl ?_); at_builtin; go_loud (refine Kd.R_append (Kd.int .i64) (w0 := w) w.heap.size rfl (.tmp 87) (.tmp 89) 22 3 (.int .i64 0) 8 rfl Try.underlying22 (by kernel_rfl) rfl (by decide) (by omega) _ outs v [.int .i64 v] (fun k => w10.heap.size ≤ k) (fun _ => False) rfl rfl ?aP (fun _ hk => hk.elim) ?aF ?aO ?aB ?aS ?aL ?_); (case aP => first | rfl | exact ⟨_, rfl⟩ | simp [Kd.int, Kd.scalar]); (case aF => exact (fun k hk => Nat.le_trans HLC.out hk)); (case aO => exact HOC.out); (case aB => exact HPSC.out.b); (case aS => exact HPSC.out.b.size); (case aL => omega); intro v6 w6 ho6 hb6 hg6 hat6; have HPS6 := Aside0.mk (HPSC.out.grown hb6 hg6 (fun k hk => (by have h1 := HOC.out.1 k hk; have h1' : w10.heap.size ≤ k := h1; have h2 := HSZ10.out; omega)) HLT.out); have HF6 : Aside0 (Kd.F k39 w6 (fun k => (k ≠ g4 + 1 ∧ k ≠ g4 + 3) ∧ k < w10.heap.size) (some ad) sc.length sc) := ⟨Kd.F_grown HFC.out hg6 (fun k hk he => (by have h1 := HOC.out.1 k he.symm; have h1' : w10.heap.size ≤ k := h1; have h3 := hk.2; omega))⟩; have HL6 : Aside0 (w10.heap.size ≤ w6.heap.size) := ⟨Nat.le_trans HLC.out hg6.size⟩; have HO6 := Aside0.mk ho6; clear ho6 hb6 hg6 hat6)
        refine ⟨⟨j + 1, i', outs ++ [v], l', by go_num, by omega, by simp [hol], by rw [List.append_assoc]; exact hor, HPS6, HO6, HF6, ⟨HREST.out⟩, HL6⟩, by simp [intOf]; omega⟩
    · have c0 : decide ((j : Int) < (sc.length : Int)) = false := decide_eq_false (by omega)
      have hccA := HPS.out.s.hc
      go_wp2_with fail
      have hlp := HLP.out
      rw [List.drop_of_length_le (by omega)] at hlp
      have hlp2 : [] = rest ∧ i = e0 := by simpa [lpStep] using hlp
      obtain ⟨rfl, rfl⟩ := hlp2
      rw [List.append_nil] at hor
      subst hor
      have hcl : accB ws ts i [41] = true ∧ i + 1 < ws.length ∧ (rd_T74 ts ((i + 1 : Nat) : Int)).f0 = 5 := by
        have h := HCL.out
        simpa [clStep] using h
      obtain ⟨hA, hB, hK⟩ := hcl
      have HK := Aside0.mk hK
      refine (accept_calls _ HPS.out.s).mono ?_
      rw [show (⟨#[41]⟩ : ByteArray).toList = [41] from by kernel_rfl, hA]
      rintro e wB ⟨rfl, hwB⟩
      rw [if_pos rfl] at hwB
      have HPSB : Aside0 (PS w wB w.heap.size g3 g4 ts.length a0 4 n rec ws ts (i + 1)) := ⟨by rw [hwB]; exact HPS.out.setA (by omega)⟩
      have hkAB : Kept wr wB (fun k => k = g4 + 1 ∨ k = g4 + 3) := by rw [hwB]; exact (Kept.refl _ _).setCell (.inl (.inl rfl)) _
      have HOB : Aside0 (Kd.R (Kd.int .i64) 3 wB w.heap.size (fun k => w10.heap.size ≤ k) _ outs) := ⟨Kd.R_kept HO.out hkAB (fun k hk => by have h1 : w10.heap.size ≤ k := hk; have h2 := HSZ10.out; omega)⟩
      obtain ⟨_, _, ⟨A6, c6, hT6, hT6c⟩, ⟨ha6, _⟩, ⟨hf6, _⟩, _, _, _⟩ := HPSB.out.s
      obtain ⟨ad6, e6, hk6, _, _, _⟩ := at_T74 (Kd.F_now hT6) ((i + 1 : Nat) : Int) (by omega) (by omega)
      subst e6
      rw [Int.toNat_natCast, HK.out] at hk6
      have hm6 := Kd.C_max (Kd.F_now hT6)
      clear hwB hkAB hT6 hccA HPS HO HF HLP
      go_wp2_with fail
      go_ret2
      exact ⟨_, rfl, Kd.R_mono HOB.out (fun _ _ => trivial), HPSB.out.b⟩
set_option maxHeartbeats 4000000 in
set_option maxRecDepth 100000 in
theorem parse_0 (a0 k n : Int) (rec : ByteArray) (A2 : Option Addr) (c2 : Nat) (l2 : List S57) (text : ByteArray) (w : World) (hr2 : Kd.C k57 w A2 l2.length l2) (hc2 : l2.length ≤ c2)
    (hw : 2 ≤ a0 ∧ a0 ≤ 8) (hk : (Lit.int .i64 k).wf = true) (k3 : k ≠ 3) (k4 : k ≠ 4) (hv : validT k n rec l2 = true) (hl : (rd_T57 l2 (recIx l2 rec : Int)).f1.length ≤ 1000000) (ht : text.size ≤ 4096) (h0 : 0 < (tokT text).length) (out : List Int) (hp : parseW a0 (wordsP text (tokT text)) (tokT text) k rec (scalarsT k n rec l2) = some out) :
    Calls Try.prog 28 #[.int .i64 a0, .agg #[.int .i64 k, .int .i64 n, .string rec], .slice A2 l2.length c2, .string text] w fun e w' => ∃ v0_ : Value, e = .returned (.tuple #[v0_, .int .i64 0]) ∧ Kd.R (Kd.int .i64) 3 w' w.heap.size (fun _ => True) v0_ out ∧ Below w.heap.size w w' := by
  have hmf := mf_
  have HR := Aside0.mk hr2
  obtain ⟨ks, hks⟩ := Ev.rounds (lexer_Scan_ev text)
  obtain ⟨sc1, sc2, sc3⟩ := scan_ok ht
  rw [sc1] at hks
  change lexer_Scan.f ks text = some (tokT text, 0) at hks
  obtain ⟨kw, hkw⟩ := Ev.rounds (lexer_Words_ev text (tokT text) sc2 sc3)
  have hvv : types_Valid.f k n rec l2 = some true := by unfold types_Valid.f; rw [if_pos hk, hv]
  have hii := isWidth_eq a0 hw
  have HKS := Aside0.mk hks
  have HKW := Aside0.mk hkw
  have HVV := Aside0.mk hvv
  have HII := Aside0.mk hii
  have HP := Aside0.mk hp
  have hlen : (wordsP text (tokT text)).length = (tokT text).length := by simp [wordsP]
  generalize hws : wordsP text (tokT text) = ws at *
  generalize hts : tokT text = ts at *
  obtain ⟨N, hN⟩ : ∃ N, N = ts.length := ⟨_, rfl⟩
  have hF : ((w.alloc (.cells #[.int .i64 a0] 3)).alloc (.cells #[.int .i64 k, .int .i64 n, .string rec] 39)).heap[w.heap.size + 1]? = some (.cells #[.int .i64 k, .int .i64 n, .string rec] 39 (0, 0)) := by
    have h := (MapKept.heap_alloc (w.alloc (.cells #[.int .i64 a0] 3)) (.cells #[.int .i64 k, .int .i64 n, .string rec] 39)).1
    simpa using h
  have hF0 : ((w.alloc (.cells #[.int .i64 a0] 3)).alloc (.cells #[.int .i64 k, .int .i64 n, .string rec] 39)).cell? ⟨w.heap.size, 0, none⟩ = some (.int .i64 a0) :=
    (World.cell?_alloc_lt _ _ _ (by simp)).trans (blk_cell (MapKept.heap_alloc w _).1 0)
  have HT0 : Aside0 (TS ((w.alloc (.cells #[.int .i64 a0] 3)).alloc (.cells #[.int .i64 k, .int .i64 n, .string rec] 39)) w.heap.size a0 k n rec) := ⟨⟨hF0, blk_cell hF 0, blk_cell hF 1, blk_cell hF 2⟩⟩
  have HB0 : Aside0 (Below w.heap.size w ((w.alloc (.cells #[.int .i64 a0] 3)).alloc (.cells #[.int .i64 k, .int .i64 n, .string rec] 39))) := ⟨((Below.refl _ _).alloc (Nat.le_refl _) _).alloc (by simp) _⟩
  clear hks hkw hvv hii hp sc1 sc2 sc3 hr2 hF hF0
  go_enter Try.func28, Try.ntmps28
  go_wp2_with fail
  refine (value_isWidth.calls a0 true _ HII.out).mono ?_
  rintro e w1 ⟨rfl, hd1⟩
  have hb1 := Drawn0.below hd1
  have HT1 := Aside0.mk (HT0.out.below hb1)
  have HB1 : Aside0 (Below w.heap.size w w1) := ⟨HB0.out.trans (hb1.mono HB0.out.size)⟩
  obtain ⟨x1, x2, x3, x4⟩ := HT1.out
  clear hb1 hd1
  go_wp2_with fail
  refine (types_Valid.calls k n rec A2 c2 l2 true _ (Kd.C_below HR.out HB1.out) hc2 HVV.out).mono ?_
  rintro e w2 ⟨rfl, hb2⟩
  have HT2 := Aside0.mk (HT1.out.below hb2)
  have HB2 : Aside0 (Below w.heap.size w w2) := ⟨HB1.out.trans (hb2.mono HB1.out.size)⟩
  clear hb2 x1 x2 x3 x4
  go_wp2_with fail
  refine (lexer_Scan.calls ks text ts 0 _ HKS.out).mono ?_
  rintro e w3 ⟨v3, rfl, ho3, hb3⟩
  obtain ⟨A3, c3, rfl, hc3, hC3⟩ := Kd.R_reads ho3
  have HT3 := Aside0.mk (HT2.out.below hb3)
  have HB3 : Aside0 (Below w.heap.size w w3) := ⟨HB2.out.trans (hb3.mono HB2.out.size)⟩
  have HO3 := Aside0.mk ho3
  have HC3 := Aside0.mk hC3
  clear hb3 ho3 hC3
  go_wp2_with fail
  have HB4a : Aside0 (Below w.heap.size w (w3.alloc (.cells #[.slice A3 ts.length c3] 47))) := ⟨HB3.out.alloc HB3.out.size _⟩
  refine (lexer_Words.calls kw text A3 c3 ts ws _ (Kd.C_alloc HC3.out _) hc3 HKW.out).mono ?_
  rintro e w4 ⟨v4, rfl, ho4, hb4⟩
  obtain ⟨A4, c4, rfl, hc4, hC4⟩ := Kd.R_reads ho4
  have HB4 : Aside0 (Below w.heap.size w w4) := ⟨HB4a.out.trans (hb4.mono HB4a.out.size)⟩
  have hb34 : Below w3.heap.size w3 w4 := ((Below.refl _ _).alloc (Nat.le_refl _) _).trans (hb4.mono (by simp))
  have HT4 := Aside0.mk (HT3.out.below hb34)
  have hgt : w4.cell? ⟨w3.heap.size, 0, none⟩ = some (.slice A3 ts.length c3) := by
    have h := blk_cell (MapKept.heap_alloc w3 (.cells #[.slice A3 ts.length c3] 47)).1 0
    exact (hb4.cell (p := ⟨w3.heap.size, 0, none⟩) (by simp)).trans h
  have hf3 : Kd.F k74 w4 (fun k => True ∧ k < w3.heap.size) A3 ts.length ts := Kd.F_below (Kd.F_bound (Kd.R_F HO3.out)) hb34
  have hf4 : Kd.F Kd.string w4 (fun k => True ∧ k < w4.heap.size) A4 ws.length ws := Kd.F_bound (Kd.R_F ho4)
  have HF3 := Aside0.mk hf3
  have HF4 := Aside0.mk hf4
  have HGT := Aside0.mk hgt
  have HLT : Aside0 (w3.heap.size < w4.heap.size) := ⟨by have := hb4.size; simp at this; omega⟩
  clear hb4 hb34 ho4 hC4 hf3 hf4 hgt
  rw [hlen] at HF4
  obtain ⟨w8, hw8⟩ : ∃ w8, w8 = ((((w4.alloc (.cells #[.slice A4 ts.length c4] 51)).alloc (.cells #[.int .i64 0] 3)).alloc (.cells #[.func (.func 52) #[] #[.pointer (some ⟨w4.heap.size, 0, none⟩), .pointer (some ⟨w4.heap.size + 1, 0, none⟩), .pointer (some ⟨w3.heap.size, 0, none⟩)]] 43)).alloc (.cells #[.bool true] 4)) := ⟨_, rfl⟩
  have hb48 : Below w4.heap.size w4 w8 := by
    rw [hw8]
    exact ((((Below.refl _ _).alloc (Nat.le_refl _) _).alloc (by simp) _).alloc (by simp <;> omega) _).alloc (by simp <;> omega) _
  have HT8 := Aside0.mk (HT4.out.below hb48)
  have HB8 : Aside0 (Below w.heap.size w w8) := ⟨HB4.out.trans (hb48.mono HB4.out.size)⟩
  have hl1 := World.block_lt_of_cell? w4 _ HT4.out.c
  have HS8 : Aside0 (St w8 w4.heap.size (w4.heap.size + 1) w3.heap.size (w4.heap.size + 1 + 1 + 1) w.heap.size (w4.heap.size + 1 + 1) ts.length a0 ws ts 0) := by
    have hlt := HLT.out
    have b0 : w8.heap[w4.heap.size]? = some (.cells #[.slice A4 ts.length c4] 51 (0, 0)) := by
      rw [hw8, Below.heap_alloc _ _ _ (by simp <;> omega), Below.heap_alloc _ _ _ (by simp <;> omega), Below.heap_alloc _ _ _ (by simp <;> omega)]
      exact (MapKept.heap_alloc w4 _).1
    have b1 : w8.heap[w4.heap.size + 1]? = some (.cells #[.int .i64 0] 3 (0, 0)) := by
      rw [hw8, Below.heap_alloc _ _ _ (by simp <;> omega), Below.heap_alloc _ _ _ (by simp <;> omega)]
      have h := (MapKept.heap_alloc (w4.alloc (.cells #[.slice A4 ts.length c4] 51)) (.cells #[.int .i64 0] 3)).1
      simpa using h
    have b2 : w8.heap[w4.heap.size + 1 + 1]? = some (.cells #[.func (.func 52) #[] #[.pointer (some ⟨w4.heap.size, 0, none⟩), .pointer (some ⟨w4.heap.size + 1, 0, none⟩), .pointer (some ⟨w3.heap.size, 0, none⟩)]] 43 (0, 0)) := by
      rw [hw8, Below.heap_alloc _ _ _ (by simp <;> omega)]
      have h := (MapKept.heap_alloc ((w4.alloc (.cells #[.slice A4 ts.length c4] 51)).alloc (.cells #[.int .i64 0] 3)) (.cells #[.func (.func 52) #[] #[.pointer (some ⟨w4.heap.size, 0, none⟩), .pointer (some ⟨w4.heap.size + 1, 0, none⟩), .pointer (some ⟨w3.heap.size, 0, none⟩)]] 43)).1
      simpa using h
    have b3 : w8.heap[w4.heap.size + 1 + 1 + 1]? = some (.cells #[.bool true] 4 (0, 0)) := by
      rw [hw8]
      have h := (MapKept.heap_alloc (((w4.alloc (.cells #[.slice A4 ts.length c4] 51)).alloc (.cells #[.int .i64 0] 3)).alloc (.cells #[.func (.func 52) #[] #[.pointer (some ⟨w4.heap.size, 0, none⟩), .pointer (some ⟨w4.heap.size + 1, 0, none⟩), .pointer (some ⟨w3.heap.size, 0, none⟩)]] 43)) (.cells #[.bool true] 4)).1
      simpa using h
    refine ⟨⟨⟨hlen, rfl, h0⟩, ⟨A4, c4, ?_, blk_cell b0 0⟩, ⟨A3, c3, ?_, (hb48.cell (World.block_lt_of_cell? _ _ HGT.out)).trans HGT.out⟩, ⟨blk_cell b1 0, blk_frozen b1 0⟩, ⟨blk_cell b3 0, blk_frozen b3 0⟩, HT8.out.c, blk_cell b2 0, ?_⟩⟩
    · exact Kd.F_mono (Kd.F_below HF4.out hb48) (fun k hk => hk.2)
    · exact Kd.F_mono (Kd.F_below HF3.out hb48) (fun k hk => by have := hk.2; show k < w4.heap.size; omega)
    · have hle : w.heap.size < w4.heap.size := hl1
      omega
  have HPS : Aside0 (PS w w8 w.heap.size w3.heap.size w4.heap.size ts.length a0 k n rec ws ts 0) := ⟨⟨HB8.out, HT8.out, HS8.out, Nat.le_refl _, by have := World.block_lt_of_cell? w4 _ HT4.out.c0; simpa using this, by rw [hw8]; simp⟩⟩
  obtain ⟨x1, x2, x3, x4⟩ := HT8.out
  have hcc := HS8.out.hc
  rw [hw8] at x1 x2 x3 x4 hcc
  have HW8 := Aside0.mk hw8
  clear hw8
  have hsz8 : w.heap.size ≤ w8.heap.size := HB8.out.size
  clear HS8 HT8 HB8 HF3 HF4 HGT HB4 HB3 HB2 HB1 HT4 HT3 HT2 HT1 HB0 HT0 HO3 HC3 HB4a HKS HKW HVV hl1 hb48
  have hpw := HP.out
  unfold parseW at hpw
  split at hpw
  · cases hpw
  rename_i iop hop
  split at hpw
  · cases hpw
  rename_i lo e0 hlp
  split at hpw
  case isFalse => cases hpw
  rename_i hcl2
  obtain ⟨he0, hcl⟩ := hcl2
  obtain rfl := Option.some.inj hpw
  clear hpw HP
  have hop2 : 0 = iop := by simpa [opStep, k3, k4] using hop
  obtain rfl := hop2
  have hk3 : (k == 3) = false := beq_eq_false_iff_ne.mpr k3
  have hk4 : (k == 4) = false := beq_eq_false_iff_ne.mpr k4
  have hk3' : (3 == k) = false := beq_eq_false_iff_ne.mpr (Ne.symm k3)
  have hk4' : (4 == k) = false := beq_eq_false_iff_ne.mpr (Ne.symm k4)
  clear hop
  have HSC : Aside0 (types_Scalars.f l2 [(⟨k, n, rec⟩ : S39)] = some (scalarsT k n rec l2)) := ⟨by unfold types_Scalars.f; exact if_pos ⟨hv, hl⟩⟩
  have HCA := Aside0.mk (C39_new w8 k n rec)
  have hba : Below w8.heap.size w8 (w8.alloc (.cells #[.int .i64 k, .int .i64 n, .string rec] 39)) := (Below.refl _ _).alloc (Nat.le_refl _) _
  have HPSa := Aside0.mk (HPS.out.below hba)
  have HSZ9 : Aside0 (w4.heap.size + 3 < w8.heap.size) := ⟨HPS.out.o.2.2⟩
  clear hba
  have hs8 : w8.heap.size = w4.heap.size + 1 + 1 + 1 + 1 := by rw [HW8.out]; simp
  go_wp2_with fail
  rw [← HW8.out]
  try rw [← hs8]
  clear hs8
  have HLT0 := HLT
  clear x1 x2 x3 x4 hcc
  generalize hg3 : w3.heap.size = g3 at *
  generalize hg4 : w4.heap.size = g4 at *
  refine (types_Scalars.calls A2 c2 l2 (some ⟨w8.heap.size, 0, none⟩) 1 [(⟨k, n, rec⟩ : S39)] (scalarsT k n rec l2) _ (Kd.C_below HR.out HPSa.out.b) hc2 HCA.out (Nat.le_refl _) HSC.out).mono ?_
  rintro e w10 ⟨v10, rfl, ho10, hb10⟩
  have HPS10 := Aside0.mk (HPSa.out.below hb10)
  obtain ⟨A5, c5, rfl, hc5, hC5⟩ := Kd.R_reads ho10
  have HFS : Aside0 (Kd.F k39 w10 (fun k => (k ≠ g4 + 1 ∧ k ≠ g4 + 3) ∧ k < w10.heap.size) A5 (scalarsT k n rec l2).length (scalarsT k n rec l2)) := ⟨Kd.F_bound (Kd.R_F (Kd.R_mono (Kd.R_bound ho10) (fun k hk => by have h1 := hk.2.1; have h2 := HSZ9.out; simp at h1; omega)))⟩
  have hmax5 := Kd.C_max hC5
  have HO0 : ∀ W, Kd.R (Kd.int .i64) 3 W w.heap.size (fun k => w10.heap.size ≤ k) (.slice none 0 0) [] := fun W => Kd.R_nil _ _ _ _ _
  have HOE := Aside0.mk HO0
  clear ho10 hb10 hC5 HO0 HPSa HCA HSC HPS
  have HSL := Aside0.mk (scT_len k n rec l2 hv hl)
  have HSZ10 : Aside0 (g4 + 3 < w10.heap.size) := ⟨HPS10.out.o.2.2⟩
  generalize scalarsT k n rec l2 = sc at *
  have HLP := Aside0.mk hlp
  have HCL := Aside0.mk hcl
  have HE0 := Aside0.mk he0
  clear hlp hcl he0
  go_wp2_with fail
  go_loopw [19, 67] (fun v19 v67 wr => ∃ (j i : Nat) (outs rest : List Int), v67 = .int .i64 (j : Int) ∧ j ≤ sc.length ∧ outs.length = j ∧ outs ++ rest = lo ∧ Aside0 (PS w wr w.heap.size g3 g4 ts.length a0 k n rec ws ts i) ∧ Aside0 (Kd.R (Kd.int .i64) 3 wr w.heap.size (fun k => w10.heap.size ≤ k) v19 outs) ∧ Aside0 (Kd.F k39 wr (fun k => (k ≠ g4 + 1 ∧ k ≠ g4 + 3) ∧ k < w10.heap.size) A5 sc.length sc) ∧ Aside0 (lpStep a0 ws ts (sc.drop j) (decide (j = 0)) i = some (rest, e0)) ∧ Aside0 (w10.heap.size ≤ wr.heap.size)) (fun _ v _ => sc.length - (intOf v).toNat)
  case atStart => exact ⟨0, 0, [], lo, rfl, Nat.zero_le _, rfl, rfl, HPS10, ⟨HOE.out _⟩, HFS, ⟨by simpa using HLP.out⟩, ⟨Nat.le_refl _⟩⟩
  case round =>
    clear HPS10 HFS HLP HOE
    obtain ⟨j, i, outs, rest, rfl, hj, hol, hor, HPS, HO, HF, HLP, HLE⟩ := hrel
    by_cases hlt : j < sc.length
    · have c0 : decide ((j : Int) < (sc.length : Int)) = true := decide_eq_true (by omega)
      obtain ⟨ad, e1, hx0, hx1, hx2⟩ := at_T39 (Kd.F_now HF.out) (j : Int) (by omega) (by omega)
      subst e1
      rw [Int.toNat_natCast] at hx0 hx1 hx2
      have hdr : sc.drop j = rd_T39 sc (j : Int) :: sc.drop (j + 1) := by
        rw [List.drop_eq_getElem_cons hlt]
        congr 1
        unfold rd_T39
        rw [Int.toNat_natCast, List.getD_eq_getElem?_getD, List.getElem?_eq_getElem hlt]
        rfl
      have hlp := HLP.out
      rw [hdr] at hlp
      obtain ⟨jj, v, i', l', hfst, hsc, hrest, rfl⟩ := lp_cons hlp
      clear hlp HLP hdr
      obtain ⟨S, hS⟩ : ∃ S, S = rd_T39 sc (j : Int) := ⟨_, rfl⟩
      rw [← hS] at hx0 hx1 hx2 hsc
      obtain ⟨S0, S1, S2⟩ := S
      have hsc : scStep a0 ws ts (S0 == 2) jj = some (v, i') := hsc
      have hx0 : wr.cell? (ad.add (j * 3)) = some (.int .i64 S0) := hx0
      have hTb := (MapKept.heap_alloc wr (.cells #[.int .i64 S0, .int .i64 S1, .string S2] 39)).1
      have HTB := Aside0.mk hTb
      have HPSA := Aside0.mk (HPS.out.below ((Below.refl _ _).alloc (Nat.le_refl _) (.cells #[.int .i64 S0, .int .i64 S1, .string S2] 39)))
      have HSZr : Aside0 (g4 + 3 < wr.heap.size) := ⟨HPS.out.o.2.2⟩
      have HSC := Aside0.mk hsc
      have HREST := Aside0.mk hrest
      have HFST := Aside0.mk hfst
      have hccA := HPSA.out.s.hc
      clear hTb hsc hrest hfst
      by_cases hj0 : j = 0
      · subst hj0
        have hz : ad.add (0 * 3) = ad := by rw [Nat.zero_mul]; exact addr_add_zero ad
        rw [hz] at hx0 hx1 hx2
        go_wp2_with fail
        rcases HFST.out with ⟨_, rfl⟩ | ⟨hbad, _⟩
        case inr => exact absurd hbad (by simp)
        have HOB : Aside0 (Kd.R (Kd.int .i64) 3 (wr.alloc (.cells #[.int .i64 S0, .int .i64 S1, .string S2] 39)) w.heap.size (fun k => w10.heap.size ≤ k) _ outs) := ⟨Kd.R_alloc HO.out _⟩
        have HFB : Aside0 (Kd.F k39 (wr.alloc (.cells #[.int .i64 S0, .int .i64 S1, .string S2] 39)) (fun k => (k ≠ g4 + 1 ∧ k ≠ g4 + 3) ∧ k < w10.heap.size) (some ad) sc.length sc) := ⟨Kd.F_alloc HF.out _⟩
        refine (scalar_step w.heap.size (by have := HPSA.out.o; omega) (by have := HPSA.out.o; omega) HPSA.out.b.size S0 S1 S2 v HPSA.out.s HSC.out).mono ?_
        rintro e wC ⟨rfl, hsC, hmC⟩
        have HPSC := Aside0.mk (HPSA.out.moved hsC hmC)
        have HOC : Aside0 (Kd.R (Kd.int .i64) 3 wC w.heap.size (fun k => w10.heap.size ≤ k) _ outs) := ⟨Kd.R_kept HOB.out hmC.2 (fun k hk => by have h1 : w10.heap.size ≤ k := hk; have h2 := HSZ10.out; omega)⟩
        have HFC : Aside0 (Kd.F k39 wC (fun k => (k ≠ g4 + 1 ∧ k ≠ g4 + 3) ∧ k < w10.heap.size) (some ad) sc.length sc) := ⟨Kd.F_kept HFB.out hmC.2 (fun k hk => by have h1 := hk.1; omega)⟩
        have HLC : Aside0 (w10.heap.size ≤ wC.heap.size) := ⟨Nat.le_trans HLE.out (Nat.le_trans (by simp) hmC.2.1)⟩
        clear hsC hmC
        have hlenO : outs.length ≤ 1000000 := by have := HSL.out; omega
        go_wp2_with ((with_reducible refine gate_builtin (b := .append) (xs := #[.tmp 87, .tmp 89]) rfl ?_); at_builtin; go_loud (refine Kd.R_append (Kd.int .i64) (w0 := w) w.heap.size rfl (.tmp 87) (.tmp 89) 22 3 (.int .i64 0) 8 rfl Try.underlying22 (by kernel_rfl) rfl (by decide) (by omega) _ outs v [.int .i64 v] (fun k => w10.heap.size ≤ k) (fun _ => False) rfl rfl ?aP (fun _ hk => hk.elim) ?aF ?aO ?aB ?aS ?aL ?_); (case aP => first | rfl | exact ⟨_, rfl⟩ | simp [Kd.int, Kd.scalar]); (case aF => exact (fun k hk => Nat.le_trans HLC.out hk)); (case aO => exact HOC.out); (case aB => exact HPSC.out.b); (case aS => exact HPSC.out.b.size); (case aL => omega); intro v6 w6 ho6 hb6 hg6 hat6; have HPS6 := Aside0.mk (HPSC.out.grown hb6 hg6 (fun k hk => (by have h1 := HOC.out.1 k hk; have h1' : w10.heap.size ≤ k := h1; have h2 := HSZ10.out; omega)) HLT.out); have HF6 : Aside0 (Kd.F k39 w6 (fun k => (k ≠ g4 + 1 ∧ k ≠ g4 + 3) ∧ k < w10.heap.size) (some ad) sc.length sc) := ⟨Kd.F_grown HFC.out hg6 (fun k hk he => (by have h1 := HOC.out.1 k he.symm; have h1' : w10.heap.size ≤ k := h1; have h3 := hk.2; omega))⟩; have HL6 : Aside0 (w10.heap.size ≤ w6.heap.size) := ⟨Nat.le_trans HLC.out hg6.size⟩; have HO6 := Aside0.mk ho6; clear ho6 hb6 hg6 hat6)
        refine ⟨⟨0 + 1, i', outs ++ [v], l', by go_num, by omega, by simp [hol], by rw [List.append_assoc]; exact hor, HPS6, HO6, HF6, ⟨HREST.out⟩, HL6⟩, by simp [intOf]; omega⟩
      · have cj : decide (0 < (j : Int)) = true := decide_eq_true (by omega)
        go_wp2_with fail
        obtain ⟨hbad, _⟩ | ⟨_, hA, hB, rfl⟩ := HFST.out
        · exact absurd (of_decide_eq_true hbad) hj0
        refine (accept_calls _ HPSA.out.s).mono ?_
        rw [show (⟨#[44]⟩ : ByteArray).toList = [44] from by kernel_rfl, hA]
        rintro e wB ⟨rfl, hwB⟩
        rw [if_pos rfl] at hwB
        have HPSB : Aside0 (PS w wB w.heap.size g3 g4 ts.length a0 k n rec ws ts (i + 1)) := ⟨by rw [hwB]; exact HPSA.out.setA (by omega)⟩
        have hkAB : Kept (wr.alloc (.cells #[.int .i64 S0, .int .i64 S1, .string S2] 39)) wB (fun k => k = g4 + 1 ∨ k = g4 + 3) := by rw [hwB]; exact (Kept.refl _ _).setCell (.inl (.inl rfl)) _
        have HOB : Aside0 (Kd.R (Kd.int .i64) 3 wB w.heap.size (fun k => w10.heap.size ≤ k) _ outs) := ⟨Kd.R_kept (Kd.R_alloc HO.out _) hkAB (fun k hk => by have h1 : w10.heap.size ≤ k := hk; have h2 := HSZ10.out; omega)⟩
        have HFB : Aside0 (Kd.F k39 wB (fun k => (k ≠ g4 + 1 ∧ k ≠ g4 + 3) ∧ k < w10.heap.size) (some ad) sc.length sc) := ⟨Kd.F_kept (Kd.F_alloc HF.out _) hkAB (fun k hk => by have h1 := hk.1; omega)⟩
        have hy := blk_kept HTB.out hkAB (by have := HSZr.out; omega)
        have hy0 := blk_cell hy 0
        have hy1 := blk_cell hy 1
        have hy2 := blk_cell hy 2
        have hccB := HPSB.out.s.hc
        have HLEB : Aside0 (wr.heap.size ≤ wB.heap.size) := ⟨Nat.le_trans (by simp) hkAB.1⟩
        clear hwB hkAB hy hccA hx0 hx1 hx2
        go_wp2_with fail
        refine (scalar_step w.heap.size (by have := HPSB.out.o; omega) (by have := HPSB.out.o; omega) HPSB.out.b.size S0 S1 S2 v HPSB.out.s HSC.out).mono ?_
        rintro e wC ⟨rfl, hsC, hmC⟩
        have HPSC := Aside0.mk (HPSB.out.moved hsC hmC)
        have HOC : Aside0 (Kd.R (Kd.int .i64) 3 wC w.heap.size (fun k => w10.heap.size ≤ k) _ outs) := ⟨Kd.R_kept HOB.out hmC.2 (fun k hk => by have h1 : w10.heap.size ≤ k := hk; have h2 := HSZ10.out; omega)⟩
        have HFC : Aside0 (Kd.F k39 wC (fun k => (k ≠ g4 + 1 ∧ k ≠ g4 + 3) ∧ k < w10.heap.size) (some ad) sc.length sc) := ⟨Kd.F_kept HFB.out hmC.2 (fun k hk => by have h1 := hk.1; omega)⟩
        have HLC : Aside0 (w10.heap.size ≤ wC.heap.size) := ⟨Nat.le_trans HLE.out (Nat.le_trans HLEB.out hmC.2.1)⟩
        clear hsC hmC
        have hlenO : outs.length ≤ 1000000 := by have := HSL.out; omega
        go_wp2_with ((with_reducible refine gate_builtin (b := .append) (xs := #[.tmp 87, .tmp 89]) rfl ?_); at_builtin; go_loud (refine Kd.R_append (Kd.int .i64) (w0 := w) w.heap.size rfl (.tmp 87) (.tmp 89) 22 3 (.int .i64 0) 8 rfl Try.underlying22 (by kernel_rfl) rfl (by decide) (by omega) _ outs v [.int .i64 v] (fun k => w10.heap.size ≤ k) (fun _ => False) rfl rfl ?aP (fun _ hk => hk.elim) ?aF ?aO ?aB ?aS ?aL ?_); (case aP => first | rfl | exact ⟨_, rfl⟩ | simp [Kd.int, Kd.scalar]); (case aF => exact (fun k hk => Nat.le_trans HLC.out hk)); (case aO => exact HOC.out); (case aB => exact HPSC.out.b); (case aS => exact HPSC.out.b.size); (case aL => omega); intro v6 w6 ho6 hb6 hg6 hat6; have HPS6 := Aside0.mk (HPSC.out.grown hb6 hg6 (fun k hk => (by have h1 := HOC.out.1 k hk; have h1' : w10.heap.size ≤ k := h1; have h2 := HSZ10.out; omega)) HLT.out); have HF6 : Aside0 (Kd.F k39 w6 (fun k => (k ≠ g4 + 1 ∧ k ≠ g4 + 3) ∧ k < w10.heap.size) (some ad) sc.length sc) := ⟨Kd.F_grown HFC.out hg6 (fun k hk he => (by have h1 := HOC.out.1 k he.symm; have h1' : w10.heap.size ≤ k := h1; have h3 := hk.2; omega))⟩; have HL6 : Aside0 (w10.heap.size ≤ w6.heap.size) := ⟨Nat.le_trans HLC.out hg6.size⟩; have HO6 := Aside0.mk ho6; clear ho6 hb6 hg6 hat6)
        refine ⟨⟨j + 1, i', outs ++ [v], l', by go_num, by omega, by simp [hol], by rw [List.append_assoc]; exact hor, HPS6, HO6, HF6, ⟨HREST.out⟩, HL6⟩, by simp [intOf]; omega⟩
    · have c0 : decide ((j : Int) < (sc.length : Int)) = false := decide_eq_false (by omega)
      have hccA := HPS.out.s.hc
      have hlp := HLP.out
      rw [List.drop_of_length_le (by omega)] at hlp
      have hlp2 : [] = rest ∧ i = e0 := by simpa [lpStep] using hlp
      obtain ⟨rfl, rfl⟩ := hlp2
      rw [List.append_nil] at hor
      subst hor
      have hK : (rd_T74 ts (i : Int)).f0 = 5 := by
        have h := HCL.out
        simpa [clStep, k3, k4] using h
      have HK := Aside0.mk hK
      have hiN := HE0.out
      obtain ⟨_, _, ⟨A6, c6, hT6, hT6c⟩, ⟨ha6, _⟩, ⟨hf6, _⟩, _, _, _⟩ := HPS.out.s
      obtain ⟨ad6, e6, hk6, _, _, _⟩ := at_T74 (Kd.F_now hT6) (i : Int) (by omega) (by omega)
      subst e6
      rw [Int.toNat_natCast, HK.out] at hk6
      have hm6 := Kd.C_max (Kd.F_now hT6)
      clear hT6 hccA HF HLP
      go_wp2
      go_ret2
      exact ⟨_, rfl, Kd.R_mono HO.out (fun _ _ => trivial), HPS.out.b⟩
theorem value_Parse.calls (a0 a1_0 a1_1 : Int) (a1_2 : ByteArray) (A2 : Option Addr) (c2 : Nat) (l2 : List S57) (a3 : ByteArray) (r1 : List Int) (r2 : Int) (w : World) (hr2 : Kd.C k57 w A2 l2.length l2) (hc2 : l2.length ≤ c2) (h : value_Parse.f a0 a1_0 a1_1 a1_2 l2 a3 = some (r1, r2)) :
    Calls Try.prog 28 #[.int .i64 a0, .agg #[.int .i64 a1_0, .int .i64 a1_1, .string a1_2], .slice A2 l2.length c2, .string a3] w fun e w' => ∃ v0_ : Value, e = .returned (.tuple #[v0_, .int .i64 r2]) ∧ Kd.R (Kd.int .i64) 3 w' w.heap.size (fun _ => True) v0_ r1 ∧ Below w.heap.size w w' := by
  unfold value_Parse.f at h
  split at h
  · rename_i hc
    obtain ⟨hw, hk, hv, hl, ht, h0⟩ := hc
    split at h
    · rename_i l hp
      simp only [Option.some.injEq, Prod.mk.injEq] at h
      obtain ⟨rfl, rfl⟩ := h
      by_cases k3 : a1_0 = 3
      · subst k3; exact parse_3 a0 a1_1 a1_2 A2 c2 l2 a3 w hr2 hc2 hw hk hv hl ht h0 _ hp
      by_cases k4 : a1_0 = 4
      · subst k4; exact parse_4 a0 a1_1 a1_2 A2 c2 l2 a3 w hr2 hc2 hw hk hv hl ht h0 _ hp
      · exact parse_0 a0 a1_0 a1_1 a1_2 A2 c2 l2 a3 w hr2 hc2 hw hk k3 k4 hv hl ht h0 _ hp
    · cases h
  · cases h
end Go.Proofs.Ytogknojocodhgaa.P
end
