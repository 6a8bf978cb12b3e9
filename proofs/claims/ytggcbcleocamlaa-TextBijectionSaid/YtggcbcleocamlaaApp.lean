import Derived.Test.YtggcbcleocamlaaPx13
import Derived.Test.YtggcbcleocamlaaBld
import Derived.Test.YtggcbcleocamlaaShelf
import Derived.Lib.Strings
import Derived.Lib.Slices
import Derived.Lib.Walk
import Derived.Lib.Builder
import Derived.Lib.AppendStr
import Derived.Maps.Own
namespace Go.Proofs.Ytggcbcleocamlaa.P
open Go.RowKit Go.WideMaps Go.Proofs.YtggcbcleocamlaaW.PrintWords Go.Proofs.YtggcbcleocamlaaW.PrintLast Go.Proofs.YtggcbcleocamlaaW.PrintMore
set_option linter.unusedVariables false
set_option linter.unusedSimpArgs false

theorem cell_blk {w : World} {g i : Nat} {cs : Array Value} {t : TypeId} {fr : Nat × Nat} (h : w.heap[g]? = some (.cells cs t fr)) : w.cell? ⟨g, i, none⟩ = cs[i]? := by simp [World.cell?, h]
theorem unfrozen_blk {w : World} {g i : Nat} {cs : Array Value} {t : TypeId} (h : w.heap[g]? = some (.cells cs t (0, 0))) : w.frozen? ⟨g, i, none⟩ = false := by simp [World.frozen?, h]
set_option maxHeartbeats 2000000 in
set_option maxRecDepth 100000 in
theorem upTo_any (B bb bs ba : Nat) (xs : List Value) (s : ByteArray) (fr : Nat × Nat) (a e : Nat) (w : World) (h : Lib.IsBuilder 58 5 B bb xs w) (hB : B ≤ w.heap.size) (hBA : B ≤ ba)
    (hS : w.heap[bs]? = some (.cells #[.string s] 9 fr)) (hA : w.heap[ba]? = some (.cells #[.int .i64 a] 3 (0, 0))) (n1 : bs ≠ bb) (n2 : ba ≠ bb) (n3 : bs ≠ ba) (hae : a ≤ e) (hes : e ≤ s.size) (hsz : s.size ≤ 140737488351232) (hlen : xs.length + (e - a) ≤ 140737488355328) :
    Calls Try.prog 32 #[.int .i64 (e : Int), .pointer (some ⟨bb, 0, none⟩), .pointer (some ⟨bs, 0, none⟩), .pointer (some ⟨ba, 0, none⟩)] w fun en w' => en = .returned (.tuple #[]) ∧ Lib.IsBuilder 58 5 B bb (xs ++ Lib.strCells (s.extract a e)) w' ∧ Below B w w'
      ∧ w'.heap[bs]? = some (.cells #[.string s] 9 fr) ∧ w'.heap[ba]? = some (.cells #[.int .i64 e] 3 (0, 0)) ∧ w.heap.size ≤ w'.heap.size ∧ ∀ k o, w.heap[k]? = some o → k ≠ bb → k ≠ ba → (∀ cs fr, o ≠ .cells cs 5 fr) → w'.heap[k]? = some o := by
  have cS : w.cell? ⟨bs, 0, none⟩ = some (.string s) := by rw [cell_blk hS]; rfl
  have cA : w.cell? ⟨ba, 0, none⟩ = some (.int .i64 a) := by rw [cell_blk hA]; rfl
  have H := Aside0.mk h
  have HS := Aside0.mk hS
  have HA := Aside0.mk hA
  clear h hS hA
  go_enter Try.func32, Try.ntmps32
  go_wp2_with fail
  refine (writeString_any B bb xs (s.extract a e) w H.out (by rw [ByteArray.size_extract]; omega) hB).mono ?_
  rintro en w1 ⟨rfl, h1, hb1, hx1⟩
  have hA1 := hx1 ba _ HA.out n2 (by intro cs f e2; cases e2)
  have hS1 := hx1 bs _ HS.out n1 (by intro cs f e2; cases e2)
  have H1 := Aside0.mk h1
  have HX := Aside0.mk hx1
  have fA : w1.frozen? ⟨ba, 0, none⟩ = false := unfrozen_blk hA1
  have cA1 : w1.cell? ⟨ba, 0, none⟩ = some (.int .i64 a) := by rw [cell_blk hA1]; rfl
  have HA1 := Aside0.mk hA1
  have HS1 := Aside0.mk hS1
  clear hA1 hS1 h1 hx1
  go_wp2
  go_end0
  have hk : ∀ k, k ≠ ba → (w1.setCell ⟨ba, 0, none⟩ (.int .i64 e)).heap[k]? = w1.heap[k]? := fun k hk => Below.heap_setCell _ _ _ _ hk
  obtain ⟨hBb, v, hbk, hown, hne⟩ := H1.out
  refine ⟨rfl, .inr ⟨hBb, v, ?_, ?_, hne⟩, hb1.setCell (p := ⟨ba, 0, none⟩) hBA _, ?_, ?_, ?_, ?_⟩
  · rw [hk bb (Ne.symm n2)]; exact hbk
  · refine hown.kept (row := some ba) ⟨rfl, rfl, rfl, by simp [World.setCell], fun k _ hk2 => hk k (fun e2 => hk2 (by rw [e2]))⟩ (.inr ?_)
    intro e2
    rcases hown.2 with ⟨hv, _⟩ | ⟨g, cap, cur, hv, _, hg, _⟩
    · rw [hv] at e2; simp [Value.ownBlock] at e2
    · rw [hv] at e2
      have e3 : g = ba := by simpa [Value.ownBlock] using e2
      subst e3
      rw [HA1.out] at hg
      cases hg
  · rw [hk bs n3]; exact HS1.out
  · simp [World.setCell, Array.getElem?_modify, HA1.out]
  · have := hb1.size; simp [World.setCell]; omega
  · intro k o h2 h3 h4 h5
    rw [hk k h4]
    exact HX.out k o h2 h3 h5

theorem ext_len (s : ByteArray) (a e : Nat) (h : e ≤ s.size) : (s.extract a e).data.size = e - a := by
  show (s.extract a e).size = e - a
  rw [ByteArray.size_extract]; omega
theorem alloc_keeps {w : World} {o : Obj} {k : Nat} {x : Obj} (h : w.heap[k]? = some x) : (w.alloc o).heap[k]? = some x := by
  have hlt : k < w.heap.size := (Array.getElem?_eq_some_iff.1 h).1
  rw [Lib.alloc_old w o k hlt]; exact h
theorem isBuilder_keep {T e : TypeId} {B b : Nat} {bs : List Value} {w w' : World} (h : Lib.IsBuilder T e B b bs w) (hk : ∀ (k : Nat) (o : Obj), w.heap[k]? = some o → w'.heap[k]? = some o) : Lib.IsBuilder T e B b bs w' := by
  have go : ∀ p, Lib.BuilderAt T e B b p bs w → Lib.BuilderAt T e B b p bs w' := by
    rintro p ⟨hB, v, hb, hown, hne⟩
    refine ⟨hB, v, hk _ _ hb, own_move hown (fun k h2 => ?_), hne⟩
    obtain ⟨cells, hc⟩ := own_typed hown k h2
    rw [hc]; exact hk _ _ hc
  rcases h with h | h
  · exact .inl (go _ h)
  · exact .inr (go _ h)
def applyB (s : ByteArray) : List S24 → Int → List UInt8
  | [], a => (s.extract a.toNat s.size).data.toList
  | x :: r, a => (s.extract a.toNat x.f0.toNat).data.toList ++ (x.f2.data.toList ++ applyB s r x.f1)
def okApply (s : ByteArray) : List S24 → Int → Bool
  | [], a => decide (0 ≤ a ∧ a ≤ s.size)
  | x :: r, a => decide (0 ≤ a ∧ a ≤ x.f0 ∧ x.f0 ≤ s.size) && okApply s r x.f1
def text_Apply.f (k : Nat) (a0 : ByteArray) (l1 : List S24) : Option (ByteArray × Int) :=
  if a0.size ≤ 140737488351232 then
    (text_fits.f k a0 l1).bind fun e => if e = 0 then (if okApply a0 l1 0 = true ∧ (applyB a0 l1 0).length ≤ 1000000 then some (⟨(applyB a0 l1 0).toArray⟩, 0) else none) else some (⟨#[]⟩, e)
  else none
theorem text_Apply.mono : ∀ a0 a1 k, LeO (text_Apply.f k a0 a1) (text_Apply.f (k + 1) a0 a1) := by
  intro a0 a1 k
  unfold text_Apply.f
  exact LeO.ite (LeO.bind (text_fits.mono _ _ _) (fun _ => LeO.refl _)) (LeO.refl _)
set_option maxHeartbeats 4000000 in
set_option maxRecDepth 100000 in
theorem text_Apply.calls (k : Nat) (a0 : ByteArray) (A1 : Option Addr) (c1 : Nat) (l1 : List S24) (r1 : ByteArray) (r2 : Int) (w : World) (hr1 : Kd.C k24 w A1 l1.length l1) (hc1 : l1.length ≤ c1) (h : text_Apply.f k a0 l1 = some (r1, r2)) :
    Calls Try.prog 11 #[.string a0, .slice A1 l1.length c1] w fun e w' => e = .returned (.tuple #[.string r1, .int .i64 r2]) ∧ Below w.heap.size w w' := by
  unfold text_Apply.f at h
  by_cases hsz : a0.size ≤ 140737488351232
  · rw [if_pos hsz] at h
    have h_ := Option.bind_eq_some_iff.mp h
    clear h
    obtain ⟨e, he, h⟩ := h_
    have HE := Aside0.mk he
    have HR := Aside0.mk hr1
    clear he hr1
    have hmf : ∀ (fn : Fn) (first cap : Array Value) (w : World), (Instr.makeFunc fn first cap).run Try.prog w = .ok (.func fn first cap) w := fun _ _ _ _ => rfl
    by_cases h0 : e = 0
    · rw [if_pos h0] at h
      subst h0
      by_cases ho : okApply a0 l1 0 = true ∧ (applyB a0 l1 0).length ≤ 1000000
      · rw [if_pos ho] at h
        obtain ⟨rfl, rfl⟩ : (⟨(applyB a0 l1 0).toArray⟩ : ByteArray) = r1 ∧ 0 = r2 := by simpa using h
        have HO := Aside0.mk ho
        clear h ho
        have HW := Aside0.mk (Below.refl w.heap.size w)
        go_enter Try.func11, Try.ntmps11
        go_wp2_with fail
        refine (text_fits.calls k a0 A1 c1 l1 0 _ (Kd.C_alloc HR.out _) hc1 HE.out).mono ?_
        rintro e w1 ⟨rfl, hb1⟩
        have hs1 : w1.heap[w.heap.size]? = some (.cells #[.string a0] 9 (0, 0)) := by
          rw [hb1.block _ (by simp)]; exact (MapKept.heap_alloc w _).1
        have hsz1 : w.heap.size + 1 ≤ w1.heap.size := by have := hb1.size; simpa using this
        have HS1 := Aside0.mk hs1
        have HB1 : Aside0 (Below w.heap.size w w1) := ⟨((Below.refl w.heap.size w).alloc (Nat.le_refl _) _).trans (hb1.mono (by simp))⟩
        clear hs1 hb1
        go_wp2_with fail
        have hbld : Lib.IsBuilder 58 5 w1.heap.size w1.heap.size (Lib.byteCells []) ((w1.alloc (.cells #[.pointer none, .slice none 0 0] 58)).alloc (.cells #[.int .i64 0] 3)) :=
          isBuilder_keep (Lib.fresh_isBuilder 58 5 w1) (fun k o hk => alloc_keeps hk)
        have HBLD := Aside0.mk hbld
        have hat : ((w1.alloc (.cells #[.pointer none, .slice none 0 0] 58)).alloc (.cells #[.int .i64 0] 3)).heap[w1.heap.size + 1]? = some (.cells #[.int .i64 ((0 : Nat) : Int)] 3 (0, 0)) := by
          have e := (MapKept.heap_alloc (w1.alloc (.cells #[.pointer none, .slice none 0 0] 58)) (.cells #[.int .i64 0] 3)).1
          simpa using e
        have HAT := Aside0.mk hat
        have HS2 : Aside0 (((w1.alloc (.cells #[.pointer none, .slice none 0 0] 58)).alloc (.cells #[.int .i64 0] 3)).heap[w.heap.size]? = some (.cells #[.string a0] 9 (0, 0))) := ⟨alloc_keeps (alloc_keeps HS1.out)⟩
        have HB2 : Aside0 (Below w.heap.size w ((w1.alloc (.cells #[.pointer none, .slice none 0 0] 58)).alloc (.cells #[.int .i64 0] 3))) := ⟨(HB1.out.alloc (by omega) _).alloc (by simp; omega) _⟩
        have HZ : Aside0 (w1.heap.size + 2 ≤ ((w1.alloc (.cells #[.pointer none, .slice none 0 0] 58)).alloc (.cells #[.int .i64 0] 3)).heap.size) := ⟨by simp⟩
        have HF : Aside0 ([] ++ applyB a0 (l1.drop 0) ((0 : Nat) : Int) = applyB a0 l1 0) := ⟨rfl⟩
        have HK : Aside0 (okApply a0 (l1.drop 0) ((0 : Nat) : Int) = true) := ⟨HO.out.1⟩
        have HL : Aside0 ((applyB a0 l1 0).length ≤ 1000000) := ⟨HO.out.2⟩
        have HN := Aside0.mk (Kd.C_max HR.out)
        clear hbld hat HW HO
        generalize hfull : applyB a0 l1 0 = full at HF HL ⊢
        have HFULL := Aside0.mk hfull
        clear hfull
        go_loopw [21] (fun v wr => ∃ (j a : Nat) (acc : List UInt8), v = .int .i64 (j : Int) ∧ j ≤ l1.length ∧ Aside0 (Lib.IsBuilder 58 5 w1.heap.size w1.heap.size (Lib.byteCells acc) wr) ∧ Aside0 (wr.heap[w1.heap.size + 1]? = some (.cells #[.int .i64 (a : Int)] 3 (0, 0))) ∧ Aside0 (wr.heap[w.heap.size]? = some (.cells #[.string a0] 9 (0, 0))) ∧ Aside0 (Below w.heap.size w wr) ∧ Aside0 (w1.heap.size + 2 ≤ wr.heap.size) ∧ Aside0 (acc ++ applyB a0 (l1.drop j) (a : Int) = full) ∧ Aside0 (okApply a0 (l1.drop j) (a : Int) = true)) (fun v _ => l1.length - (intOf v).toNat)
        case atStart => exact ⟨0, 0, [], rfl, by omega, HBLD, HAT, HS2, HB2, HZ, HF, HK⟩
        case round =>
          clear HBLD HAT HS2 HB2 HZ HF HK HS1 HB1
          obtain ⟨j, a, acc, rfl, hj, HBLD, HAT, HS2, HB2, HZ, HF, HK⟩ := hrel
          have hn := HN.out
          by_cases hlt : j < l1.length
          · have hx : l1.drop j = l1[j] :: l1.drop (j + 1) := List.drop_eq_getElem_cons hlt
            have hrd : rd_T24 l1 (j : Int) = l1[j] := by simp [rd_T24, hlt]
            obtain ⟨ad, rfl, hx0, hx1, hx9⟩ := at_T24 (Kd.C_below HR.out (HB2.out)) (j : Int) (by omega) (by omega)
            rw [hrd, Int.toNat_natCast] at hx0 hx1 hx9
            have hok : (0 ≤ (a : Int) ∧ (a : Int) ≤ l1[j].f0 ∧ l1[j].f0 ≤ a0.size) ∧ okApply a0 (l1.drop (j + 1)) l1[j].f1 = true := by have := HK.out; rw [hx] at this; simpa [okApply] using this
            have hful := HF.out
            rw [hx] at hful
            simp only [applyB] at hful
            have hf1 : 0 ≤ l1[j].f1 := by
              have := hok.2
              cases hd : l1.drop (j + 1) <;> rw [hd] at this <;> simp [okApply] at this <;> omega
            clear HR HF HK hrd hx
            generalize l1[j] = x at *
            obtain ⟨e0, he0⟩ := Int.eq_ofNat_of_zero_le (by omega : 0 ≤ x.f0)
            obtain ⟨e1, he1⟩ := Int.eq_ofNat_of_zero_le hf1
            rw [he0] at hx0 hok hful
            rw [he1] at hx1 hok hful
            have HOK := Aside0.mk hok
            have HFU := Aside0.mk hful
            clear hok hful hf1 he0 he1
            have hz := HZ.out
            have ho1 := HOK.out.1
            have hlen : acc.length + (e0 - a) + x.f2.size ≤ 1000000 := by
              have e := congrArg List.length HFU.out
              have hl := HL.out
              simp only [List.length_append, Array.length_toList] at e
              have s1 : (a0.extract ((a : Int)).toNat ((e0 : Int)).toNat).data.size = e0 - a := by
                rw [ext_len a0 _ _ (by omega)]; omega
              have s2 : x.f2.data.size = x.f2.size := rfl
              omega
            go_wp2_with fail
            refine (upTo_any w1.heap.size w1.heap.size w.heap.size (w1.heap.size + 1) (Lib.byteCells acc) a0 (0, 0) a e0 _ (isBuilder_keep HBLD.out (fun k o h => alloc_keeps h)) (by simp; omega) (by omega) (alloc_keeps HS2.out) (alloc_keeps HAT.out) (by omega) (by omega) (by omega) (by omega) (by omega) hsz (by rw [Lib.byteCells_length]; omega)).mono ?_
            rintro en w2 ⟨rfl, h1, hb2, hS2, hA2, hz2, hx2⟩
            have hX := hx2 wr.heap.size _ (MapKept.heap_alloc wr _).1 (by omega) (by omega) (by intro cs fr h; cases h)
            have HB3 : Aside0 (Below w.heap.size w w2) := ⟨((HB2.out.alloc (by omega) _)).trans (hb2.mono (by omega))⟩
            have hz3 : w1.heap.size + 3 ≤ w2.heap.size := by simp at hz2; omega
            have H1 := Aside0.mk h1
            have HX := Aside0.mk hX
            have HS3 := Aside0.mk hS2
            have HA3 := Aside0.mk hA2
            have x1 : w2.cell? ⟨wr.heap.size, 1, none⟩ = some (.int .i64 (e1 : Int)) := by rw [cell_blk hX]; rfl
            have x2 : w2.cell? ⟨wr.heap.size, 2, none⟩ = some (.string x.f2) := by rw [cell_blk hX]; rfl
            clear h1 hb2 hS2 hA2 hz2 hx2 hX hx0 hx1 hx9 HBLD HAT HS2 HB2
            go_wp2_with fail
            refine (writeString_any w1.heap.size w1.heap.size (Lib.byteCells acc ++ Lib.strCells (a0.extract a e0)) x.f2 w2 H1.out (by rw [List.length_append, Lib.byteCells_length, Lib.strCells_length, ByteArray.size_extract]; omega) (by omega)).mono ?_
            rintro en w3 ⟨rfl, h1, hb3, hx3⟩
            have hA3 := hx3 _ _ HA3.out (by omega) (by intro cs fr h; cases h)
            have hS3 := hx3 _ _ HS3.out (by omega) (by intro cs fr h; cases h)
            have hX3 := hx3 _ _ HX.out (by omega) (by intro cs fr h; cases h)
            have y1 : w3.cell? ⟨wr.heap.size, 1, none⟩ = some (.int .i64 (e1 : Int)) := by rw [cell_blk hX3]; rfl
            have yA : w3.cell? ⟨w1.heap.size + 1, 0, none⟩ = some (.int .i64 (e0 : Int)) := by rw [cell_blk hA3]; rfl
            have fA : w3.frozen? ⟨w1.heap.size + 1, 0, none⟩ = false := unfrozen_blk hA3
            have H4 := Aside0.mk h1
            have HA4 := Aside0.mk hA3
            have HS4 := Aside0.mk hS3
            have HB4 : Aside0 (Below w.heap.size w w3) := ⟨HB3.out.trans (hb3.mono (by omega))⟩
            have hz4 : w1.heap.size + 3 ≤ w3.heap.size := by have := hb3.size; omega
            clear h1 hb3 hx3 hA3 hS3 hX3 x1 x2 HX HS3 HA3 H1 HB3
            go_wp2
            have hk : ∀ k, k ≠ w1.heap.size + 1 → (w3.setCell ⟨w1.heap.size + 1, 0, none⟩ (.int .i64 e1)).heap[k]? = w3.heap[k]? := fun k hk => Below.heap_setCell _ _ _ _ hk
            have HK := Aside0.mk hk
            clear hk
            go_roundw
            case rel =>
              obtain ⟨hBb, v, hbk, hown, hne⟩ := H4.out
              refine ⟨j + 1, e1, acc ++ ((a0.extract a e0).data.toList ++ x.f2.data.toList), by go_num, by omega, ⟨.inr ⟨hBb, v, by rw [HK.out _ (by omega)]; exact hbk, ?_, hne⟩⟩, ⟨?_⟩, ⟨by rw [HK.out _ (by omega)]; exact HS4.out⟩, ⟨HB4.out.setCell (p := ⟨w1.heap.size + 1, 0, none⟩) (by show w.heap.size ≤ w1.heap.size + 1; omega) _⟩, ⟨by simp [World.setCell]; omega⟩, ⟨?_⟩, ⟨HOK.out.2⟩⟩
              · have e : Lib.byteCells (acc ++ ((a0.extract a e0).data.toList ++ x.f2.data.toList)) = Lib.byteCells acc ++ Lib.strCells (a0.extract a e0) ++ Lib.strCells x.f2 := by simp [Lib.byteCells, Lib.strCells]
                rw [e]
                refine own_move hown (fun k h2 => ?_)
                obtain ⟨cells, hc⟩ := own_typed hown k h2
                refine HK.out k ?_
                intro e2
                subst e2
                rw [HA4.out] at hc
                cases hc
              · simp [World.setCell, Array.getElem?_modify, HA4.out]
              · rw [← HFU.out]; simp
            case measure => simp [intOf]; omega
          · have hd : l1.drop j = [] := List.drop_of_length_le (by omega)
            have hful := HF.out
            have hok := HK.out
            rw [hd] at hful hok
            simp only [applyB, okApply, decide_eq_true_eq] at hful hok
            have HFU := Aside0.mk hful
            have hz := HZ.out
            have hlen : acc.length + (a0.size - a) ≤ 1000000 := by
              have e := congrArg List.length HFU.out
              have hl := HL.out
              simp only [List.length_append, Array.length_toList] at e
              have s1 : (a0.extract ((a : Int)).toNat a0.size).data.size = a0.size - a := by
                rw [ext_len a0 _ _ (by omega)]; omega
              omega
            have cS : wr.cell? ⟨w.heap.size, 0, none⟩ = some (.string a0) := by rw [cell_blk HS2.out]; rfl
            clear hful HF HK hd
            go_wp2_with fail
            refine (upTo_any w1.heap.size w1.heap.size w.heap.size (w1.heap.size + 1) (Lib.byteCells acc) a0 (0, 0) a a0.size wr HBLD.out (by omega) (by omega) HS2.out HAT.out (by omega) (by omega) (by omega) (by omega) (by omega) hsz (by rw [Lib.byteCells_length]; omega)).mono ?_
            rintro en w2 ⟨rfl, h1, hb2, hS2, hA2, hz2, hx2⟩
            have H1 := Aside0.mk h1
            have HB3 : Aside0 (Below w.heap.size w w2) := ⟨HB2.out.trans (hb2.mono (by omega))⟩
            clear h1 hb2 hS2 hA2 hx2 HBLD HAT HS2 HB2 cS
            go_wp2_with fail
            have hbl : Lib.IsBuilder 58 5 w1.heap.size w1.heap.size (Lib.byteCells full) w2 := by
              have e : Lib.byteCells full = Lib.byteCells acc ++ Lib.strCells (a0.extract a a0.size) := by
                rw [← HFU.out]; simp [Lib.byteCells, Lib.strCells]
              rw [e]; exact H1.out
            have HBL := Aside0.mk hbl
            clear hbl
            refine (Try.Builder_String_any w1.heap.size w1.heap.size full w2 HBL.out (by omega)).mono ?_
            rintro en w3 ⟨rfl, hb3⟩
            have HB5 : Aside0 (Below w.heap.size w w3) := ⟨HB3.out.trans (hb3.mono (by omega))⟩
            clear hb3
            go_wp2
            go_ret2
            exact ⟨by rw [HFULL.out]; rfl, HB5.out⟩
      · rw [if_neg ho] at h; cases h
    · rw [if_neg h0] at h
      obtain ⟨rfl, rfl⟩ : (⟨#[]⟩ : ByteArray) = r1 ∧ e = r2 := by simpa using h
      clear h
      have cE : (e == 0) = false := beq_eq_false_iff_ne.mpr h0
      have cN : (e != 0) = true := bne_iff_ne.mpr h0
      go_enter Try.func11, Try.ntmps11
      go_wp2_with fail
      refine (text_fits.calls k a0 A1 c1 l1 e _ (Kd.C_alloc HR.out _) hc1 HE.out).mono ?_
      rintro en w1 ⟨rfl, hb1⟩
      have HB1 : Aside0 (Below w.heap.size w w1) := ⟨((Below.refl w.heap.size w).alloc (Nat.le_refl _) _).trans (hb1.mono (by simp))⟩
      clear hb1
      go_wp2
      go_ret2
      exact ⟨rfl, HB1.out⟩
  · rw [if_neg hsz] at h; cases h

end Go.Proofs.Ytggcbcleocamlaa.P
