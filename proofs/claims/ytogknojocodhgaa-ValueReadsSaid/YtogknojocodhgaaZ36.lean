-- Texts of this claim, put together and cut down to what is used (trim.py, a program of this session).
import Derived.Deep.RegionHeld3
import Derived.Test.YtogknojocodhgaaZ3
import Derived.Test.YtogknojocodhgaaZ28
section
namespace Go.Proofs.Ytogknojocodhgaa.P
open Go.RowKit Go.WideMaps Go.Proofs.YtogknojocodhgaaW.PrintWords Go.Proofs.YtogknojocodhgaaW.PrintLast Go.Proofs.YtogknojocodhgaaW.PrintMore
set_option linter.unusedVariables false
set_option linter.unusedSimpArgs false
def rdw (ws : List ByteArray) (i : Nat) : ByteArray := rdOf ByteArray.empty ws (i : Int)
def accB (ws : List ByteArray) (ts : List S74) (i : Nat) (word : List UInt8) : Bool := ((rdw ws i).toList == word) && !((rd_T74 ts (i : Int)).f0 == 5)
structure St (w : World) (gw ga gt gf gd gc n : Nat) (width : Int) (ws : List ByteArray) (ts : List S74) (i : Nat) : Prop where
  hn : ws.length = n ∧ ts.length = n ∧ i < n
  hw : ∃ A c, Kd.F Kd.string w (fun k => k < gw) A n ws ∧ w.cell? ⟨gw, 0, none⟩ = some (.slice A n c)
  ht : ∃ A c, Kd.F k74 w (fun k => k < gw) A n ts ∧ w.cell? ⟨gt, 0, none⟩ = some (.slice A n c)
  ha : w.cell? ⟨ga, 0, none⟩ = some (.int .i64 (i : Int)) ∧ w.frozen? ⟨ga, 0, none⟩ = false
  hf : w.cell? ⟨gf, 0, none⟩ = some (.bool true) ∧ w.frozen? ⟨gf, 0, none⟩ = false
  hd : w.cell? ⟨gd, 0, none⟩ = some (.int .i64 width)
  hc : w.cell? ⟨gc, 0, none⟩ = some (.func (.func 52) #[] #[.pointer (some ⟨gw, 0, none⟩), .pointer (some ⟨ga, 0, none⟩), .pointer (some ⟨gt, 0, none⟩)])
  ne : ga ≠ gw ∧ ga ≠ gt ∧ ga ≠ gf ∧ ga ≠ gd ∧ ga ≠ gc ∧ gf ≠ gw ∧ gf ≠ gt ∧ gf ≠ gd ∧ gf ≠ gc ∧ gw < ga ∧ gw < gf
section
variable {w w' : World} {gw ga gt gf gd gc n : Nat} {width : Int} {ws : List ByteArray} {ts : List S74} {i i' : Nat}
theorem frozen_below {g : Nat} {v : Value} (hb : Below w.heap.size w w') (hc : w.cell? ⟨g, 0, none⟩ = some v) (h : w.frozen? ⟨g, 0, none⟩ = false) : w'.frozen? ⟨g, 0, none⟩ = false := by
  have hl := World.block_lt_of_cell? w _ hc
  have := hb.block g hl
  simpa [World.frozen?, this] using h
theorem St.below (h : St w gw ga gt gf gd gc n width ws ts i) (hb : Below w.heap.size w w') : St w' gw ga gt gf gd gc n width ws ts i := by
  obtain ⟨hn, ⟨A1, c1, hw, hw2⟩, ⟨A2, c2, ht, ht2⟩, ha, hf, hd, hc, ne⟩ := h
  have cell : ∀ {g : Nat} {v : Value}, w.cell? ⟨g, 0, none⟩ = some v → w'.cell? ⟨g, 0, none⟩ = some v := fun h => (hb.cell (World.block_lt_of_cell? w _ h)).trans h
  exact ⟨hn, ⟨A1, c1, Kd.F_below hw hb, cell hw2⟩, ⟨A2, c2, Kd.F_below ht hb, cell ht2⟩, ⟨cell ha.1, frozen_below hb ha.1 ha.2⟩, ⟨cell hf.1, frozen_below hb hf.1 hf.2⟩, cell hd, cell hc, ne⟩
theorem St.setA (h : St w gw ga gt gf gd gc n width ws ts i) (hi : i' < n) : St (w.setCell ⟨ga, 0, none⟩ (.int .i64 (i' : Int))) gw ga gt gf gd gc n width ws ts i' := by
  obtain ⟨hn, ⟨A1, c1, hw, hw2⟩, ⟨A2, c2, ht, ht2⟩, ha, hf, hd, hc, ne⟩ := h
  have cell : ∀ {g : Nat} {v u : Value}, g ≠ ga → w.cell? ⟨g, 0, none⟩ = some v → (w.setCell ⟨ga, 0, none⟩ u).cell? ⟨g, 0, none⟩ = some v := fun hne h => by
    rw [World.cell?_setCell_far _ _ _ _ (fun e => hne e.symm)]; exact h
  refine ⟨⟨hn.1, hn.2.1, hi⟩, ⟨A1, c1, Kd.F_far hw (fun k hk => by have hk : k < gw := hk; show k ≠ ga; omega) _, cell (Ne.symm ne.1) hw2⟩, ⟨A2, c2, Kd.F_far ht (fun k hk => by have hk : k < gw := hk; show k ≠ ga; omega) _, cell (Ne.symm ne.2.1) ht2⟩, ⟨?_, by rw [World.frozen?_setCell]; exact ha.2⟩, ⟨cell (Ne.symm ne.2.2.1) hf.1, by rw [World.frozen?_setCell]; exact hf.2⟩, cell (Ne.symm ne.2.2.2.1) hd, cell (Ne.symm ne.2.2.2.2.1) hc, ne⟩
  exact World.cell?_setCell_same' _ _ _ (by rw [ha.1]; rfl)
theorem St.setF (h : St w gw ga gt gf gd gc n width ws ts i) : St (w.setCell ⟨gf, 0, none⟩ (.bool true)) gw ga gt gf gd gc n width ws ts i := by
  obtain ⟨hn, ⟨A1, c1, hw, hw2⟩, ⟨A2, c2, ht, ht2⟩, ha, hf, hd, hc, ne⟩ := h
  have cell : ∀ {g : Nat} {v u : Value}, g ≠ gf → w.cell? ⟨g, 0, none⟩ = some v → (w.setCell ⟨gf, 0, none⟩ u).cell? ⟨g, 0, none⟩ = some v := fun hne h => by
    rw [World.cell?_setCell_far _ _ _ _ (fun e => hne e.symm)]; exact h
  refine ⟨hn, ⟨A1, c1, Kd.F_far hw (fun k hk => by have hk : k < gw := hk; show k ≠ gf; omega) _, cell (Ne.symm ne.2.2.2.2.2.1) hw2⟩, ⟨A2, c2, Kd.F_far ht (fun k hk => by have hk : k < gw := hk; show k ≠ gf; omega) _, cell (Ne.symm ne.2.2.2.2.2.2.1) ht2⟩, ⟨cell ne.2.2.1 ha.1, by rw [World.frozen?_setCell]; exact ha.2⟩, ⟨?_, by rw [World.frozen?_setCell]; exact hf.2⟩, cell (Ne.symm ne.2.2.2.2.2.2.2.1) hd, cell (Ne.symm ne.2.2.2.2.2.2.2.2.1) hc, ne⟩
  exact World.cell?_setCell_same' _ _ _ (by rw [hf.1]; rfl)
theorem frozen_grown {g : Nat} {v : Value} {row : Option Nat} (hg : w.grownBy w' row) (hne : some g ≠ row) (hc : w.cell? ⟨g, 0, none⟩ = some v) (h : w.frozen? ⟨g, 0, none⟩ = false) : w'.frozen? ⟨g, 0, none⟩ = false := by
  have := hg.block g (World.block_lt_of_cell? w _ hc) hne
  simpa [World.frozen?, this] using h
theorem St.grown {row : Option Nat} (h : St w gw ga gt gf gd gc n width ws ts i) (hg : w.grownBy w' row) (hr : ∀ k, row = some k → gw < k ∧ ga < k ∧ gt < k ∧ gf < k ∧ gd < k ∧ gc < k) : St w' gw ga gt gf gd gc n width ws ts i := by
  obtain ⟨hn, ⟨A1, c1, hw, hw2⟩, ⟨A2, c2, ht, ht2⟩, ha, hf, hd, hc, ne⟩ := h
  have no : ∀ g, (g < gw + 1 ∨ g = ga ∨ g = gt ∨ g = gf ∨ g = gd ∨ g = gc) → some g ≠ row := fun g hgg he => by have := hr g he.symm; omega
  refine ⟨hn, ⟨A1, c1, Kd.F_grown hw hg (fun k hk => no k (by have hk : k < gw := hk; omega)), cell_grown hg hw2 (no gw (by omega))⟩, ⟨A2, c2, Kd.F_grown ht hg (fun k hk => no k (by have hk : k < gw := hk; omega)), cell_grown hg ht2 (no gt (by omega))⟩, ⟨cell_grown hg ha.1 (no ga (by omega)), frozen_grown hg (no _ (by omega)) ha.1 ha.2⟩, ⟨cell_grown hg hf.1 (no gf (by omega)), frozen_grown hg (no _ (by omega)) hf.1 hf.2⟩, cell_grown hg hd (no gd (by omega)), cell_grown hg hc (no gc (by omega)), ne⟩
set_option maxHeartbeats 2000000 in
set_option maxRecDepth 100000 in
theorem accept_calls (word : ByteArray) (H : St w gw ga gt gf gd gc n width ws ts i) :
    Calls Try.prog 52 #[.string word, .pointer (some ⟨gw, 0, none⟩), .pointer (some ⟨ga, 0, none⟩), .pointer (some ⟨gt, 0, none⟩)] w fun e w' => e = .returned (.bool (accB ws ts i word.toList)) ∧ w' = if accB ws ts i word.toList = true then w.setCell ⟨ga, 0, none⟩ (.int .i64 ((i + 1 : Nat) : Int)) else w := by
  obtain ⟨⟨n1, n2, hi⟩, ⟨A1, c1, hw, hgw⟩, ⟨A2, c2, ht, hgt⟩, ⟨hga, hf⟩, _, _, _, _⟩ := H
  have hw := Kd.F_now hw
  have ht := Kd.F_now ht
  have hmax := Kd.C_max hw
  obtain ⟨ad1, e1, hx⟩ := Kd.at_string hw (i : Int) (by omega) (by omega)
  obtain ⟨ad2, e2, hy, _, _, _⟩ := at_T74 ht (i : Int) (by omega) (by omega)
  subst e1 e2
  rw [Int.toNat_natCast] at hx hy
  have fin : ∀ b1 b2 : Bool, ((rdw ws i).toList == word.toList) = b1 → ((rd_T74 ts (i : Int)).f0 == 5) = b2 → Calls Try.prog 52 #[.string word, .pointer (some ⟨gw, 0, none⟩), .pointer (some ⟨ga, 0, none⟩), .pointer (some ⟨gt, 0, none⟩)] w fun e w' => e = .returned (.bool (b1 && !b2)) ∧ w' = if (b1 && !b2) = true then w.setCell ⟨ga, 0, none⟩ (.int .i64 ((i + 1 : Nat) : Int)) else w := by
    intro b1 b2 h1 h2
    have h1' : ((rdOf ByteArray.empty ws (i : Int)).toList == word.toList) = b1 := h1
    have h1'' : ((rdOf ByteArray.empty ws (i : Int)).toList != word.toList) = !b1 := by rw [bne, h1']
    have hww : IntKind.i64.wrap ((i : Int) + 1) = ((i + 1 : Nat) : Int) := by rw [IntKind.wrap_i64]; omega
    clear hw ht h1
    cases b1 <;> cases b2
    all_goals (
      go_enter Try.func52, Try.ntmps52
      go_wp2
      go_ret
      first | exact ⟨rfl, rfl⟩ | (refine ⟨rfl, ?_⟩; simp [hww]))
  exact fin _ _ rfl rfl
end
end Go.Proofs.Ytogknojocodhgaa.P
end
