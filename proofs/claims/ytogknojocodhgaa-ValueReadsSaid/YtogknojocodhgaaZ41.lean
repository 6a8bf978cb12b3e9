-- Texts of this claim, put together and cut down to what is used (trim.py, a program of this session).
import Derived.Deep.Slices
import Derived.OpenShut
import Derived.Test.YtogknojocodhgaaZ1
section
namespace Go.Proofs.Ytogknojocodhgaa.Rd
open Go Go.Deep Go.Proofs.YtogknojocodhgaaW.PrintWords
set_option linter.unusedVariables false
set_option linter.unusedSimpArgs false
structure RdK (P : Program) (t : TypeId) {α : Type} (d : Kd α) (ok : α → Prop) : Prop where
  out : ∀ {H : Type} (enc : TypeId × Value → H) (w : World) (base : Nat) (spare : Nat → Bool) (held : Bool) (fuel : Nat) (cs : List Value) (y : DataW H × List MemPlace),
    DataW.trod enc P w base spare held fuel t cs = some y → ∃ x, d.K w x cs ∧ ok x
structure RdFs (P : Program) (fs : List Field) (off : Nat) {α : Type} (d : Kd α) (ok : α → Prop) : Prop where
  out : ∀ {H : Type} (enc : TypeId × Value → H) (w : World) (base : Nat) (spare : Nat → Bool) (held : Bool) (fuel : Nat) (cs : List Value) (ys : List (DataW H × List MemPlace)),
    cs.length = off + d.sz → (fs.mapM fun f => DataW.trod enc P w base spare held fuel f.type ((cs.drop f.offset).take (P.cellsOf f.type))) = some ys → ∃ x, d.K w x (cs.drop off) ∧ ok x
theorem rd_int {P : Program} {t : TypeId} {k : IntKind} (h : P.underlying t = some (.int k)) : RdK P t (Kd.int k) (fun n => (Lit.int k n).wf = true) := by
  refine ⟨@fun H enc w base spare held fuel cs y hy => ?_⟩
  obtain ⟨n, rfl, _, hw⟩ := DataW.trod_int h hy
  exact ⟨n, rfl, hw⟩
theorem rd_string {P : Program} {t : TypeId} (h : P.underlying t = some .string) : RdK P t Kd.string (fun s => s.size ≤ maxLen) := by
  refine ⟨@fun H enc w base spare held fuel cs y hy => ?_⟩
  obtain ⟨s, rfl, _, hs⟩ := DataW.trod_string h hy
  exact ⟨s, rfl, hs⟩
theorem rd_slice {P : Program} {t e : TypeId} {α : Type} {d : Kd α} {ok : α → Prop} (h : P.underlying t = some (.slice e)) (hc : P.cellsOf e = d.sz) (he : RdK P e d ok) :
    RdK P t (Kd.slice e d) (fun xs => xs.length ≤ maxLen ∧ ∀ x ∈ xs, ok x) := by
  refine ⟨@fun H enc w base spare held fuel cs y hy => ?_⟩
  rcases open_slice h hy with ⟨rfl, _⟩ | ⟨a, len, cap, m, n, D, Pl, rfl, hb, hl, hm, hmm, _, hel⟩
  · exact ⟨[], ⟨none, 0, rfl, Nat.le_refl _, Kd.C_nil d w⟩, by simp [maxLen], by simp⟩
  · have hlm : len ≤ m := by rw [hmm]; split <;> omega
    have hex : ∀ i, i < len → ∃ x cs', d.K w x cs' ∧ ok x ∧ w.cells? base (a.add (i * P.cellsOf e)) (P.cellsOf e) = some cs' := by
      intro i hi
      obtain ⟨cs', h1, h2⟩ := hel i (by omega)
      obtain ⟨x, h3, h4⟩ := he.out enc w base spare held n cs' _ h2
      exact ⟨x, cs', h3, h4, h1⟩
    obtain ⟨xs, hxs, hget⟩ : ∃ xs : List α, xs.length = len ∧ ∀ i (hi : i < xs.length), ∃ cs', d.K w xs[i] cs' ∧ ok xs[i] ∧ w.cells? base (a.add (i * P.cellsOf e)) (P.cellsOf e) = some cs' := by
      clear hel hlm hm hl hmm
      revert hex
      generalize len = len0
      intro hex
      clear hy
      induction len0 with
      | zero => exact ⟨[], rfl, fun i hi => absurd hi (Nat.not_lt_zero _)⟩
      | succ len ih =>
        obtain ⟨xs, h1, h2⟩ := ih (fun i hi => hex i (by omega))
        obtain ⟨x, cs', h3, h4, h5⟩ := hex len (by omega)
        refine ⟨xs ++ [x], by simp [h1], fun i hi => ?_⟩
        rw [List.length_append, List.length_singleton] at hi
        by_cases hlt : i < xs.length
        · rw [List.getElem_append_left hlt]
          exact h2 i hlt
        · have hil : i = len := by omega
          subst hil
          rw [List.getElem_append_right (by omega)]
          simp only [h1, Nat.sub_self, List.getElem_singleton]
          exact ⟨cs', h3, h4, h5⟩
    have hcell : ∀ (i : Nat) (cs' : List Value), w.cells? base (a.add (i * P.cellsOf e)) (P.cellsOf e) = some cs' → ∀ k u, cs'[k]? = some u → w.cell? (a.add (i * d.sz + k)) = some u := by
      intro i cs' hcs k u hu
      obtain ⟨_, hl, hg⟩ := World.cells?_some hcs
      have hk : k < cs'.length := by
        rcases Nat.lt_or_ge k cs'.length with h' | h'
        · exact h'
        · rw [List.getElem?_eq_none h'] at hu; cases hu
      rw [← hc, ← Addr.add_add, hg k (by omega)]
      exact hu
    subst hxs
    refine ⟨xs, ⟨some a, cap, rfl, hl, ⟨rfl, by unfold maxLen at hm; omega, fun _ => ⟨a, rfl, fun j p hp => ?_⟩⟩⟩, by omega, fun x hx => ?_⟩
    · obtain ⟨hj, rfl⟩ := List.getElem?_eq_some_iff.1 hp
      obtain ⟨cs', h1, _, h3⟩ := hget j hj
      exact ⟨cs', d.K_len h1, h1, hcell j cs' h3⟩
    · obtain ⟨j, hj, rfl⟩ := List.getElem_of_mem hx
      obtain ⟨cs', _, h2, _⟩ := hget j hj
      exact h2
theorem rd_last {P : Program} {f : Field} {off : Nat} {α : Type} {d : Kd α} {ok : α → Prop} (ho : f.offset = off) (hc : P.cellsOf f.type = d.sz) (h : RdK P f.type d ok) : RdFs P [f] off d ok := by
  refine ⟨@fun H enc w base spare held fuel cs ys hl hy => ?_⟩
  simp only [List.mapM_cons, List.mapM_nil, Option.pure_def, Option.bind_eq_bind] at hy
  obtain ⟨y, h1, _⟩ := Option.bind_eq_some_iff.mp hy
  rw [ho, hc, List.take_of_length_le (by rw [List.length_drop]; omega)] at h1
  exact h.out enc w base spare held fuel _ y h1
theorem rd_cons {P : Program} {f : Field} {fs : List Field} {off : Nat} {α β : Type} {a : Kd α} {b : Kd β} {oa : α → Prop} {ob : β → Prop} (ho : f.offset = off) (hc : P.cellsOf f.type = a.sz) (ha : RdK P f.type a oa) (hb : RdFs P fs (off + a.sz) b ob) :
    RdFs P (f :: fs) off (Kd.pair a b) (fun x => oa x.1 ∧ ob x.2) := by
  refine ⟨@fun H enc w base spare held fuel cs ys hl hy => ?_⟩
  simp only [List.mapM_cons, Option.pure_def, Option.bind_eq_bind] at hy
  obtain ⟨y, h1, h2⟩ := Option.bind_eq_some_iff.mp hy
  obtain ⟨ys', h3, _⟩ := Option.bind_eq_some_iff.mp h2
  rw [ho, hc] at h1
  have hl2 : cs.length = off + (a.sz + b.sz) := hl
  obtain ⟨x, kx, ox⟩ := ha.out enc w base spare held fuel _ y h1
  obtain ⟨z, kz, oz⟩ := hb.out enc w base spare held fuel cs ys' (by omega) h3
  refine ⟨(x, z), ⟨_, _, ?_, kx, kz⟩, ox, oz⟩
  rw [← List.drop_drop, List.take_append_drop]
theorem rd_struct {P : Program} {t : TypeId} {fs : Array Field} {α : Type} {d : Kd α} {ok : α → Prop} (h : P.underlying t = some (.struct fs)) (hc : P.cellsOf t = d.sz) (hf : RdFs P fs.toList 0 d ok) : RdK P t d ok := by
  refine ⟨@fun H enc w base spare held fuel cs y hy => ?_⟩
  cases fuel with
  | zero => simp [DataW.trod] at hy
  | succ fuel =>
    unfold DataW.trod at hy
    rw [h] at hy
    simp only at hy
    split at hy
    · rename_i hlen
      obtain ⟨ys, h1, _⟩ := Option.map_eq_some_iff.1 hy
      have := hf.out enc w base spare held fuel cs ys (by omega) h1
      simpa using this
    · cases hy
theorem rd_iso {P : Program} {t : TypeId} {α β : Type} {d : Kd α} {ok : α → Prop} (f : β → α) (g : α → β) (hfg : ∀ a, f (g a) = a) (h : RdK P t d ok) : RdK P t (Kd.iso d f) (fun x => ok (f x)) := by
  refine ⟨@fun H enc w base spare held fuel cs y hy => ?_⟩
  obtain ⟨x, h1, h2⟩ := h.out enc w base spare held fuel cs y hy
  refine ⟨g x, ?_, ?_⟩
  · show d.K w (f (g x)) cs
    rw [hfg]; exact h1
  · show ok (f (g x))
    rw [hfg]; exact h2
end Go.Proofs.Ytogknojocodhgaa.Rd
end
