-- Texts of this claim, put together and cut down to what is used (trim.py, a program of this session).
import Derived.Test.YtogknojocodhgaaZ8
import Derived.Test.YtogknojocodhgaaZ21
import Derived.Test.YtogknojocodhgaaZ35
import Derived.Test.YtogknojocodhgaaZ37
section
namespace Go.Proofs.Ytogknojocodhgaa.P
open Go.RowKit Go.WideMaps Go.Proofs.YtogknojocodhgaaW.PrintWords Go.Proofs.YtogknojocodhgaaW.PrintLast Go.Proofs.YtogknojocodhgaaW.PrintMore
set_option linter.unusedVariables false
set_option linter.unusedSimpArgs false
def scStep (wd : Int) (ws : List ByteArray) (ts : List S74) (isB : Bool) (i : Nat) : Option (Int × Nat) :=
  if isB = true then
    (if accB ws ts i [116, 114, 117, 101] = true then (if i + 1 < ws.length then some (1, i + 1) else none)
     else if accB ws ts i [102, 97, 108, 115, 101] = true then (if i + 1 < ws.length then some (0, i + 1) else none) else none)
  else if accB ws ts i [45] = true then
    (match lexer_Number.f (rdw ws (i + 1)) with
     | some (v, true) => if i + 1 + 1 < ws.length ∧ value_isInt.f wd (wrap64 (-v)) = some true then some (wrap64 (-v), i + 1 + 1) else none
     | _ => none)
  else
    (match lexer_Number.f (rdw ws i) with
     | some (v, true) => if i + 1 < ws.length ∧ value_isInt.f wd v = some true then some (v, i + 1) else none
     | _ => none)
def lpStep (wd : Int) (ws : List ByteArray) (ts : List S74) : List S39 → Bool → Nat → Option (List Int × Nat)
  | [], _, i => some ([], i)
  | s :: r, first, i =>
    match (if first = true then some i else if accB ws ts i [44] = true ∧ i + 1 < ws.length then some (i + 1) else none) with
    | none => none
    | some j =>
      match scStep wd ws ts (s.f0 == 2) j with
      | none => none
      | some (v, j') =>
        match lpStep wd ws ts r false j' with
        | none => none
        | some (l, e) => some (v :: l, e)
def opStep (ws : List ByteArray) (ts : List S74) (k : Int) (rec : ByteArray) : Option Nat :=
  if k = 4 then (if accB ws ts 0 rec.toList = true ∧ accB ws ts 1 [40] = true ∧ 2 < ws.length then some 2 else none)
  else if k = 3 then (if accB ws ts 0 [91] = true ∧ 1 < ws.length then some 1 else none)
  else some 0
def clStep (ws : List ByteArray) (ts : List S74) (k : Int) (i : Nat) : Bool :=
  if k = 4 then accB ws ts i [41] && (decide (i + 1 < ws.length) && ((rd_T74 ts ((i + 1 : Nat) : Int)).f0 == 5))
  else if k = 3 then accB ws ts i [93] && (decide (i + 1 < ws.length) && ((rd_T74 ts ((i + 1 : Nat) : Int)).f0 == 5))
  else (rd_T74 ts (i : Int)).f0 == 5
def parseW (wd : Int) (ws : List ByteArray) (ts : List S74) (k : Int) (rec : ByteArray) (sc : List S39) : Option (List Int) :=
  match opStep ws ts k rec with
  | none => none
  | some i =>
    match lpStep wd ws ts sc true i with
    | none => none
    | some (l, e) => if e < ws.length ∧ clStep ws ts k e = true then some l else none
def tokT (s : ByteArray) : List S74 := toks s (s.size + 1) 0
def value_Parse.f (a0 a1_0 a1_1 : Int) (a1_2 : ByteArray) (l2 : List S57) (a3 : ByteArray) : Option (List Int × Int) :=
  if (2 ≤ a0 ∧ a0 ≤ 8) ∧ (Lit.int .i64 a1_0).wf = true ∧ validT a1_0 a1_1 a1_2 l2 = true ∧ (rd_T57 l2 (recIx l2 a1_2 : Int)).f1.length ≤ 1000000 ∧ a3.size ≤ 4096 ∧ 0 < (tokT a3).length then
    (match parseW a0 (wordsP a3 (tokT a3)) (tokT a3) a1_0 a1_2 (scalarsT a1_0 a1_1 a1_2 l2) with
     | some l => some (l, 0)
     | none => none)
  else none
theorem lp_cons {wd : Int} {ws : List ByteArray} {ts : List S74} {s : S39} {r : List S39} {first : Bool} {i : Nat} {l : List Int} {e : Nat} (h : lpStep wd ws ts (s :: r) first i = some (l, e)) :
    ∃ (j : Nat) (v : Int) (i' : Nat) (l' : List Int), ((first = true ∧ j = i) ∨ (first = false ∧ accB ws ts i [44] = true ∧ i + 1 < ws.length ∧ j = i + 1)) ∧ scStep wd ws ts (s.f0 == 2) j = some (v, i') ∧ lpStep wd ws ts r false i' = some (l', e) ∧ l = v :: l' := by
  unfold lpStep at h
  split at h
  · cases h
  · rename_i j hj
    split at h
    · cases h
    · rename_i v i' hsc
      split at h
      · cases h
      · rename_i l' e' hl
        simp only [Option.some.injEq, Prod.mk.injEq] at h
        obtain ⟨rfl, rfl⟩ := h
        refine ⟨j, v, i', l', ?_, hsc, hl, rfl⟩
        cases first
        · simp only [Bool.false_eq_true, if_false] at hj
          split at hj
          · rename_i hc
            exact .inr ⟨rfl, hc.1, hc.2, (Option.some.inj hj).symm⟩
          · cases hj
        · simp only [if_true] at hj
          exact .inl ⟨rfl, (Option.some.inj hj).symm⟩
theorem scalar_step {w : World} {gw ga gt gf gd gc n : Nat} {width : Int} {ws : List ByteArray} {ts : List S74} {i i' : Nat} (base : Nat) (hb1 : base ≤ ga) (hb2 : base ≤ gf) (hbs : base ≤ w.heap.size) (k0 k : Int) (rec : ByteArray) (v : Int) (H : St w gw ga gt gf gd gc n width ws ts i) (hs : scStep width ws ts (k0 == 2) i = some (v, i')) :
    Calls Try.prog 53 #[.agg #[.int .i64 k0, .int .i64 k, .string rec], .pointer (some ⟨gc, 0, none⟩), .pointer (some ⟨gw, 0, none⟩), .pointer (some ⟨ga, 0, none⟩), .pointer (some ⟨gf, 0, none⟩), .pointer (some ⟨gd, 0, none⟩)] w fun e w' => e = .returned (.tuple #[.int .i64 v, .bool true]) ∧ St w' gw ga gt gf gd gc n width ws ts i' ∧ Moved base ga gf w w' := by
  have hn := H.hn.1
  unfold scStep at hs
  by_cases hk : k0 = 2
  · subst hk
    rw [if_pos (show ((2 : Int) == 2) = true from rfl)] at hs
    by_cases h1 : accB ws ts i [116, 114, 117, 101] = true
    · rw [if_pos h1] at hs
      split at hs
      · rename_i hl
        simp only [Option.some.injEq, Prod.mk.injEq] at hs
        obtain ⟨rfl, rfl⟩ := hs
        exact scalar_true base hb1 hb2 hbs k rec H (by omega) h1
      · cases hs
    · rw [if_neg h1] at hs
      split at hs
      · rename_i h2
        split at hs
        · rename_i hl
          simp only [Option.some.injEq, Prod.mk.injEq] at hs
          obtain ⟨rfl, rfl⟩ := hs
          exact scalar_false base hb1 hb2 hbs k rec H (by omega) (by simpa using h1) h2
        · cases hs
      · cases hs
  · rw [if_neg (by simpa using hk)] at hs
    by_cases h1 : accB ws ts i [45] = true
    · rw [if_pos h1] at hs
      split at hs
      · rename_i v0 hnum
        split at hs
        · rename_i hl
          simp only [Option.some.injEq, Prod.mk.injEq] at hs
          obtain ⟨rfl, rfl⟩ := hs
          exact scalar_neg base hb1 hb2 hbs k0 k hk rec H (by omega) v0 h1 hnum hl.2
        · cases hs
      · cases hs
    · rw [if_neg h1] at hs
      split at hs
      · rename_i v0 hnum
        split at hs
        · rename_i hl
          simp only [Option.some.injEq, Prod.mk.injEq] at hs
          obtain ⟨rfl, rfl⟩ := hs
          exact scalar_pos base hb1 hb2 hbs k0 k hk rec H (by omega) _ (by simpa using h1) hnum hl.2
        · cases hs
      · cases hs
theorem scT_len (k n : Int) (rec : ByteArray) (l : List S57) (hv : validT k n rec l = true) (hl : (rd_T57 l (recIx l rec : Int)).f1.length ≤ 1000000) : (scalarsT k n rec l).length ≤ 1000000 := by
  unfold scalarsT
  by_cases h1 : k = 1 ∨ k = 2
  · rw [if_pos h1]; simp
  · rw [if_neg h1]
    by_cases h3 : k = 3
    · rw [if_pos h3, List.length_replicate]
      subst h3
      have : 1 ≤ n ∧ n ≤ 8 ∧ noRec rec = true := by simpa [validT] using hv
      omega
    · rw [if_neg h3, List.length_map]; exact hl
end Go.Proofs.Ytogknojocodhgaa.P
end
