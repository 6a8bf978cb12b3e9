import Derived.Test.YtogknojocodhgaaPx0
import Derived.Test.YtogknojocodhgaaMaps
namespace Go.Proofs.Ytogknojocodhgaa.P
open Go.RowKit Go.WideMaps Go.Proofs.YtogknojocodhgaaW.PrintWords Go.Proofs.YtogknojocodhgaaW.PrintLast Go.Proofs.YtogknojocodhgaaW.PrintMore
set_option linter.unusedVariables false
set_option linter.unusedSimpArgs false

theorem lawS : Maps.Keyed Try.prog 9 := Maps.string_keyed Try.underlying9
def fnElem (v : Value) : Option (DataW Unit × List MemPlace) := match v with
  | .func (.func n) ⟨[]⟩ ⟨[]⟩ => some (.lit (.int .i64 n), [])
  | _ => none
theorem fnElem_inv {v : Value} {z : DataW Unit × List MemPlace} (h : fnElem v = some z) : ∃ n : Nat, v = .func (.func n) #[] #[] ∧ z = (.lit (.int .i64 n), []) := by
  unfold fnElem at h
  split at h
  · cases h; exact ⟨_, rfl, rfl⟩
  · cases h
def opTab : List (List UInt8 × Lit) := [([43], .int .i64 60), ([45], .int .i64 61), ([42], .int .i64 62), ([47], .int .i64 63), ([37], .int .i64 64), ([61, 61], .int .i64 65), ([33, 61], .int .i64 67), ([60], .int .i64 68), ([60, 61], .int .i64 69), ([62], .int .i64 70), ([62, 61], .int .i64 71), ([97, 110, 100], .int .i64 72), ([111, 114], .int .i64 73)]
def opD : DataW Unit := M.putAll opTab (.map [])
def opNum (s : List UInt8) : Int := match M.lastOf opTab s (.int .i64 (-1)) with
  | .int _ n => n
  | _ => -1
theorem lastOf_mem : ∀ (l : List (List UInt8 × Lit)) (s : List UInt8) (z : Lit), M.lastOf l s z = z ∨ ∃ p ∈ l, p.1 = s ∧ M.lastOf l s z = p.2
  | [], _, _ => .inl rfl
  | p :: r, s, z => by
    unfold M.lastOf
    rcases lastOf_mem r s (if p.1 = s then p.2 else z) with h | ⟨q, h1, h2, h3⟩
    · by_cases e : p.1 = s
      · rw [if_pos e] at h
        exact .inr ⟨p, by simp, e, by rw [if_pos e]; exact h⟩
      · rw [if_neg e] at h
        exact .inl (by rw [if_neg e]; exact h)
    · exact .inr ⟨q, by simp [h1], h2, h3⟩
theorem opD_at (s : List UInt8) : opD.atKey (.string s) (.lit (.int .i64 (-1))) = .lit (M.lastOf opTab s (.int .i64 (-1))) :=
  M.atKey_putAll (H := Unit) s (.int .i64 (-1)) opTab (.map []) (.int .i64 (-1)) Maps.isMap_empty rfl
set_option maxHeartbeats 2000000 in
set_option maxRecDepth 100000 in
theorem operators_calls (w : World) : Calls Try.prog 33 #[] w fun e w' => e = .returned (.map (some w.heap.size)) ∧ w'.ownsMap Try.prog 9 fnElem w.heap.size 13 opD ∧ Below w.heap.size w w' := by
  have hmm := @run_makeMap Try.prog
  have hown : Aside0 ((w.alloc (.map #[] 0)).ownsMap (H := Unit) Try.prog 9 fnElem w.heap.size 0 (.map [])) := ⟨World.ownsMap_made _ _ _ _⟩
  have hb : Aside0 (Below w.heap.size w (w.alloc (.map #[] 0))) := ⟨(Below.refl _ _).alloc (Nat.le_refl _) _⟩
  go_enter Try.func33, Try.ntmps33
  go_wp2_with (refine M.wpList_insert_own (H := Unit) _ rfl _ _ _ 60 rfl 9 28 lawS Try.underlying60 fnElem _ _ _ rfl hown.out ?_ _ _ _ rfl rfl (keyOf_string_mk Try.underlying9 (by unfold maxLen; decide +kernel)) _ [] rfl ?_; (unfold maxLen; omega); intro w1 h1 g1; have hb' := Aside0.mk (hb.out.grown g1 hb.out.size (fun k e => by cases e; exact Nat.le_refl _)); clear hown hb g1; have hown := Aside0.mk h1; have hb := hb'; clear h1 hb')
  go_ret
  exact ⟨rfl, hown.out, hb.out⟩
theorem zeroF (w : World) : (zeroValue 28).run Try.prog w = .ok .nilFunc w := by kernel_rfl
/-- The look-up in the operators' map. -/
theorem look_op (s : ByteArray) (hs : s.size ≤ 140737488351232) (w : World) (b n : Nat) (h : w.ownsMap (H := Unit) Try.prog 9 fnElem b n opD) :
    ((Instr.lookup 60 (.map (some b)) (.string s) true).run Try.prog w = .ok (.tuple #[.nilFunc, .bool false]) w ∧ M.lastOf opTab s.data.toList (.int .i64 (-1)) = .int .i64 (-1)) ∨
    ∃ n : Nat, M.lastOf opTab s.data.toList (.int .i64 (-1)) = .int .i64 n ∧ (Instr.lookup 60 (.map (some b)) (.string s) true).run Try.prog w = .ok (.tuple #[.func (.func n) #[] #[], .bool true]) w := by
  obtain ⟨es, clock, hb, F, _, hD⟩ := h
  rcases Maps.fit_look true lawS Try.underlying60 (zeroF w) hb F (keyOf_string_mk Try.underlying9 (s := s) (by unfold maxLen; omega)) with ⟨hrun, _, hat⟩ | ⟨e0, y, _, _, hrun, hR, hat, _⟩
  · rw [← hD] at hat
    have h1 := hat (.lit (.int .i64 (-1)))
    rw [opD_at] at h1
    exact .inl ⟨hrun, by simpa using h1⟩
  · rw [← hD] at hat
    have h1 := hat (.lit (.int .i64 (-1)))
    rw [opD_at] at h1
    obtain ⟨n, hn, rfl⟩ := fnElem_inv hR
    rw [hn] at hrun
    exact .inr ⟨n, by simpa using h1, hrun⟩

end Go.Proofs.Ytogknojocodhgaa.P
