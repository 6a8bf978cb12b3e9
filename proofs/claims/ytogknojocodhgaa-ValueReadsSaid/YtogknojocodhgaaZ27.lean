-- Texts of this claim, put together and cut down to what is used (trim.py, a program of this session).
import Derived.Test.YtogknojocodhgaaZ2
import Derived.Test.YtogknojocodhgaaZ7
section
namespace Go.Proofs.Ytogknojocodhgaa.P
open Go.RowKit Go.WideMaps Go.Proofs.YtogknojocodhgaaW.PrintWords Go.Proofs.YtogknojocodhgaaW.PrintLast Go.Proofs.YtogknojocodhgaaW.PrintMore
set_option linter.unusedVariables false
set_option linter.unusedSimpArgs false
theorem law9 : Maps.Keyed Try.prog 9 := Maps.string_keyed Try.underlying9
def kwords : List (List UInt8) := [[114, 101, 99, 111, 114, 100], [112, 114, 111, 99], [118, 97, 114], [105, 102], [101, 108, 115, 101], [119, 104, 105, 108, 101], [102, 111, 114], [116, 111], [114, 101, 116, 117, 114, 110], [97, 115, 115, 101, 114, 116], [97, 110, 100], [111, 114], [110, 111, 116], [116, 114, 117, 101], [102, 97, 108, 115, 101], [105, 110, 116], [98, 111, 111, 108], [108, 101, 110]]
def kwD : DataW Unit := M.putAll (kwords.map fun s => (s, .bool true)) (.map [])
set_option maxHeartbeats 2000000 in
set_option maxRecDepth 100000 in
theorem keywords_calls (w : World) : Calls Try.prog 114 #[] w fun e w' => e = .returned (.map (some w.heap.size)) ∧ w'.ownsMap Try.prog 9 (plainElem Try.prog 4) w.heap.size 18 kwD ∧ Below w.heap.size w w' := by
  have hmm := @run_makeMap Try.prog
  have hown : Aside0 ((w.alloc (.map #[] 0)).ownsMap (H := Unit) Try.prog 9 (plainElem Try.prog 4) w.heap.size 0 (.map [])) := ⟨World.ownsMap_made _ _ _ _⟩
  have hb : Aside0 (Below w.heap.size w (w.alloc (.map #[] 0))) := ⟨(Below.refl _ _).alloc (Nat.le_refl _) _⟩
  go_enter Try.func114, Try.ntmps114
  go_wp2_with (refine M.wpList_insert_own (H := Unit) _ rfl _ _ _ 114 rfl 9 4 law9 Try.underlying114 (plainElem Try.prog 4) _ _ _ rfl hown.out ?_ _ _ _ rfl rfl (keyOf_string_mk Try.underlying9 (by unfold maxLen; decide +kernel)) _ [] (plainElem_bool Try.underlying4 true) ?_; (unfold maxLen; omega); intro w1 h1 g1; have hb' := Aside0.mk (hb.out.grown g1 hb.out.size (fun k e => by cases e; exact Nat.le_refl _)); clear hown hb g1; have hown := Aside0.mk h1; have hb := hb'; clear h1 hb')
  go_ret
  exact ⟨rfl, hown.out, hb.out⟩
def lexer_Keyword.f (a0 : ByteArray) : Option Bool := if a0.size ≤ 140737488351232 then some (kwords.contains a0.data.toList) else none
theorem lastOf_kw (s : List UInt8) : ∀ (l : List (List UInt8)) (b : Bool), M.lastOf (l.map fun s => (s, .bool true)) s (.bool b) = .bool (b || l.contains s)
  | [], b => by simp [M.lastOf]
  | x :: r, b => by
    simp only [List.map_cons, M.lastOf]
    by_cases e : x = s
    · rw [if_pos e, lastOf_kw s r true]; simp [e]
    · have e2 : s ≠ x := Ne.symm e; rw [if_neg e, lastOf_kw s r b]; simp [e2]
theorem kwD_at (s : List UInt8) : kwD.atKey (.string s) (.lit (.bool false)) = .lit (.bool (kwords.contains s)) := by
  have h := M.atKey_putAll (H := Unit) s (.bool false) (kwords.map fun s => (s, .bool true)) (.map []) (.bool false) Maps.isMap_empty rfl
  rw [lastOf_kw] at h
  simpa [kwD] using h
theorem zeroB (w : World) : (zeroValue 4).run Try.prog w = .ok (.bool false) w := by kernel_rfl
set_option maxHeartbeats 2000000 in
set_option maxRecDepth 100000 in
theorem lexer_Keyword.calls (a0 : ByteArray) (r : Bool) (w : World) (h : lexer_Keyword.f a0 = some r) :
    Calls Try.prog 103 #[.string a0] w fun e w' => e = .returned (.bool r) ∧ Below w.heap.size w w' := by
  unfold lexer_Keyword.f at h
  split at h
  · rename_i hsz
    obtain rfl := Option.some.inj h
    clear h
    go_enter Try.func103, Try.ntmps103
    go_wp2_with fail
    refine (keywords_calls w).mono ?_
    rintro e w1 ⟨rfl, hown, hb⟩
    have HO := Aside0.mk hown
    have HB := Aside0.mk hb
    clear hown hb
    go_wp2_with (refine M.wpList_lookup_own_any (H := Unit) _ rfl _ _ 114 rfl 9 4 law9 Try.underlying114 (plainElem Try.prog 4) _ (zeroB _) _ [] (plainElem_bool Try.underlying4 false) _ _ _ rfl HO.out _ _ rfl (keyOf_string_mk Try.underlying9 (by unfold maxLen; omega)) ?_; intro v ps hv; rw [kwD_at] at hv; obtain ⟨x, rfl, hx⟩ := M.plainElem_bool_inv Try.underlying4 hv; have hx2 := Aside0.mk hx; clear hx hv)
    go_ret
    have e : x = kwords.contains a0.data.toList := by have := hx2.out; simp at this; first | exact this.symm | simp_all
    rw [e]
    exact ⟨rfl, HB.out⟩
  · cases h
end Go.Proofs.Ytogknojocodhgaa.P
end
