-- Texts of this claim, put together and cut down to what is used (trim.py, a program of this session).
import Derived.Test.YtogknojocodhgaaZ2
import Derived.Test.YtogknojocodhgaaZ3
import Derived.Test.YtogknojocodhgaaZ7
section
namespace Go.Proofs.Ytogknojocodhgaa.P
open Go.RowKit Go.WideMaps Go.Proofs.YtogknojocodhgaaW.PrintWords Go.Proofs.YtogknojocodhgaaW.PrintLast Go.Proofs.YtogknojocodhgaaW.PrintMore
set_option linter.unusedVariables false
set_option linter.unusedSimpArgs false
theorem lawS : Maps.Keyed Try.prog 9 := Maps.string_keyed Try.underlying9
def fnElem (v : Value) : Option (DataW Unit × List MemPlace) := match v with
  | .func (.func n) ⟨[]⟩ ⟨[]⟩ => some (.lit (.int .i64 n), [])
  | _ => none
theorem fnElem_inv {v : Value} {z : DataW Unit × List MemPlace} (h : fnElem v = some z) : ∃ n : Nat, v = .func (.func n) #[] #[] ∧ z = (.lit (.int .i64 n), []) := by
  unfold fnElem at h
  split at h
  · cases h; exact ⟨_, rfl, rfl⟩
  · cases h
def opTab : List (List UInt8 × Lit) := [([43], .int .i64 60), ([45], .int .i64 61), ([42], .int .i64 62), ([47], .int .i64 63), ([37], .int .i64 64), ([61, 61], .int .i64 65), ([33, 61], .int .i64 67), ([60], .int .i64 68), ([60, 61], .int .i64 69), ([62], .int .i64 70), ([62, 61], .int .i64 71), ([97, 110, 100], .int .i64 72), ([111, 114], .int .i64 73)]
def opD : DataW Unit := M.putAll opTab (.map [])
theorem lastOf_mem : ∀ (l : List (List UInt8 × Lit)) (s : List UInt8) (z : Lit), M.lastOf l s z = z ∨ ∃ p ∈ l, p.1 = s ∧ M.lastOf l s z = p.2
  | [], _, _ => .inl rfl
  | p :: r, s, z => by
    unfold M.lastOf
    rcases lastOf_mem r s (if p.1 = s then p.2 else z) with h | ⟨q, h1, h2, h3⟩
    · by_cases e : p.1 = s
      · rw [if_pos e] at h
        exact .inr ⟨p, by simp, e, by rw [if_pos e]; exact h⟩
      · rw [if_neg e] at h
        exact .inl (by rw [if_neg e]; exact h)
    · exact .inr ⟨q, by simp [h1], h2, h3⟩
theorem opD_at (s : List UInt8) : opD.atKey (.string s) (.lit (.int .i64 (-1))) = .lit (M.lastOf opTab s (.int .i64 (-1))) :=
  M.atKey_putAll (H := Unit) s (.int .i64 (-1)) opTab (.map []) (.int .i64 (-1)) Maps.isMap_empty rfl
set_option maxHeartbeats 2000000 in
set_option maxRecDepth 100000 in
theorem operators_calls (w : World) : Calls Try.prog 33 #[] w fun e w' => e = .returned (.map (some w.heap.size)) ∧ w'.ownsMap Try.prog 9 fnElem w.heap.size 13 opD ∧ Below w.heap.size w w' := by
  have hmm := @run_makeMap Try.prog
  have hown : Aside0 ((w.alloc (.map #[] 0)).ownsMap (H := Unit) Try.prog 9 fnElem w.heap.size 0 (.map [])) := ⟨World.ownsMap_made _ _ _ _⟩
  have hb : Aside0 (Below w.heap.size w (w.alloc (.map #[] 0))) := ⟨(Below.refl _ _).alloc (Nat.le_refl _) _⟩
  go_enter Try.func33, Try.ntmps33
  go_wp2_with (refine M.wpList_insert_own (H := Unit) _ rfl _ _ _ 60 rfl 9 28 lawS Try.underlying60 fnElem _ _ _ rfl hown.out ?_ _ _ _ rfl rfl (keyOf_string_mk Try.underlying9 (by unfold maxLen; decide +kernel)) _ [] rfl ?_; (unfold maxLen; omega); intro w1 h1 g1; have hb' := Aside0.mk (hb.out.grown g1 hb.out.size (fun k e => by cases e; exact Nat.le_refl _)); clear hown hb g1; have hown := Aside0.mk h1; have hb := hb'; clear h1 hb')
  go_ret
  exact ⟨rfl, hown.out, hb.out⟩
theorem zeroF (w : World) : (zeroValue 28).run Try.prog w = .ok .nilFunc w := by kernel_rfl
theorem look_op (s : ByteArray) (hs : s.size ≤ 140737488351232) (w : World) (b n : Nat) (h : w.ownsMap (H := Unit) Try.prog 9 fnElem b n opD) :
    ((Instr.lookup 60 (.map (some b)) (.string s) true).run Try.prog w = .ok (.tuple #[.nilFunc, .bool false]) w ∧ M.lastOf opTab s.data.toList (.int .i64 (-1)) = .int .i64 (-1)) ∨
    ∃ n : Nat, M.lastOf opTab s.data.toList (.int .i64 (-1)) = .int .i64 n ∧ (Instr.lookup 60 (.map (some b)) (.string s) true).run Try.prog w = .ok (.tuple #[.func (.func n) #[] #[], .bool true]) w := by
  obtain ⟨es, clock, hb, F, _, hD⟩ := h
  rcases Maps.fit_look true lawS Try.underlying60 (zeroF w) hb F (keyOf_string_mk Try.underlying9 (s := s) (by unfold maxLen; omega)) with ⟨hrun, _, hat⟩ | ⟨e0, y, _, _, hrun, hR, hat, _⟩
  · rw [← hD] at hat
    have h1 := hat (.lit (.int .i64 (-1)))
    rw [opD_at] at h1
    exact .inl ⟨hrun, by simpa using h1⟩
  · rw [← hD] at hat
    have h1 := hat (.lit (.int .i64 (-1)))
    rw [opD_at] at h1
    obtain ⟨n, hn, rfl⟩ := fnElem_inv hR
    rw [hn] at hrun
    exact .inr ⟨n, by simpa using h1, hrun⟩
end Go.Proofs.Ytogknojocodhgaa.P
end
section
namespace Go.Proofs.Ytogknojocodhgaa.P
open Go.RowKit Go.WideMaps Go.Proofs.YtogknojocodhgaaW.PrintWords Go.Proofs.YtogknojocodhgaaW.PrintLast Go.Proofs.YtogknojocodhgaaW.PrintMore
set_option linter.unusedVariables false
set_option linter.unusedSimpArgs false
def lo (w : Int) : Int := -(2 ^ (w - 1).toNat)
def hi (w : Int) : Int := 2 ^ (w - 1).toNat - 1
def inW (w a : Int) : Bool := decide (lo w ≤ a) && decide (a ≤ hi w)
def bitB (a : Int) : Bool := decide (a = 0) || (a == 1)
def wrapR (w n : Int) : Int := shr .i64 (shl .i64 n (wrap64 (64 - w))) (wrap64 (64 - w))
theorem seven (w : Int) (h : 2 ≤ w ∧ w ≤ 8) : w = 2 ∨ w = 3 ∨ w = 4 ∨ w = 5 ∨ w = 6 ∨ w = 7 ∨ w = 8 := by omega
theorem isWidth_eq (w : Int) (h : 2 ≤ w ∧ w ≤ 8) : value_isWidth.f w = some true := by
  unfold value_isWidth.f; rw [if_pos h.1, decide_eq_true h.2]
theorem isWidth_no (w : Int) (h : ¬ (2 ≤ w ∧ w ≤ 8)) : value_isWidth.f w = some false := by
  unfold value_isWidth.f
  by_cases h1 : w ≥ 2
  · rw [if_pos h1, decide_eq_false (by omega)]
  · rw [if_neg h1]
theorem least_eq (w : Int) (h : 2 ≤ w ∧ w ≤ 8) : value_Least.f w = some (lo w) := by
  rcases seven w h with rfl | rfl | rfl | rfl | rfl | rfl | rfl <;> decide +kernel
theorem greatest_eq (w : Int) (h : 2 ≤ w ∧ w ≤ 8) : value_Greatest.f w = some (hi w) := by
  rcases seven w h with rfl | rfl | rfl | rfl | rfl | rfl | rfl <;> decide +kernel
theorem isInt_eq (w a : Int) (h : 2 ≤ w ∧ w ≤ 8) : value_isInt.f w a = some (inW w a) := by
  unfold value_isInt.f inW
  rw [least_eq w h, greatest_eq w h]
  simp only [Option.bind_some]
  by_cases h1 : a ≥ lo w
  · rw [if_pos h1, decide_eq_true (show lo w ≤ a from h1), Bool.true_and]
  · rw [if_neg h1, decide_eq_false (show ¬ lo w ≤ a from h1), Bool.false_and]
theorem isBool_eq (a : Int) : value_isBool.f a = some (bitB a) := by
  unfold value_isBool.f bitB
  by_cases h : a = 0
  · rw [if_pos h, decide_eq_true h]; rfl
  · rw [if_neg h, decide_eq_false h]; rfl
theorem wrap_eq (w n : Int) (h : 2 ≤ w ∧ w ≤ 8) : value_Wrap.f w n = some (wrapR w n) := by
  unfold value_Wrap.f wrapR
  rw [isWidth_eq w h]
  simp only [Option.bind_some]
  rw [if_pos trivial, if_pos (by unfold wrap64; omega)]
def opVal : Nat → Int → Int → Int
  | 60, a, b => wrap64 (a + b)
  | 61, a, b => wrap64 (a - b)
  | 62, a, b => wrap64 (a * b)
  | 63, a, b => wrap64 (Int.tdiv a b)
  | 64, a, b => Int.tmod a b
  | 65, a, b => (if a = b then 1 else 0)
  | 67, a, b => (if a = b then 0 else 1)
  | 68, a, b => (if a < b then 1 else 0)
  | 69, a, b => (if a ≤ b then 1 else 0)
  | 70, a, b => (if b < a then 1 else 0)
  | 71, a, b => (if b ≤ a then 1 else 0)
  | 72, a, b => mn a b
  | 73, a, b => mx a b
  | _, _, _ => 0
def binOp (n : Nat) (logic div arith : Bool) (w a b : Int) : Int × Int × Int :=
  if logic && !(bitB a && bitB b) then (0, 0, 2) else if !(inW w a && inW w b) then (0, 0, 2) else if div && decide (b = 0) then (0, 1, 0) else (if arith then wrapR w (opVal n a b) else opVal n a b, 0, 0)
theorem truth_calls (c : Bool) (w : World) : Calls Try.prog 66 #[.bool c] w fun e w' => e = .returned (.int .i64 (if c = true then 1 else 0)) ∧ w' = w := by
  go_enter Try.func66, Try.ntmps66
  cases c <;> (go_wp2; go_ret; exact ⟨rfl, rfl⟩)
set_option maxHeartbeats 1000000 in
theorem op_60 (a b : Int) (w : World) : Calls Try.prog 60 #[.int .i64 a, .int .i64 b] w fun e w' => e = .returned (.int .i64 (opVal 60 a b)) ∧ Drawn0 w w' := by
  go_enter Try.func60, Try.ntmps60
  go_wp2
  go_ret
  exact ⟨rfl, ⟨⟨0, rfl⟩⟩⟩
set_option maxHeartbeats 1000000 in
theorem op_61 (a b : Int) (w : World) : Calls Try.prog 61 #[.int .i64 a, .int .i64 b] w fun e w' => e = .returned (.int .i64 (opVal 61 a b)) ∧ Drawn0 w w' := by
  go_enter Try.func61, Try.ntmps61
  go_wp2
  go_ret
  exact ⟨rfl, ⟨⟨0, rfl⟩⟩⟩
set_option maxHeartbeats 1000000 in
theorem op_62 (a b : Int) (w : World) : Calls Try.prog 62 #[.int .i64 a, .int .i64 b] w fun e w' => e = .returned (.int .i64 (opVal 62 a b)) ∧ Drawn0 w w' := by
  go_enter Try.func62, Try.ntmps62
  go_wp2
  go_ret
  exact ⟨rfl, ⟨⟨0, rfl⟩⟩⟩
set_option maxHeartbeats 1000000 in
theorem op_63 (a b : Int) (hb : b ≠ 0) (w : World) : Calls Try.prog 63 #[.int .i64 a, .int .i64 b] w fun e w' => e = .returned (.int .i64 (opVal 63 a b)) ∧ Drawn0 w w' := by
  go_enter Try.func63, Try.ntmps63
  go_wp2
  go_ret
  exact ⟨rfl, ⟨⟨0, rfl⟩⟩⟩
set_option maxHeartbeats 1000000 in
theorem op_64 (a b : Int) (hb : b ≠ 0) (w : World) : Calls Try.prog 64 #[.int .i64 a, .int .i64 b] w fun e w' => e = .returned (.int .i64 (opVal 64 a b)) ∧ Drawn0 w w' := by
  go_enter Try.func64, Try.ntmps64
  go_wp2
  go_ret
  exact ⟨rfl, ⟨⟨0, rfl⟩⟩⟩
set_option maxHeartbeats 1000000 in
theorem op_65 (a b : Int) (w : World) : Calls Try.prog 65 #[.int .i64 a, .int .i64 b] w fun e w' => e = .returned (.int .i64 (opVal 65 a b)) ∧ Drawn0 w w' := by
  by_cases c : a = b
  · have c1 : decide (a = b) = true := decide_eq_true c
    have hv : opVal 65 a b = 1 := if_pos c
    rw [hv]
    go_enter Try.func65, Try.ntmps65
    go_wp2_with fail
    refine (truth_calls _ _).mono ?_
    rintro e w' ⟨rfl, rfl⟩
    go_wp2
    go_ret
    exact ⟨by simp [c], ⟨⟨0, rfl⟩⟩⟩
  · have c1 : decide (a = b) = false := decide_eq_false c
    have hv : opVal 65 a b = 0 := if_neg c
    rw [hv]
    go_enter Try.func65, Try.ntmps65
    go_wp2_with fail
    refine (truth_calls _ _).mono ?_
    rintro e w' ⟨rfl, rfl⟩
    go_wp2
    go_ret
    exact ⟨by simp [c], ⟨⟨0, rfl⟩⟩⟩
set_option maxHeartbeats 1000000 in
theorem op_67 (a b : Int) (w : World) : Calls Try.prog 67 #[.int .i64 a, .int .i64 b] w fun e w' => e = .returned (.int .i64 (opVal 67 a b)) ∧ Drawn0 w w' := by
  by_cases c : a = b
  · have c1 : decide (a = b) = true := decide_eq_true c
    have hv : opVal 67 a b = 0 := if_pos c
    rw [hv]
    go_enter Try.func67, Try.ntmps67
    go_wp2_with fail
    refine (truth_calls _ _).mono ?_
    rintro e w' ⟨rfl, rfl⟩
    go_wp2
    go_ret
    exact ⟨by simp [c], ⟨⟨0, rfl⟩⟩⟩
  · have c1 : decide (a = b) = false := decide_eq_false c
    have hv : opVal 67 a b = 1 := if_neg c
    rw [hv]
    go_enter Try.func67, Try.ntmps67
    go_wp2_with fail
    refine (truth_calls _ _).mono ?_
    rintro e w' ⟨rfl, rfl⟩
    go_wp2
    go_ret
    exact ⟨by simp [c], ⟨⟨0, rfl⟩⟩⟩
set_option maxHeartbeats 1000000 in
theorem op_68 (a b : Int) (w : World) : Calls Try.prog 68 #[.int .i64 a, .int .i64 b] w fun e w' => e = .returned (.int .i64 (opVal 68 a b)) ∧ Drawn0 w w' := by
  by_cases c : a < b
  · have c1 : decide (a < b) = true := decide_eq_true c
    have hv : opVal 68 a b = 1 := if_pos c
    rw [hv]
    go_enter Try.func68, Try.ntmps68
    go_wp2_with fail
    refine (truth_calls _ _).mono ?_
    rintro e w' ⟨rfl, rfl⟩
    go_wp2
    go_ret
    exact ⟨by simp [c], ⟨⟨0, rfl⟩⟩⟩
  · have c1 : decide (a < b) = false := decide_eq_false c
    have hv : opVal 68 a b = 0 := if_neg c
    rw [hv]
    go_enter Try.func68, Try.ntmps68
    go_wp2_with fail
    refine (truth_calls _ _).mono ?_
    rintro e w' ⟨rfl, rfl⟩
    go_wp2
    go_ret
    exact ⟨by simp [c], ⟨⟨0, rfl⟩⟩⟩
set_option maxHeartbeats 1000000 in
theorem op_69 (a b : Int) (w : World) : Calls Try.prog 69 #[.int .i64 a, .int .i64 b] w fun e w' => e = .returned (.int .i64 (opVal 69 a b)) ∧ Drawn0 w w' := by
  by_cases c : a ≤ b
  · have c1 : decide (a ≤ b) = true := decide_eq_true c
    have hv : opVal 69 a b = 1 := if_pos c
    rw [hv]
    go_enter Try.func69, Try.ntmps69
    go_wp2_with fail
    refine (truth_calls _ _).mono ?_
    rintro e w' ⟨rfl, rfl⟩
    go_wp2
    go_ret
    exact ⟨by simp [c], ⟨⟨0, rfl⟩⟩⟩
  · have c1 : decide (a ≤ b) = false := decide_eq_false c
    have hv : opVal 69 a b = 0 := if_neg c
    rw [hv]
    go_enter Try.func69, Try.ntmps69
    go_wp2_with fail
    refine (truth_calls _ _).mono ?_
    rintro e w' ⟨rfl, rfl⟩
    go_wp2
    go_ret
    exact ⟨by simp [c], ⟨⟨0, rfl⟩⟩⟩
set_option maxHeartbeats 1000000 in
theorem op_70 (a b : Int) (w : World) : Calls Try.prog 70 #[.int .i64 a, .int .i64 b] w fun e w' => e = .returned (.int .i64 (opVal 70 a b)) ∧ Drawn0 w w' := by
  by_cases c : b < a
  · have c1 : decide (b < a) = true := decide_eq_true c
    have hv : opVal 70 a b = 1 := if_pos c
    rw [hv]
    go_enter Try.func70, Try.ntmps70
    go_wp2_with fail
    refine (truth_calls _ _).mono ?_
    rintro e w' ⟨rfl, rfl⟩
    go_wp2
    go_ret
    exact ⟨by simp [c], ⟨⟨0, rfl⟩⟩⟩
  · have c1 : decide (b < a) = false := decide_eq_false c
    have hv : opVal 70 a b = 0 := if_neg c
    rw [hv]
    go_enter Try.func70, Try.ntmps70
    go_wp2_with fail
    refine (truth_calls _ _).mono ?_
    rintro e w' ⟨rfl, rfl⟩
    go_wp2
    go_ret
    exact ⟨by simp [c], ⟨⟨0, rfl⟩⟩⟩
set_option maxHeartbeats 1000000 in
theorem op_71 (a b : Int) (w : World) : Calls Try.prog 71 #[.int .i64 a, .int .i64 b] w fun e w' => e = .returned (.int .i64 (opVal 71 a b)) ∧ Drawn0 w w' := by
  by_cases c : b ≤ a
  · have c1 : decide (b ≤ a) = true := decide_eq_true c
    have hv : opVal 71 a b = 1 := if_pos c
    rw [hv]
    go_enter Try.func71, Try.ntmps71
    go_wp2_with fail
    refine (truth_calls _ _).mono ?_
    rintro e w' ⟨rfl, rfl⟩
    go_wp2
    go_ret
    exact ⟨by simp [c], ⟨⟨0, rfl⟩⟩⟩
  · have c1 : decide (b ≤ a) = false := decide_eq_false c
    have hv : opVal 71 a b = 0 := if_neg c
    rw [hv]
    go_enter Try.func71, Try.ntmps71
    go_wp2_with fail
    refine (truth_calls _ _).mono ?_
    rintro e w' ⟨rfl, rfl⟩
    go_wp2
    go_ret
    exact ⟨by simp [c], ⟨⟨0, rfl⟩⟩⟩
set_option maxHeartbeats 1000000 in
theorem op_72 (a b : Int) (w : World) : Calls Try.prog 72 #[.int .i64 a, .int .i64 b] w fun e w' => e = .returned (.int .i64 (opVal 72 a b)) ∧ Drawn0 w w' := by
  go_enter Try.func72, Try.ntmps72
  go_wp2
  all_goals (go_ret; refine ⟨?_, ⟨⟨0, rfl⟩⟩⟩; first | (show Ending.returned (Value.int .i64 a) = _; congr 2; show a = mn a b; unfold mn; split <;> omega) | (show Ending.returned (Value.int .i64 b) = _; congr 2; show b = mn a b; unfold mn; split <;> omega))
set_option maxHeartbeats 1000000 in
theorem op_73 (a b : Int) (w : World) : Calls Try.prog 73 #[.int .i64 a, .int .i64 b] w fun e w' => e = .returned (.int .i64 (opVal 73 a b)) ∧ Drawn0 w w' := by
  go_enter Try.func73, Try.ntmps73
  go_wp2
  all_goals (go_ret; refine ⟨?_, ⟨⟨0, rfl⟩⟩⟩; first | (show Ending.returned (Value.int .i64 a) = _; congr 2; show a = mx a b; unfold mx; split <;> omega) | (show Ending.returned (Value.int .i64 b) = _; congr 2; show b = mx a b; unfold mx; split <;> omega))
end Go.Proofs.Ytogknojocodhgaa.P
end
