-- Texts of this claim, put together and cut down to what is used (trim.py, a program of this session).
import Derived.Test.YtogknojocodhgaaZ10
import Derived.Test.YtogknojocodhgaaZ11
section
namespace Go.Proofs.Ytogknojocodhgaa.P
open Go.RowKit Go.WideMaps Go.Proofs.YtogknojocodhgaaW.PrintWords Go.Proofs.YtogknojocodhgaaW.PrintLast Go.Proofs.YtogknojocodhgaaW.PrintMore
set_option linter.unusedVariables false
set_option linter.unusedSimpArgs false
def isLogic (s : ByteArray) : Bool := s.data.toList == [97, 110, 100] || s.data.toList == [111, 114]
def isDiv (s : ByteArray) : Bool := s.data.toList == [47] || s.data.toList == [37]
def isArith (s : ByteArray) : Bool := s.data.toList == [43] || s.data.toList == [45] || s.data.toList == [42] || isDiv s
def opNo (s : ByteArray) : Int := match M.lastOf opTab s.data.toList (.int .i64 (-1)) with
  | .int _ n => n
  | _ => -1
def binR (w : Int) (s : ByteArray) (a b : Int) : Int × Int × Int :=
  if 2 ≤ w ∧ w ≤ 8 then (if opNo s = -1 then (0, 0, 1) else binOp (opNo s).toNat (isLogic s) (isDiv s) (isArith s) w a b) else (0, 0, 2)
set_option maxRecDepth 100000 in
theorem opNo_none (s : ByteArray) (h : opNo s = -1) : M.lastOf opTab s.data.toList (.int .i64 (-1)) = .int .i64 (-1) := by
  rcases lastOf_mem opTab s.data.toList (.int .i64 (-1)) with h2 | ⟨p, hp, h3, h4⟩
  · exact h2
  · exfalso
    unfold opNo at h
    rw [h4] at h
    have h5 : (opTab.all fun p => match p.2 with
      | .int _ n => decide (n ≠ -1)
      | _ => false) = true := by kernel_rfl
    have h6 := List.all_eq_true.mp h5 p hp
    revert h h6
    cases p.2 <;> simp
theorem binR_no (w : Int) (s : ByteArray) (a b : Int) (h : ¬ (2 ≤ w ∧ w ≤ 8)) : binR w s a b = (0, 0, 2) := if_neg h
set_option maxHeartbeats 1000000 in
set_option maxRecDepth 100000 in
theorem bin_width (a0 : Int) (a1 : ByteArray) (a2 a3 : Int) (hw : ¬ (2 ≤ a0 ∧ a0 ≤ 8)) (w : World) :
    Calls Try.prog 14 #[.int .i64 a0, .string a1, .int .i64 a2, .int .i64 a3] w fun e w' => e = .returned (.tuple #[.int .i64 0, .int .i64 0, .int .i64 2]) ∧ Below w.heap.size w w' := by
  go_enter Try.func14, Try.ntmps14
  go_wp2_with fail
  refine (value_isWidth.calls a0 false w (isWidth_no a0 hw)).mono ?_
  rintro e w1 ⟨rfl, ⟨n1, rfl⟩⟩
  go_wp2
  go_ret3
  exact ⟨rfl, Drawn0.below ⟨⟨_, rfl⟩⟩⟩
set_option maxHeartbeats 1000000 in
set_option maxRecDepth 100000 in
theorem bin_none (a0 : Int) (a1 : ByteArray) (a2 a3 : Int) (hw : 2 ≤ a0 ∧ a0 ≤ 8) (hsz : a1.size ≤ 140737488351232) (hn : M.lastOf opTab a1.data.toList (.int .i64 (-1)) = .int .i64 (-1)) (w : World) :
    Calls Try.prog 14 #[.int .i64 a0, .string a1, .int .i64 a2, .int .i64 a3] w fun e w' => e = .returned (.tuple #[.int .i64 0, .int .i64 0, .int .i64 1]) ∧ Below w.heap.size w w' := by
  go_enter Try.func14, Try.ntmps14
  go_wp2_with fail
  refine (value_isWidth.calls a0 true w (isWidth_eq a0 hw)).mono ?_
  rintro e w1 ⟨rfl, ⟨n1, rfl⟩⟩
  go_wp2_with fail
  refine (operators_calls _).mono ?_
  rintro e w2 ⟨rfl, hown, hb2⟩
  have HB2 : Aside0 (Below w.heap.size w w2) := ⟨(Drawn0.below ⟨⟨n1, rfl⟩⟩).trans (hb2.mono (by simp))⟩
  have hrun : (Instr.lookup 60 (.map (some w.heap.size)) (.string a1) true).run Try.prog w2 = .ok (.tuple #[.nilFunc, .bool false]) w2 := by
    rcases look_op a1 hsz w2 w.heap.size _ (by simpa using hown) with ⟨h, _⟩ | ⟨n, h4, _⟩
    · exact h
    · have h5 := hn.symm.trans h4
      simp at h5
  clear hown hb2
  go_wp2
  go_ret3
  exact ⟨rfl, HB2.out⟩
set_option maxRecDepth 100000 in
theorem binary_any (a0 : Int) (a1 : ByteArray) (a2 a3 : Int) (w : World) (hsz : a1.size ≤ 140737488351232) (hs : a1.size ≤ 1 ∨ ∃ m : Int, w.cell? ⟨0, 0, none⟩ = some (.int .i64 m)) :
    Calls Try.prog 14 #[.int .i64 a0, .string a1, .int .i64 a2, .int .i64 a3] w fun e w' => e = .returned (.tuple #[.int .i64 (binR a0 a1 a2 a3).1, .int .i64 (binR a0 a1 a2 a3).2.1, .int .i64 (binR a0 a1 a2 a3).2.2]) ∧ Below w.heap.size w w' := by
  by_cases hw : 2 ≤ a0 ∧ a0 ≤ 8
  case neg => rw [binR_no _ _ _ _ hw]; exact bin_width a0 a1 a2 a3 hw w
  by_cases hn : opNo a1 = -1
  · rw [show binR a0 a1 a2 a3 = (0, 0, 1) from by unfold binR; rw [if_pos hw, if_pos hn]]
    exact bin_none a0 a1 a2 a3 hw hsz (opNo_none a1 hn) w
  rw [show binR a0 a1 a2 a3 = binOp (opNo a1).toNat (isLogic a1) (isDiv a1) (isArith a1) a0 a2 a3 from by unfold binR; rw [if_pos hw, if_neg hn]]
  rcases lastOf_mem opTab a1.data.toList (.int .i64 (-1)) with h2 | ⟨p, hp, h3, h4⟩
  · exact absurd (by unfold opNo; rw [h2]) hn
  clear h4 hn
  simp only [opTab, List.mem_cons, List.not_mem_nil, or_false] at hp
  rcases hp with rfl | rfl | rfl | rfl | rfl | rfl | rfl | rfl | rfl | rfl | rfl | rfl | rfl
  · obtain rfl : a1 = (⟨#[43]⟩ : ByteArray) := ByteArray.ext (Array.toList_inj.mp h3.symm)
    exact bin_60 a0 a2 a3 hw w
  · obtain rfl : a1 = (⟨#[45]⟩ : ByteArray) := ByteArray.ext (Array.toList_inj.mp h3.symm)
    exact bin_61 a0 a2 a3 hw w
  · obtain rfl : a1 = (⟨#[42]⟩ : ByteArray) := ByteArray.ext (Array.toList_inj.mp h3.symm)
    exact bin_62 a0 a2 a3 hw w
  · obtain rfl : a1 = (⟨#[47]⟩ : ByteArray) := ByteArray.ext (Array.toList_inj.mp h3.symm)
    exact bin_63 a0 a2 a3 hw w
  · obtain rfl : a1 = (⟨#[37]⟩ : ByteArray) := ByteArray.ext (Array.toList_inj.mp h3.symm)
    exact bin_64 a0 a2 a3 hw w
  · obtain rfl : a1 = (⟨#[61, 61]⟩ : ByteArray) := ByteArray.ext (Array.toList_inj.mp h3.symm)
    rcases hs with hs | ⟨m, hm⟩
    · exact absurd hs (by decide)
    · exact bin_65 a0 a2 a3 hw w m hm
  · obtain rfl : a1 = (⟨#[33, 61]⟩ : ByteArray) := ByteArray.ext (Array.toList_inj.mp h3.symm)
    rcases hs with hs | ⟨m, hm⟩
    · exact absurd hs (by decide)
    · exact bin_67 a0 a2 a3 hw w m hm
  · obtain rfl : a1 = (⟨#[60]⟩ : ByteArray) := ByteArray.ext (Array.toList_inj.mp h3.symm)
    exact bin_68 a0 a2 a3 hw w
  · obtain rfl : a1 = (⟨#[60, 61]⟩ : ByteArray) := ByteArray.ext (Array.toList_inj.mp h3.symm)
    rcases hs with hs | ⟨m, hm⟩
    · exact absurd hs (by decide)
    · exact bin_69 a0 a2 a3 hw w m hm
  · obtain rfl : a1 = (⟨#[62]⟩ : ByteArray) := ByteArray.ext (Array.toList_inj.mp h3.symm)
    exact bin_70 a0 a2 a3 hw w
  · obtain rfl : a1 = (⟨#[62, 61]⟩ : ByteArray) := ByteArray.ext (Array.toList_inj.mp h3.symm)
    rcases hs with hs | ⟨m, hm⟩
    · exact absurd hs (by decide)
    · exact bin_71 a0 a2 a3 hw w m hm
  · obtain rfl : a1 = (⟨#[97, 110, 100]⟩ : ByteArray) := ByteArray.ext (Array.toList_inj.mp h3.symm)
    rcases hs with hs | ⟨m, hm⟩
    · exact absurd hs (by decide)
    · exact bin_72 a0 a2 a3 hw w m hm
  · obtain rfl : a1 = (⟨#[111, 114]⟩ : ByteArray) := ByteArray.ext (Array.toList_inj.mp h3.symm)
    rcases hs with hs | ⟨m, hm⟩
    · exact absurd hs (by decide)
    · exact bin_73 a0 a2 a3 hw w m hm
def value_Binary.f (a0 : Int) (a1 : ByteArray) (a2 : Int) (a3 : Int) : Option (Int × Int × Int) := if a1.size ≤ 1 then some (binR a0 a1 a2 a3) else none
theorem value_Binary.calls (a0 : Int) (a1 : ByteArray) (a2 : Int) (a3 : Int) (r1 r2 r3 : Int) (w : World) (h : value_Binary.f a0 a1 a2 a3 = some (r1, r2, r3)) :
    Calls Try.prog 14 #[.int .i64 a0, .string a1, .int .i64 a2, .int .i64 a3] w fun e w' => e = .returned (.tuple #[.int .i64 r1, .int .i64 r2, .int .i64 r3]) ∧ Below w.heap.size w w' := by
  unfold value_Binary.f at h
  split at h
  · rename_i hs
    have h2 := Option.some.inj h
    have h3 := binary_any a0 a1 a2 a3 w (by omega) (.inl hs)
    rw [h2] at h3
    exact h3
  · cases h
def value_BinaryM.f (a0 : Int) (a1 : ByteArray) (a2 : Int) (a3 : Int) : Option (Int × Int × Int) := if a1.size ≤ 140737488351232 then some (binR a0 a1 a2 a3) else none
theorem value_BinaryM.calls (a0 : Int) (a1 : ByteArray) (a2 : Int) (a3 : Int) (r1 r2 r3 : Int) (w : World) (hm : ∃ m : Int, w.cell? ⟨0, 0, none⟩ = some (.int .i64 m)) (h : value_BinaryM.f a0 a1 a2 a3 = some (r1, r2, r3)) :
    Calls Try.prog 14 #[.int .i64 a0, .string a1, .int .i64 a2, .int .i64 a3] w fun e w' => e = .returned (.tuple #[.int .i64 r1, .int .i64 r2, .int .i64 r3]) ∧ Below w.heap.size w w' := by
  unfold value_BinaryM.f at h
  split at h
  · rename_i hs
    have h2 := Option.some.inj h
    have h3 := binary_any a0 a1 a2 a3 w hs (.inr hm)
    rw [h2] at h3
    exact h3
  · cases h
end Go.Proofs.Ytogknojocodhgaa.P
end
