-- Texts of this claim, put together and cut down to what is used (trim.py, a program of this session).
import Derived.Test.YtogknojocodhgaaZ8
import Derived.Test.YtogknojocodhgaaZ9
section
namespace Go.Proofs.Ytogknojocodhgaa.P
open Go.RowKit Go.WideMaps Go.Proofs.YtogknojocodhgaaW.PrintWords Go.Proofs.YtogknojocodhgaaW.PrintLast Go.Proofs.YtogknojocodhgaaW.PrintMore
set_option linter.unusedVariables false
set_option linter.unusedSimpArgs false
theorem look_65 (w : World) (b n : Nat) (h : w.ownsMap (H := Unit) Try.prog 9 fnElem b n opD) : (Instr.lookup 60 (.map (some b)) (.string (⟨#[61, 61]⟩ : ByteArray)) true).run Try.prog w = .ok (.tuple #[.func (.func 65) #[] #[], .bool true]) w := by
  have e : M.lastOf opTab [61, 61] (.int .i64 (-1)) = .int .i64 65 := by kernel_rfl
  rcases look_op (⟨#[61, 61]⟩ : ByteArray) (by decide) w b n h with ⟨_, h2⟩ | ⟨m, h4, h5⟩
  · exact absurd (e.symm.trans h2) (by simp)
  · rw [h5]
    have h6 : m = 65 := by
      have h7 := e.symm.trans h4
      have h8 : (65 : Int) = m := by simpa using h7
      omega
    rw [h6]
set_option maxHeartbeats 800000 in
set_option maxRecDepth 100000 in
theorem bin_65 (w0 a b : Int) (hw : 2 ≤ w0 ∧ w0 ≤ 8) (w : World) (m : Int) (hm : w.cell? ⟨0, 0, none⟩ = some (.int .i64 m)) : Calls Try.prog 14 #[.int .i64 w0, .string (⟨#[61, 61]⟩ : ByteArray), .int .i64 a, .int .i64 b] w fun e w' => e = .returned (.tuple #[.int .i64 (binOp 65 false false false w0 a b).1, .int .i64 (binOp 65 false false false w0 a b).2.1, .int .i64 (binOp 65 false false false w0 a b).2.2]) ∧ Below w.heap.size w w' := by
  have eI := isInt_eq w0 a hw
  have eJ := isInt_eq w0 b hw
  have eA := isBool_eq a
  have eB := isBool_eq b
  cases hI : inW w0 a
  · rw [hI] at eI
    have hR : binOp 65 false false false w0 a b = (0, 0, 2) := by
      unfold binOp
      simp [hI]
    go_enter Try.func14, Try.ntmps14
    go_wp2_with fail
    refine (value_isWidth.calls w0 true w (isWidth_eq w0 hw)).mono ?_
    rintro e w1 ⟨rfl, ⟨n1, rfl⟩⟩
    go_wp2_with fail
    refine (operators_calls _).mono ?_
    rintro e w2 ⟨rfl, hown, hb2⟩
    have HB2 : Aside0 (Below w.heap.size w w2) := ⟨(Drawn0.below ⟨⟨n1, rfl⟩⟩).trans (hb2.mono (by simp))⟩
    have hrun : (Instr.lookup 60 (.map (some w.heap.size)) (.string (⟨#[61, 61]⟩ : ByteArray)) true).run Try.prog w2 = .ok (.tuple #[.func (.func 65) #[] #[], .bool true]) w2 := look_65 w2 w.heap.size _ (by simpa using hown)
    clear hown hb2
    go_wp2_with fail
    refine (value_isInt.calls w0 a false _ eI).mono ?_
    rintro e w3 ⟨rfl, ⟨nd_, rfl⟩⟩
    go_wp2
    go_ret3
    refine ⟨by rw [hR]; rfl, ?_⟩
    repeat (first | exact HB4.out | exact HB2.out | apply pw_below_drewN | apply below_drew1)
  · rw [hI] at eI
    cases hJ : inW w0 b
    · rw [hJ] at eJ
      have hR : binOp 65 false false false w0 a b = (0, 0, 2) := by
        unfold binOp
        simp [hI, hJ]
      go_enter Try.func14, Try.ntmps14
      go_wp2_with fail
      refine (value_isWidth.calls w0 true w (isWidth_eq w0 hw)).mono ?_
      rintro e w1 ⟨rfl, ⟨n1, rfl⟩⟩
      go_wp2_with fail
      refine (operators_calls _).mono ?_
      rintro e w2 ⟨rfl, hown, hb2⟩
      have HB2 : Aside0 (Below w.heap.size w w2) := ⟨(Drawn0.below ⟨⟨n1, rfl⟩⟩).trans (hb2.mono (by simp))⟩
      have hrun : (Instr.lookup 60 (.map (some w.heap.size)) (.string (⟨#[61, 61]⟩ : ByteArray)) true).run Try.prog w2 = .ok (.tuple #[.func (.func 65) #[] #[], .bool true]) w2 := look_65 w2 w.heap.size _ (by simpa using hown)
      clear hown hb2
      go_wp2_with fail
      refine (value_isInt.calls w0 a true _ eI).mono ?_
      rintro e w3 ⟨rfl, ⟨nd_, rfl⟩⟩
      go_wp2_with fail
      refine (value_isInt.calls w0 b false _ eJ).mono ?_
      rintro e w3 ⟨rfl, ⟨nd_, rfl⟩⟩
      go_wp2
      go_ret3
      refine ⟨by rw [hR]; rfl, ?_⟩
      repeat (first | exact HB4.out | exact HB2.out | apply pw_below_drewN | apply below_drew1)
    · rw [hJ] at eJ
      by_cases hb : b = 0
      · subst hb
        have hR : binOp 65 false false false w0 a 0 = (opVal 65 a 0, 0, 0) := by
          unfold binOp
          simp [hI, hJ]
        go_enter Try.func14, Try.ntmps14
        go_wp2_with fail
        refine (value_isWidth.calls w0 true w (isWidth_eq w0 hw)).mono ?_
        rintro e w1 ⟨rfl, ⟨n1, rfl⟩⟩
        go_wp2_with fail
        refine (operators_calls _).mono ?_
        rintro e w2 ⟨rfl, hown, hb2⟩
        have HB2 : Aside0 (Below w.heap.size w w2) := ⟨(Drawn0.below ⟨⟨n1, rfl⟩⟩).trans (hb2.mono (by simp))⟩
        have hrun : (Instr.lookup 60 (.map (some w.heap.size)) (.string (⟨#[61, 61]⟩ : ByteArray)) true).run Try.prog w2 = .ok (.tuple #[.func (.func 65) #[] #[], .bool true]) w2 := look_65 w2 w.heap.size _ (by simpa using hown)
        clear hown hb2
        go_wp2_with fail
        refine (value_isInt.calls w0 a true _ eI).mono ?_
        rintro e w3 ⟨rfl, ⟨nd_, rfl⟩⟩
        go_wp2_with fail
        refine (value_isInt.calls w0 0 true _ eJ).mono ?_
        rintro e w3 ⟨rfl, ⟨nd_, rfl⟩⟩
        go_wp2_with fail
        refine (op_65 a 0 _).mono ?_
        rintro e w4 ⟨rfl, hd4⟩
        have HB4 : Aside0 (Below w.heap.size w w4) := ⟨Below.trans (by repeat (first | exact HB2.out | apply pw_below_drewN | apply below_drew1)) (hd4.below.mono (by simp; exact HB2.out.size))⟩
        clear hd4
        have hm5 : w4.cell? ⟨0, 0, none⟩ = some (.int .i64 m) := by rw [HB4.out.cell (p := ⟨0, 0, none⟩) (World.block_lt_of_cell? w _ hm)]; exact hm
        have hcon : Lib.contains (⟨#[43, 45, 42, 47, 37]⟩ : ByteArray).data.toList (⟨#[61, 61]⟩ : ByteArray).data.toList = false := by decide +kernel
        go_wp2_with fail
        refine (Try.strings_Contains (⟨#[43, 45, 42, 47, 37]⟩ : ByteArray) (⟨#[61, 61]⟩ : ByteArray) m _ (by decide) hm5).mono ?_
        rw [hcon]
        rintro e w5 ⟨rfl, rfl⟩
        go_wp2
        go_ret3
        refine ⟨by rw [hR]; rfl, ?_⟩
        repeat (first | exact HB4.out | exact HB2.out | apply pw_below_drewN | apply below_drew1)
      · have hbb : (b == 0) = false := beq_eq_false_iff_ne.mpr hb
        have hR : binOp 65 false false false w0 a b = (opVal 65 a b, 0, 0) := by
          unfold binOp
          simp [hI, hJ]
        go_enter Try.func14, Try.ntmps14
        go_wp2_with fail
        refine (value_isWidth.calls w0 true w (isWidth_eq w0 hw)).mono ?_
        rintro e w1 ⟨rfl, ⟨n1, rfl⟩⟩
        go_wp2_with fail
        refine (operators_calls _).mono ?_
        rintro e w2 ⟨rfl, hown, hb2⟩
        have HB2 : Aside0 (Below w.heap.size w w2) := ⟨(Drawn0.below ⟨⟨n1, rfl⟩⟩).trans (hb2.mono (by simp))⟩
        have hrun : (Instr.lookup 60 (.map (some w.heap.size)) (.string (⟨#[61, 61]⟩ : ByteArray)) true).run Try.prog w2 = .ok (.tuple #[.func (.func 65) #[] #[], .bool true]) w2 := look_65 w2 w.heap.size _ (by simpa using hown)
        clear hown hb2
        go_wp2_with fail
        refine (value_isInt.calls w0 a true _ eI).mono ?_
        rintro e w3 ⟨rfl, ⟨nd_, rfl⟩⟩
        go_wp2_with fail
        refine (value_isInt.calls w0 b true _ eJ).mono ?_
        rintro e w3 ⟨rfl, ⟨nd_, rfl⟩⟩
        go_wp2_with fail
        refine (op_65 a b _).mono ?_
        rintro e w4 ⟨rfl, hd4⟩
        have HB4 : Aside0 (Below w.heap.size w w4) := ⟨Below.trans (by repeat (first | exact HB2.out | apply pw_below_drewN | apply below_drew1)) (hd4.below.mono (by simp; exact HB2.out.size))⟩
        clear hd4
        have hm5 : w4.cell? ⟨0, 0, none⟩ = some (.int .i64 m) := by rw [HB4.out.cell (p := ⟨0, 0, none⟩) (World.block_lt_of_cell? w _ hm)]; exact hm
        have hcon : Lib.contains (⟨#[43, 45, 42, 47, 37]⟩ : ByteArray).data.toList (⟨#[61, 61]⟩ : ByteArray).data.toList = false := by decide +kernel
        go_wp2_with fail
        refine (Try.strings_Contains (⟨#[43, 45, 42, 47, 37]⟩ : ByteArray) (⟨#[61, 61]⟩ : ByteArray) m _ (by decide) hm5).mono ?_
        rw [hcon]
        rintro e w5 ⟨rfl, rfl⟩
        go_wp2
        go_ret3
        refine ⟨by rw [hR]; rfl, ?_⟩
        repeat (first | exact HB4.out | exact HB2.out | apply pw_below_drewN | apply below_drew1)
theorem look_67 (w : World) (b n : Nat) (h : w.ownsMap (H := Unit) Try.prog 9 fnElem b n opD) : (Instr.lookup 60 (.map (some b)) (.string (⟨#[33, 61]⟩ : ByteArray)) true).run Try.prog w = .ok (.tuple #[.func (.func 67) #[] #[], .bool true]) w := by
  have e : M.lastOf opTab [33, 61] (.int .i64 (-1)) = .int .i64 67 := by kernel_rfl
  rcases look_op (⟨#[33, 61]⟩ : ByteArray) (by decide) w b n h with ⟨_, h2⟩ | ⟨m, h4, h5⟩
  · exact absurd (e.symm.trans h2) (by simp)
  · rw [h5]
    have h6 : m = 67 := by
      have h7 := e.symm.trans h4
      have h8 : (67 : Int) = m := by simpa using h7
      omega
    rw [h6]
set_option maxHeartbeats 800000 in
set_option maxRecDepth 100000 in
theorem bin_67 (w0 a b : Int) (hw : 2 ≤ w0 ∧ w0 ≤ 8) (w : World) (m : Int) (hm : w.cell? ⟨0, 0, none⟩ = some (.int .i64 m)) : Calls Try.prog 14 #[.int .i64 w0, .string (⟨#[33, 61]⟩ : ByteArray), .int .i64 a, .int .i64 b] w fun e w' => e = .returned (.tuple #[.int .i64 (binOp 67 false false false w0 a b).1, .int .i64 (binOp 67 false false false w0 a b).2.1, .int .i64 (binOp 67 false false false w0 a b).2.2]) ∧ Below w.heap.size w w' := by
  have eI := isInt_eq w0 a hw
  have eJ := isInt_eq w0 b hw
  have eA := isBool_eq a
  have eB := isBool_eq b
  cases hI : inW w0 a
  · rw [hI] at eI
    have hR : binOp 67 false false false w0 a b = (0, 0, 2) := by
      unfold binOp
      simp [hI]
    go_enter Try.func14, Try.ntmps14
    go_wp2_with fail
    refine (value_isWidth.calls w0 true w (isWidth_eq w0 hw)).mono ?_
    rintro e w1 ⟨rfl, ⟨n1, rfl⟩⟩
    go_wp2_with fail
    refine (operators_calls _).mono ?_
    rintro e w2 ⟨rfl, hown, hb2⟩
    have HB2 : Aside0 (Below w.heap.size w w2) := ⟨(Drawn0.below ⟨⟨n1, rfl⟩⟩).trans (hb2.mono (by simp))⟩
    have hrun : (Instr.lookup 60 (.map (some w.heap.size)) (.string (⟨#[33, 61]⟩ : ByteArray)) true).run Try.prog w2 = .ok (.tuple #[.func (.func 67) #[] #[], .bool true]) w2 := look_67 w2 w.heap.size _ (by simpa using hown)
    clear hown hb2
    go_wp2_with fail
    refine (value_isInt.calls w0 a false _ eI).mono ?_
    rintro e w3 ⟨rfl, ⟨nd_, rfl⟩⟩
    go_wp2
    go_ret3
    refine ⟨by rw [hR]; rfl, ?_⟩
    repeat (first | exact HB4.out | exact HB2.out | apply pw_below_drewN | apply below_drew1)
  · rw [hI] at eI
    cases hJ : inW w0 b
    · rw [hJ] at eJ
      have hR : binOp 67 false false false w0 a b = (0, 0, 2) := by
        unfold binOp
        simp [hI, hJ]
      go_enter Try.func14, Try.ntmps14
      go_wp2_with fail
      refine (value_isWidth.calls w0 true w (isWidth_eq w0 hw)).mono ?_
      rintro e w1 ⟨rfl, ⟨n1, rfl⟩⟩
      go_wp2_with fail
      refine (operators_calls _).mono ?_
      rintro e w2 ⟨rfl, hown, hb2⟩
      have HB2 : Aside0 (Below w.heap.size w w2) := ⟨(Drawn0.below ⟨⟨n1, rfl⟩⟩).trans (hb2.mono (by simp))⟩
      have hrun : (Instr.lookup 60 (.map (some w.heap.size)) (.string (⟨#[33, 61]⟩ : ByteArray)) true).run Try.prog w2 = .ok (.tuple #[.func (.func 67) #[] #[], .bool true]) w2 := look_67 w2 w.heap.size _ (by simpa using hown)
      clear hown hb2
      go_wp2_with fail
      refine (value_isInt.calls w0 a true _ eI).mono ?_
      rintro e w3 ⟨rfl, ⟨nd_, rfl⟩⟩
      go_wp2_with fail
      refine (value_isInt.calls w0 b false _ eJ).mono ?_
      rintro e w3 ⟨rfl, ⟨nd_, rfl⟩⟩
      go_wp2
      go_ret3
      refine ⟨by rw [hR]; rfl, ?_⟩
      repeat (first | exact HB4.out | exact HB2.out | apply pw_below_drewN | apply below_drew1)
    · rw [hJ] at eJ
      by_cases hb : b = 0
      · subst hb
        have hR : binOp 67 false false false w0 a 0 = (opVal 67 a 0, 0, 0) := by
          unfold binOp
          simp [hI, hJ]
        go_enter Try.func14, Try.ntmps14
        go_wp2_with fail
        refine (value_isWidth.calls w0 true w (isWidth_eq w0 hw)).mono ?_
        rintro e w1 ⟨rfl, ⟨n1, rfl⟩⟩
        go_wp2_with fail
        refine (operators_calls _).mono ?_
        rintro e w2 ⟨rfl, hown, hb2⟩
        have HB2 : Aside0 (Below w.heap.size w w2) := ⟨(Drawn0.below ⟨⟨n1, rfl⟩⟩).trans (hb2.mono (by simp))⟩
        have hrun : (Instr.lookup 60 (.map (some w.heap.size)) (.string (⟨#[33, 61]⟩ : ByteArray)) true).run Try.prog w2 = .ok (.tuple #[.func (.func 67) #[] #[], .bool true]) w2 := look_67 w2 w.heap.size _ (by simpa using hown)
        clear hown hb2
        go_wp2_with fail
        refine (value_isInt.calls w0 a true _ eI).mono ?_
        rintro e w3 ⟨rfl, ⟨nd_, rfl⟩⟩
        go_wp2_with fail
        refine (value_isInt.calls w0 0 true _ eJ).mono ?_
        rintro e w3 ⟨rfl, ⟨nd_, rfl⟩⟩
        go_wp2_with fail
        refine (op_67 a 0 _).mono ?_
        rintro e w4 ⟨rfl, hd4⟩
        have HB4 : Aside0 (Below w.heap.size w w4) := ⟨Below.trans (by repeat (first | exact HB2.out | apply pw_below_drewN | apply below_drew1)) (hd4.below.mono (by simp; exact HB2.out.size))⟩
        clear hd4
        have hm5 : w4.cell? ⟨0, 0, none⟩ = some (.int .i64 m) := by rw [HB4.out.cell (p := ⟨0, 0, none⟩) (World.block_lt_of_cell? w _ hm)]; exact hm
        have hcon : Lib.contains (⟨#[43, 45, 42, 47, 37]⟩ : ByteArray).data.toList (⟨#[33, 61]⟩ : ByteArray).data.toList = false := by decide +kernel
        go_wp2_with fail
        refine (Try.strings_Contains (⟨#[43, 45, 42, 47, 37]⟩ : ByteArray) (⟨#[33, 61]⟩ : ByteArray) m _ (by decide) hm5).mono ?_
        rw [hcon]
        rintro e w5 ⟨rfl, rfl⟩
        go_wp2
        go_ret3
        refine ⟨by rw [hR]; rfl, ?_⟩
        repeat (first | exact HB4.out | exact HB2.out | apply pw_below_drewN | apply below_drew1)
      · have hbb : (b == 0) = false := beq_eq_false_iff_ne.mpr hb
        have hR : binOp 67 false false false w0 a b = (opVal 67 a b, 0, 0) := by
          unfold binOp
          simp [hI, hJ]
        go_enter Try.func14, Try.ntmps14
        go_wp2_with fail
        refine (value_isWidth.calls w0 true w (isWidth_eq w0 hw)).mono ?_
        rintro e w1 ⟨rfl, ⟨n1, rfl⟩⟩
        go_wp2_with fail
        refine (operators_calls _).mono ?_
        rintro e w2 ⟨rfl, hown, hb2⟩
        have HB2 : Aside0 (Below w.heap.size w w2) := ⟨(Drawn0.below ⟨⟨n1, rfl⟩⟩).trans (hb2.mono (by simp))⟩
        have hrun : (Instr.lookup 60 (.map (some w.heap.size)) (.string (⟨#[33, 61]⟩ : ByteArray)) true).run Try.prog w2 = .ok (.tuple #[.func (.func 67) #[] #[], .bool true]) w2 := look_67 w2 w.heap.size _ (by simpa using hown)
        clear hown hb2
        go_wp2_with fail
        refine (value_isInt.calls w0 a true _ eI).mono ?_
        rintro e w3 ⟨rfl, ⟨nd_, rfl⟩⟩
        go_wp2_with fail
        refine (value_isInt.calls w0 b true _ eJ).mono ?_
        rintro e w3 ⟨rfl, ⟨nd_, rfl⟩⟩
        go_wp2_with fail
        refine (op_67 a b _).mono ?_
        rintro e w4 ⟨rfl, hd4⟩
        have HB4 : Aside0 (Below w.heap.size w w4) := ⟨Below.trans (by repeat (first | exact HB2.out | apply pw_below_drewN | apply below_drew1)) (hd4.below.mono (by simp; exact HB2.out.size))⟩
        clear hd4
        have hm5 : w4.cell? ⟨0, 0, none⟩ = some (.int .i64 m) := by rw [HB4.out.cell (p := ⟨0, 0, none⟩) (World.block_lt_of_cell? w _ hm)]; exact hm
        have hcon : Lib.contains (⟨#[43, 45, 42, 47, 37]⟩ : ByteArray).data.toList (⟨#[33, 61]⟩ : ByteArray).data.toList = false := by decide +kernel
        go_wp2_with fail
        refine (Try.strings_Contains (⟨#[43, 45, 42, 47, 37]⟩ : ByteArray) (⟨#[33, 61]⟩ : ByteArray) m _ (by decide) hm5).mono ?_
        rw [hcon]
        rintro e w5 ⟨rfl, rfl⟩
        go_wp2
        go_ret3
        refine ⟨by rw [hR]; rfl, ?_⟩
        repeat (first | exact HB4.out | exact HB2.out | apply pw_below_drewN | apply below_drew1)
theorem look_69 (w : World) (b n : Nat) (h : w.ownsMap (H := Unit) Try.prog 9 fnElem b n opD) : (Instr.lookup 60 (.map (some b)) (.string (⟨#[60, 61]⟩ : ByteArray)) true).run Try.prog w = .ok (.tuple #[.func (.func 69) #[] #[], .bool true]) w := by
  have e : M.lastOf opTab [60, 61] (.int .i64 (-1)) = .int .i64 69 := by kernel_rfl
  rcases look_op (⟨#[60, 61]⟩ : ByteArray) (by decide) w b n h with ⟨_, h2⟩ | ⟨m, h4, h5⟩
  · exact absurd (e.symm.trans h2) (by simp)
  · rw [h5]
    have h6 : m = 69 := by
      have h7 := e.symm.trans h4
      have h8 : (69 : Int) = m := by simpa using h7
      omega
    rw [h6]
set_option maxHeartbeats 800000 in
set_option maxRecDepth 100000 in
theorem bin_69 (w0 a b : Int) (hw : 2 ≤ w0 ∧ w0 ≤ 8) (w : World) (m : Int) (hm : w.cell? ⟨0, 0, none⟩ = some (.int .i64 m)) : Calls Try.prog 14 #[.int .i64 w0, .string (⟨#[60, 61]⟩ : ByteArray), .int .i64 a, .int .i64 b] w fun e w' => e = .returned (.tuple #[.int .i64 (binOp 69 false false false w0 a b).1, .int .i64 (binOp 69 false false false w0 a b).2.1, .int .i64 (binOp 69 false false false w0 a b).2.2]) ∧ Below w.heap.size w w' := by
  have eI := isInt_eq w0 a hw
  have eJ := isInt_eq w0 b hw
  have eA := isBool_eq a
  have eB := isBool_eq b
  cases hI : inW w0 a
  · rw [hI] at eI
    have hR : binOp 69 false false false w0 a b = (0, 0, 2) := by
      unfold binOp
      simp [hI]
    go_enter Try.func14, Try.ntmps14
    go_wp2_with fail
    refine (value_isWidth.calls w0 true w (isWidth_eq w0 hw)).mono ?_
    rintro e w1 ⟨rfl, ⟨n1, rfl⟩⟩
    go_wp2_with fail
    refine (operators_calls _).mono ?_
    rintro e w2 ⟨rfl, hown, hb2⟩
    have HB2 : Aside0 (Below w.heap.size w w2) := ⟨(Drawn0.below ⟨⟨n1, rfl⟩⟩).trans (hb2.mono (by simp))⟩
    have hrun : (Instr.lookup 60 (.map (some w.heap.size)) (.string (⟨#[60, 61]⟩ : ByteArray)) true).run Try.prog w2 = .ok (.tuple #[.func (.func 69) #[] #[], .bool true]) w2 := look_69 w2 w.heap.size _ (by simpa using hown)
    clear hown hb2
    go_wp2_with fail
    refine (value_isInt.calls w0 a false _ eI).mono ?_
    rintro e w3 ⟨rfl, ⟨nd_, rfl⟩⟩
    go_wp2
    go_ret3
    refine ⟨by rw [hR]; rfl, ?_⟩
    repeat (first | exact HB4.out | exact HB2.out | apply pw_below_drewN | apply below_drew1)
  · rw [hI] at eI
    cases hJ : inW w0 b
    · rw [hJ] at eJ
      have hR : binOp 69 false false false w0 a b = (0, 0, 2) := by
        unfold binOp
        simp [hI, hJ]
      go_enter Try.func14, Try.ntmps14
      go_wp2_with fail
      refine (value_isWidth.calls w0 true w (isWidth_eq w0 hw)).mono ?_
      rintro e w1 ⟨rfl, ⟨n1, rfl⟩⟩
      go_wp2_with fail
      refine (operators_calls _).mono ?_
      rintro e w2 ⟨rfl, hown, hb2⟩
      have HB2 : Aside0 (Below w.heap.size w w2) := ⟨(Drawn0.below ⟨⟨n1, rfl⟩⟩).trans (hb2.mono (by simp))⟩
      have hrun : (Instr.lookup 60 (.map (some w.heap.size)) (.string (⟨#[60, 61]⟩ : ByteArray)) true).run Try.prog w2 = .ok (.tuple #[.func (.func 69) #[] #[], .bool true]) w2 := look_69 w2 w.heap.size _ (by simpa using hown)
      clear hown hb2
      go_wp2_with fail
      refine (value_isInt.calls w0 a true _ eI).mono ?_
      rintro e w3 ⟨rfl, ⟨nd_, rfl⟩⟩
      go_wp2_with fail
      refine (value_isInt.calls w0 b false _ eJ).mono ?_
      rintro e w3 ⟨rfl, ⟨nd_, rfl⟩⟩
      go_wp2
      go_ret3
      refine ⟨by rw [hR]; rfl, ?_⟩
      repeat (first | exact HB4.out | exact HB2.out | apply pw_below_drewN | apply below_drew1)
    · rw [hJ] at eJ
      by_cases hb : b = 0
      · subst hb
        have hR : binOp 69 false false false w0 a 0 = (opVal 69 a 0, 0, 0) := by
          unfold binOp
          simp [hI, hJ]
        go_enter Try.func14, Try.ntmps14
        go_wp2_with fail
        refine (value_isWidth.calls w0 true w (isWidth_eq w0 hw)).mono ?_
        rintro e w1 ⟨rfl, ⟨n1, rfl⟩⟩
        go_wp2_with fail
        refine (operators_calls _).mono ?_
        rintro e w2 ⟨rfl, hown, hb2⟩
        have HB2 : Aside0 (Below w.heap.size w w2) := ⟨(Drawn0.below ⟨⟨n1, rfl⟩⟩).trans (hb2.mono (by simp))⟩
        have hrun : (Instr.lookup 60 (.map (some w.heap.size)) (.string (⟨#[60, 61]⟩ : ByteArray)) true).run Try.prog w2 = .ok (.tuple #[.func (.func 69) #[] #[], .bool true]) w2 := look_69 w2 w.heap.size _ (by simpa using hown)
        clear hown hb2
        go_wp2_with fail
        refine (value_isInt.calls w0 a true _ eI).mono ?_
        rintro e w3 ⟨rfl, ⟨nd_, rfl⟩⟩
        go_wp2_with fail
        refine (value_isInt.calls w0 0 true _ eJ).mono ?_
        rintro e w3 ⟨rfl, ⟨nd_, rfl⟩⟩
        go_wp2_with fail
        refine (op_69 a 0 _).mono ?_
        rintro e w4 ⟨rfl, hd4⟩
        have HB4 : Aside0 (Below w.heap.size w w4) := ⟨Below.trans (by repeat (first | exact HB2.out | apply pw_below_drewN | apply below_drew1)) (hd4.below.mono (by simp; exact HB2.out.size))⟩
        clear hd4
        have hm5 : w4.cell? ⟨0, 0, none⟩ = some (.int .i64 m) := by rw [HB4.out.cell (p := ⟨0, 0, none⟩) (World.block_lt_of_cell? w _ hm)]; exact hm
        have hcon : Lib.contains (⟨#[43, 45, 42, 47, 37]⟩ : ByteArray).data.toList (⟨#[60, 61]⟩ : ByteArray).data.toList = false := by decide +kernel
        go_wp2_with fail
        refine (Try.strings_Contains (⟨#[43, 45, 42, 47, 37]⟩ : ByteArray) (⟨#[60, 61]⟩ : ByteArray) m _ (by decide) hm5).mono ?_
        rw [hcon]
        rintro e w5 ⟨rfl, rfl⟩
        go_wp2
        go_ret3
        refine ⟨by rw [hR]; rfl, ?_⟩
        repeat (first | exact HB4.out | exact HB2.out | apply pw_below_drewN | apply below_drew1)
      · have hbb : (b == 0) = false := beq_eq_false_iff_ne.mpr hb
        have hR : binOp 69 false false false w0 a b = (opVal 69 a b, 0, 0) := by
          unfold binOp
          simp [hI, hJ]
        go_enter Try.func14, Try.ntmps14
        go_wp2_with fail
        refine (value_isWidth.calls w0 true w (isWidth_eq w0 hw)).mono ?_
        rintro e w1 ⟨rfl, ⟨n1, rfl⟩⟩
        go_wp2_with fail
        refine (operators_calls _).mono ?_
        rintro e w2 ⟨rfl, hown, hb2⟩
        have HB2 : Aside0 (Below w.heap.size w w2) := ⟨(Drawn0.below ⟨⟨n1, rfl⟩⟩).trans (hb2.mono (by simp))⟩
        have hrun : (Instr.lookup 60 (.map (some w.heap.size)) (.string (⟨#[60, 61]⟩ : ByteArray)) true).run Try.prog w2 = .ok (.tuple #[.func (.func 69) #[] #[], .bool true]) w2 := look_69 w2 w.heap.size _ (by simpa using hown)
        clear hown hb2
        go_wp2_with fail
        refine (value_isInt.calls w0 a true _ eI).mono ?_
        rintro e w3 ⟨rfl, ⟨nd_, rfl⟩⟩
        go_wp2_with fail
        refine (value_isInt.calls w0 b true _ eJ).mono ?_
        rintro e w3 ⟨rfl, ⟨nd_, rfl⟩⟩
        go_wp2_with fail
        refine (op_69 a b _).mono ?_
        rintro e w4 ⟨rfl, hd4⟩
        have HB4 : Aside0 (Below w.heap.size w w4) := ⟨Below.trans (by repeat (first | exact HB2.out | apply pw_below_drewN | apply below_drew1)) (hd4.below.mono (by simp; exact HB2.out.size))⟩
        clear hd4
        have hm5 : w4.cell? ⟨0, 0, none⟩ = some (.int .i64 m) := by rw [HB4.out.cell (p := ⟨0, 0, none⟩) (World.block_lt_of_cell? w _ hm)]; exact hm
        have hcon : Lib.contains (⟨#[43, 45, 42, 47, 37]⟩ : ByteArray).data.toList (⟨#[60, 61]⟩ : ByteArray).data.toList = false := by decide +kernel
        go_wp2_with fail
        refine (Try.strings_Contains (⟨#[43, 45, 42, 47, 37]⟩ : ByteArray) (⟨#[60, 61]⟩ : ByteArray) m _ (by decide) hm5).mono ?_
        rw [hcon]
        rintro e w5 ⟨rfl, rfl⟩
        go_wp2
        go_ret3
        refine ⟨by rw [hR]; rfl, ?_⟩
        repeat (first | exact HB4.out | exact HB2.out | apply pw_below_drewN | apply below_drew1)
theorem look_71 (w : World) (b n : Nat) (h : w.ownsMap (H := Unit) Try.prog 9 fnElem b n opD) : (Instr.lookup 60 (.map (some b)) (.string (⟨#[62, 61]⟩ : ByteArray)) true).run Try.prog w = .ok (.tuple #[.func (.func 71) #[] #[], .bool true]) w := by
  have e : M.lastOf opTab [62, 61] (.int .i64 (-1)) = .int .i64 71 := by kernel_rfl
  rcases look_op (⟨#[62, 61]⟩ : ByteArray) (by decide) w b n h with ⟨_, h2⟩ | ⟨m, h4, h5⟩
  · exact absurd (e.symm.trans h2) (by simp)
  · rw [h5]
    have h6 : m = 71 := by
      have h7 := e.symm.trans h4
      have h8 : (71 : Int) = m := by simpa using h7
      omega
    rw [h6]
set_option maxHeartbeats 800000 in
set_option maxRecDepth 100000 in
theorem bin_71 (w0 a b : Int) (hw : 2 ≤ w0 ∧ w0 ≤ 8) (w : World) (m : Int) (hm : w.cell? ⟨0, 0, none⟩ = some (.int .i64 m)) : Calls Try.prog 14 #[.int .i64 w0, .string (⟨#[62, 61]⟩ : ByteArray), .int .i64 a, .int .i64 b] w fun e w' => e = .returned (.tuple #[.int .i64 (binOp 71 false false false w0 a b).1, .int .i64 (binOp 71 false false false w0 a b).2.1, .int .i64 (binOp 71 false false false w0 a b).2.2]) ∧ Below w.heap.size w w' := by
  have eI := isInt_eq w0 a hw
  have eJ := isInt_eq w0 b hw
  have eA := isBool_eq a
  have eB := isBool_eq b
  cases hI : inW w0 a
  · rw [hI] at eI
    have hR : binOp 71 false false false w0 a b = (0, 0, 2) := by
      unfold binOp
      simp [hI]
    go_enter Try.func14, Try.ntmps14
    go_wp2_with fail
    refine (value_isWidth.calls w0 true w (isWidth_eq w0 hw)).mono ?_
    rintro e w1 ⟨rfl, ⟨n1, rfl⟩⟩
    go_wp2_with fail
    refine (operators_calls _).mono ?_
    rintro e w2 ⟨rfl, hown, hb2⟩
    have HB2 : Aside0 (Below w.heap.size w w2) := ⟨(Drawn0.below ⟨⟨n1, rfl⟩⟩).trans (hb2.mono (by simp))⟩
    have hrun : (Instr.lookup 60 (.map (some w.heap.size)) (.string (⟨#[62, 61]⟩ : ByteArray)) true).run Try.prog w2 = .ok (.tuple #[.func (.func 71) #[] #[], .bool true]) w2 := look_71 w2 w.heap.size _ (by simpa using hown)
    clear hown hb2
    go_wp2_with fail
    refine (value_isInt.calls w0 a false _ eI).mono ?_
    rintro e w3 ⟨rfl, ⟨nd_, rfl⟩⟩
    go_wp2
    go_ret3
    refine ⟨by rw [hR]; rfl, ?_⟩
    repeat (first | exact HB4.out | exact HB2.out | apply pw_below_drewN | apply below_drew1)
  · rw [hI] at eI
    cases hJ : inW w0 b
    · rw [hJ] at eJ
      have hR : binOp 71 false false false w0 a b = (0, 0, 2) := by
        unfold binOp
        simp [hI, hJ]
      go_enter Try.func14, Try.ntmps14
      go_wp2_with fail
      refine (value_isWidth.calls w0 true w (isWidth_eq w0 hw)).mono ?_
      rintro e w1 ⟨rfl, ⟨n1, rfl⟩⟩
      go_wp2_with fail
      refine (operators_calls _).mono ?_
      rintro e w2 ⟨rfl, hown, hb2⟩
      have HB2 : Aside0 (Below w.heap.size w w2) := ⟨(Drawn0.below ⟨⟨n1, rfl⟩⟩).trans (hb2.mono (by simp))⟩
      have hrun : (Instr.lookup 60 (.map (some w.heap.size)) (.string (⟨#[62, 61]⟩ : ByteArray)) true).run Try.prog w2 = .ok (.tuple #[.func (.func 71) #[] #[], .bool true]) w2 := look_71 w2 w.heap.size _ (by simpa using hown)
      clear hown hb2
      go_wp2_with fail
      refine (value_isInt.calls w0 a true _ eI).mono ?_
      rintro e w3 ⟨rfl, ⟨nd_, rfl⟩⟩
      go_wp2_with fail
      refine (value_isInt.calls w0 b false _ eJ).mono ?_
      rintro e w3 ⟨rfl, ⟨nd_, rfl⟩⟩
      go_wp2
      go_ret3
      refine ⟨by rw [hR]; rfl, ?_⟩
      repeat (first | exact HB4.out | exact HB2.out | apply pw_below_drewN | apply below_drew1)
    · rw [hJ] at eJ
      by_cases hb : b = 0
      · subst hb
        have hR : binOp 71 false false false w0 a 0 = (opVal 71 a 0, 0, 0) := by
          unfold binOp
          simp [hI, hJ]
        go_enter Try.func14, Try.ntmps14
        go_wp2_with fail
        refine (value_isWidth.calls w0 true w (isWidth_eq w0 hw)).mono ?_
        rintro e w1 ⟨rfl, ⟨n1, rfl⟩⟩
        go_wp2_with fail
        refine (operators_calls _).mono ?_
        rintro e w2 ⟨rfl, hown, hb2⟩
        have HB2 : Aside0 (Below w.heap.size w w2) := ⟨(Drawn0.below ⟨⟨n1, rfl⟩⟩).trans (hb2.mono (by simp))⟩
        have hrun : (Instr.lookup 60 (.map (some w.heap.size)) (.string (⟨#[62, 61]⟩ : ByteArray)) true).run Try.prog w2 = .ok (.tuple #[.func (.func 71) #[] #[], .bool true]) w2 := look_71 w2 w.heap.size _ (by simpa using hown)
        clear hown hb2
        go_wp2_with fail
        refine (value_isInt.calls w0 a true _ eI).mono ?_
        rintro e w3 ⟨rfl, ⟨nd_, rfl⟩⟩
        go_wp2_with fail
        refine (value_isInt.calls w0 0 true _ eJ).mono ?_
        rintro e w3 ⟨rfl, ⟨nd_, rfl⟩⟩
        go_wp2_with fail
        refine (op_71 a 0 _).mono ?_
        rintro e w4 ⟨rfl, hd4⟩
        have HB4 : Aside0 (Below w.heap.size w w4) := ⟨Below.trans (by repeat (first | exact HB2.out | apply pw_below_drewN | apply below_drew1)) (hd4.below.mono (by simp; exact HB2.out.size))⟩
        clear hd4
        have hm5 : w4.cell? ⟨0, 0, none⟩ = some (.int .i64 m) := by rw [HB4.out.cell (p := ⟨0, 0, none⟩) (World.block_lt_of_cell? w _ hm)]; exact hm
        have hcon : Lib.contains (⟨#[43, 45, 42, 47, 37]⟩ : ByteArray).data.toList (⟨#[62, 61]⟩ : ByteArray).data.toList = false := by decide +kernel
        go_wp2_with fail
        refine (Try.strings_Contains (⟨#[43, 45, 42, 47, 37]⟩ : ByteArray) (⟨#[62, 61]⟩ : ByteArray) m _ (by decide) hm5).mono ?_
        rw [hcon]
        rintro e w5 ⟨rfl, rfl⟩
        go_wp2
        go_ret3
        refine ⟨by rw [hR]; rfl, ?_⟩
        repeat (first | exact HB4.out | exact HB2.out | apply pw_below_drewN | apply below_drew1)
      · have hbb : (b == 0) = false := beq_eq_false_iff_ne.mpr hb
        have hR : binOp 71 false false false w0 a b = (opVal 71 a b, 0, 0) := by
          unfold binOp
          simp [hI, hJ]
        go_enter Try.func14, Try.ntmps14
        go_wp2_with fail
        refine (value_isWidth.calls w0 true w (isWidth_eq w0 hw)).mono ?_
        rintro e w1 ⟨rfl, ⟨n1, rfl⟩⟩
        go_wp2_with fail
        refine (operators_calls _).mono ?_
        rintro e w2 ⟨rfl, hown, hb2⟩
        have HB2 : Aside0 (Below w.heap.size w w2) := ⟨(Drawn0.below ⟨⟨n1, rfl⟩⟩).trans (hb2.mono (by simp))⟩
        have hrun : (Instr.lookup 60 (.map (some w.heap.size)) (.string (⟨#[62, 61]⟩ : ByteArray)) true).run Try.prog w2 = .ok (.tuple #[.func (.func 71) #[] #[], .bool true]) w2 := look_71 w2 w.heap.size _ (by simpa using hown)
        clear hown hb2
        go_wp2_with fail
        refine (value_isInt.calls w0 a true _ eI).mono ?_
        rintro e w3 ⟨rfl, ⟨nd_, rfl⟩⟩
        go_wp2_with fail
        refine (value_isInt.calls w0 b true _ eJ).mono ?_
        rintro e w3 ⟨rfl, ⟨nd_, rfl⟩⟩
        go_wp2_with fail
        refine (op_71 a b _).mono ?_
        rintro e w4 ⟨rfl, hd4⟩
        have HB4 : Aside0 (Below w.heap.size w w4) := ⟨Below.trans (by repeat (first | exact HB2.out | apply pw_below_drewN | apply below_drew1)) (hd4.below.mono (by simp; exact HB2.out.size))⟩
        clear hd4
        have hm5 : w4.cell? ⟨0, 0, none⟩ = some (.int .i64 m) := by rw [HB4.out.cell (p := ⟨0, 0, none⟩) (World.block_lt_of_cell? w _ hm)]; exact hm
        have hcon : Lib.contains (⟨#[43, 45, 42, 47, 37]⟩ : ByteArray).data.toList (⟨#[62, 61]⟩ : ByteArray).data.toList = false := by decide +kernel
        go_wp2_with fail
        refine (Try.strings_Contains (⟨#[43, 45, 42, 47, 37]⟩ : ByteArray) (⟨#[62, 61]⟩ : ByteArray) m _ (by decide) hm5).mono ?_
        rw [hcon]
        rintro e w5 ⟨rfl, rfl⟩
        go_wp2
        go_ret3
        refine ⟨by rw [hR]; rfl, ?_⟩
        repeat (first | exact HB4.out | exact HB2.out | apply pw_below_drewN | apply below_drew1)
theorem look_72 (w : World) (b n : Nat) (h : w.ownsMap (H := Unit) Try.prog 9 fnElem b n opD) : (Instr.lookup 60 (.map (some b)) (.string (⟨#[97, 110, 100]⟩ : ByteArray)) true).run Try.prog w = .ok (.tuple #[.func (.func 72) #[] #[], .bool true]) w := by
  have e : M.lastOf opTab [97, 110, 100] (.int .i64 (-1)) = .int .i64 72 := by kernel_rfl
  rcases look_op (⟨#[97, 110, 100]⟩ : ByteArray) (by decide) w b n h with ⟨_, h2⟩ | ⟨m, h4, h5⟩
  · exact absurd (e.symm.trans h2) (by simp)
  · rw [h5]
    have h6 : m = 72 := by
      have h7 := e.symm.trans h4
      have h8 : (72 : Int) = m := by simpa using h7
      omega
    rw [h6]
set_option maxHeartbeats 800000 in
set_option maxRecDepth 100000 in
theorem bin_72 (w0 a b : Int) (hw : 2 ≤ w0 ∧ w0 ≤ 8) (w : World) (m : Int) (hm : w.cell? ⟨0, 0, none⟩ = some (.int .i64 m)) : Calls Try.prog 14 #[.int .i64 w0, .string (⟨#[97, 110, 100]⟩ : ByteArray), .int .i64 a, .int .i64 b] w fun e w' => e = .returned (.tuple #[.int .i64 (binOp 72 true false false w0 a b).1, .int .i64 (binOp 72 true false false w0 a b).2.1, .int .i64 (binOp 72 true false false w0 a b).2.2]) ∧ Below w.heap.size w w' := by
  have eI := isInt_eq w0 a hw
  have eJ := isInt_eq w0 b hw
  have eA := isBool_eq a
  have eB := isBool_eq b
  cases hA : bitB a
  · rw [hA] at eA
    have hR : binOp 72 true false false w0 a b = (0, 0, 2) := by
      unfold binOp
      simp [hA]
    go_enter Try.func14, Try.ntmps14
    go_wp2_with fail
    refine (value_isWidth.calls w0 true w (isWidth_eq w0 hw)).mono ?_
    rintro e w1 ⟨rfl, ⟨n1, rfl⟩⟩
    go_wp2_with fail
    refine (operators_calls _).mono ?_
    rintro e w2 ⟨rfl, hown, hb2⟩
    have HB2 : Aside0 (Below w.heap.size w w2) := ⟨(Drawn0.below ⟨⟨n1, rfl⟩⟩).trans (hb2.mono (by simp))⟩
    have hrun : (Instr.lookup 60 (.map (some w.heap.size)) (.string (⟨#[97, 110, 100]⟩ : ByteArray)) true).run Try.prog w2 = .ok (.tuple #[.func (.func 72) #[] #[], .bool true]) w2 := look_72 w2 w.heap.size _ (by simpa using hown)
    clear hown hb2
    go_wp2_with fail
    refine (value_isBool.calls a false _ eA).mono ?_
    rintro e w3 ⟨rfl, ⟨nd_, rfl⟩⟩
    go_wp2
    go_ret3
    refine ⟨by rw [hR]; rfl, ?_⟩
    repeat (first | exact HB4.out | exact HB2.out | apply pw_below_drewN | apply below_drew1)
  · rw [hA] at eA
    cases hB : bitB b
    · rw [hB] at eB
      have hR : binOp 72 true false false w0 a b = (0, 0, 2) := by
        unfold binOp
        simp [hA, hB]
      go_enter Try.func14, Try.ntmps14
      go_wp2_with fail
      refine (value_isWidth.calls w0 true w (isWidth_eq w0 hw)).mono ?_
      rintro e w1 ⟨rfl, ⟨n1, rfl⟩⟩
      go_wp2_with fail
      refine (operators_calls _).mono ?_
      rintro e w2 ⟨rfl, hown, hb2⟩
      have HB2 : Aside0 (Below w.heap.size w w2) := ⟨(Drawn0.below ⟨⟨n1, rfl⟩⟩).trans (hb2.mono (by simp))⟩
      have hrun : (Instr.lookup 60 (.map (some w.heap.size)) (.string (⟨#[97, 110, 100]⟩ : ByteArray)) true).run Try.prog w2 = .ok (.tuple #[.func (.func 72) #[] #[], .bool true]) w2 := look_72 w2 w.heap.size _ (by simpa using hown)
      clear hown hb2
      go_wp2_with fail
      refine (value_isBool.calls a true _ eA).mono ?_
      rintro e w3 ⟨rfl, ⟨nd_, rfl⟩⟩
      go_wp2_with fail
      refine (value_isBool.calls b false _ eB).mono ?_
      rintro e w3 ⟨rfl, ⟨nd_, rfl⟩⟩
      go_wp2
      go_ret3
      refine ⟨by rw [hR]; rfl, ?_⟩
      repeat (first | exact HB4.out | exact HB2.out | apply pw_below_drewN | apply below_drew1)
    · rw [hB] at eB
      cases hI : inW w0 a
      · rw [hI] at eI
        have hR : binOp 72 true false false w0 a b = (0, 0, 2) := by
          unfold binOp
          simp [hA, hB, hI]
        go_enter Try.func14, Try.ntmps14
        go_wp2_with fail
        refine (value_isWidth.calls w0 true w (isWidth_eq w0 hw)).mono ?_
        rintro e w1 ⟨rfl, ⟨n1, rfl⟩⟩
        go_wp2_with fail
        refine (operators_calls _).mono ?_
        rintro e w2 ⟨rfl, hown, hb2⟩
        have HB2 : Aside0 (Below w.heap.size w w2) := ⟨(Drawn0.below ⟨⟨n1, rfl⟩⟩).trans (hb2.mono (by simp))⟩
        have hrun : (Instr.lookup 60 (.map (some w.heap.size)) (.string (⟨#[97, 110, 100]⟩ : ByteArray)) true).run Try.prog w2 = .ok (.tuple #[.func (.func 72) #[] #[], .bool true]) w2 := look_72 w2 w.heap.size _ (by simpa using hown)
        clear hown hb2
        go_wp2_with fail
        refine (value_isBool.calls a true _ eA).mono ?_
        rintro e w3 ⟨rfl, ⟨nd_, rfl⟩⟩
        go_wp2_with fail
        refine (value_isBool.calls b true _ eB).mono ?_
        rintro e w3 ⟨rfl, ⟨nd_, rfl⟩⟩
        go_wp2_with fail
        refine (value_isInt.calls w0 a false _ eI).mono ?_
        rintro e w3 ⟨rfl, ⟨nd_, rfl⟩⟩
        go_wp2
        go_ret3
        refine ⟨by rw [hR]; rfl, ?_⟩
        repeat (first | exact HB4.out | exact HB2.out | apply pw_below_drewN | apply below_drew1)
      · rw [hI] at eI
        cases hJ : inW w0 b
        · rw [hJ] at eJ
          have hR : binOp 72 true false false w0 a b = (0, 0, 2) := by
            unfold binOp
            simp [hA, hB, hI, hJ]
          go_enter Try.func14, Try.ntmps14
          go_wp2_with fail
          refine (value_isWidth.calls w0 true w (isWidth_eq w0 hw)).mono ?_
          rintro e w1 ⟨rfl, ⟨n1, rfl⟩⟩
          go_wp2_with fail
          refine (operators_calls _).mono ?_
          rintro e w2 ⟨rfl, hown, hb2⟩
          have HB2 : Aside0 (Below w.heap.size w w2) := ⟨(Drawn0.below ⟨⟨n1, rfl⟩⟩).trans (hb2.mono (by simp))⟩
          have hrun : (Instr.lookup 60 (.map (some w.heap.size)) (.string (⟨#[97, 110, 100]⟩ : ByteArray)) true).run Try.prog w2 = .ok (.tuple #[.func (.func 72) #[] #[], .bool true]) w2 := look_72 w2 w.heap.size _ (by simpa using hown)
          clear hown hb2
          go_wp2_with fail
          refine (value_isBool.calls a true _ eA).mono ?_
          rintro e w3 ⟨rfl, ⟨nd_, rfl⟩⟩
          go_wp2_with fail
          refine (value_isBool.calls b true _ eB).mono ?_
          rintro e w3 ⟨rfl, ⟨nd_, rfl⟩⟩
          go_wp2_with fail
          refine (value_isInt.calls w0 a true _ eI).mono ?_
          rintro e w3 ⟨rfl, ⟨nd_, rfl⟩⟩
          go_wp2_with fail
          refine (value_isInt.calls w0 b false _ eJ).mono ?_
          rintro e w3 ⟨rfl, ⟨nd_, rfl⟩⟩
          go_wp2
          go_ret3
          refine ⟨by rw [hR]; rfl, ?_⟩
          repeat (first | exact HB4.out | exact HB2.out | apply pw_below_drewN | apply below_drew1)
        · rw [hJ] at eJ
          by_cases hb : b = 0
          · subst hb
            have hR : binOp 72 true false false w0 a 0 = (opVal 72 a 0, 0, 0) := by
              unfold binOp
              simp [hA, hB, hI, hJ]
            go_enter Try.func14, Try.ntmps14
            go_wp2_with fail
            refine (value_isWidth.calls w0 true w (isWidth_eq w0 hw)).mono ?_
            rintro e w1 ⟨rfl, ⟨n1, rfl⟩⟩
            go_wp2_with fail
            refine (operators_calls _).mono ?_
            rintro e w2 ⟨rfl, hown, hb2⟩
            have HB2 : Aside0 (Below w.heap.size w w2) := ⟨(Drawn0.below ⟨⟨n1, rfl⟩⟩).trans (hb2.mono (by simp))⟩
            have hrun : (Instr.lookup 60 (.map (some w.heap.size)) (.string (⟨#[97, 110, 100]⟩ : ByteArray)) true).run Try.prog w2 = .ok (.tuple #[.func (.func 72) #[] #[], .bool true]) w2 := look_72 w2 w.heap.size _ (by simpa using hown)
            clear hown hb2
            go_wp2_with fail
            refine (value_isBool.calls a true _ eA).mono ?_
            rintro e w3 ⟨rfl, ⟨nd_, rfl⟩⟩
            go_wp2_with fail
            refine (value_isBool.calls 0 true _ eB).mono ?_
            rintro e w3 ⟨rfl, ⟨nd_, rfl⟩⟩
            go_wp2_with fail
            refine (value_isInt.calls w0 a true _ eI).mono ?_
            rintro e w3 ⟨rfl, ⟨nd_, rfl⟩⟩
            go_wp2_with fail
            refine (value_isInt.calls w0 0 true _ eJ).mono ?_
            rintro e w3 ⟨rfl, ⟨nd_, rfl⟩⟩
            go_wp2_with fail
            refine (op_72 a 0 _).mono ?_
            rintro e w4 ⟨rfl, hd4⟩
            have HB4 : Aside0 (Below w.heap.size w w4) := ⟨Below.trans (by repeat (first | exact HB2.out | apply pw_below_drewN | apply below_drew1)) (hd4.below.mono (by simp; exact HB2.out.size))⟩
            clear hd4
            have hm5 : w4.cell? ⟨0, 0, none⟩ = some (.int .i64 m) := by rw [HB4.out.cell (p := ⟨0, 0, none⟩) (World.block_lt_of_cell? w _ hm)]; exact hm
            have hcon : Lib.contains (⟨#[43, 45, 42, 47, 37]⟩ : ByteArray).data.toList (⟨#[97, 110, 100]⟩ : ByteArray).data.toList = false := by decide +kernel
            go_wp2_with fail
            refine (Try.strings_Contains (⟨#[43, 45, 42, 47, 37]⟩ : ByteArray) (⟨#[97, 110, 100]⟩ : ByteArray) m _ (by decide) hm5).mono ?_
            rw [hcon]
            rintro e w5 ⟨rfl, rfl⟩
            go_wp2
            go_ret3
            refine ⟨by rw [hR]; rfl, ?_⟩
            repeat (first | exact HB4.out | exact HB2.out | apply pw_below_drewN | apply below_drew1)
          · have hbb : (b == 0) = false := beq_eq_false_iff_ne.mpr hb
            have hR : binOp 72 true false false w0 a b = (opVal 72 a b, 0, 0) := by
              unfold binOp
              simp [hA, hB, hI, hJ]
            go_enter Try.func14, Try.ntmps14
            go_wp2_with fail
            refine (value_isWidth.calls w0 true w (isWidth_eq w0 hw)).mono ?_
            rintro e w1 ⟨rfl, ⟨n1, rfl⟩⟩
            go_wp2_with fail
            refine (operators_calls _).mono ?_
            rintro e w2 ⟨rfl, hown, hb2⟩
            have HB2 : Aside0 (Below w.heap.size w w2) := ⟨(Drawn0.below ⟨⟨n1, rfl⟩⟩).trans (hb2.mono (by simp))⟩
            have hrun : (Instr.lookup 60 (.map (some w.heap.size)) (.string (⟨#[97, 110, 100]⟩ : ByteArray)) true).run Try.prog w2 = .ok (.tuple #[.func (.func 72) #[] #[], .bool true]) w2 := look_72 w2 w.heap.size _ (by simpa using hown)
            clear hown hb2
            go_wp2_with fail
            refine (value_isBool.calls a true _ eA).mono ?_
            rintro e w3 ⟨rfl, ⟨nd_, rfl⟩⟩
            go_wp2_with fail
            refine (value_isBool.calls b true _ eB).mono ?_
            rintro e w3 ⟨rfl, ⟨nd_, rfl⟩⟩
            go_wp2_with fail
            refine (value_isInt.calls w0 a true _ eI).mono ?_
            rintro e w3 ⟨rfl, ⟨nd_, rfl⟩⟩
            go_wp2_with fail
            refine (value_isInt.calls w0 b true _ eJ).mono ?_
            rintro e w3 ⟨rfl, ⟨nd_, rfl⟩⟩
            go_wp2_with fail
            refine (op_72 a b _).mono ?_
            rintro e w4 ⟨rfl, hd4⟩
            have HB4 : Aside0 (Below w.heap.size w w4) := ⟨Below.trans (by repeat (first | exact HB2.out | apply pw_below_drewN | apply below_drew1)) (hd4.below.mono (by simp; exact HB2.out.size))⟩
            clear hd4
            have hm5 : w4.cell? ⟨0, 0, none⟩ = some (.int .i64 m) := by rw [HB4.out.cell (p := ⟨0, 0, none⟩) (World.block_lt_of_cell? w _ hm)]; exact hm
            have hcon : Lib.contains (⟨#[43, 45, 42, 47, 37]⟩ : ByteArray).data.toList (⟨#[97, 110, 100]⟩ : ByteArray).data.toList = false := by decide +kernel
            go_wp2_with fail
            refine (Try.strings_Contains (⟨#[43, 45, 42, 47, 37]⟩ : ByteArray) (⟨#[97, 110, 100]⟩ : ByteArray) m _ (by decide) hm5).mono ?_
            rw [hcon]
            rintro e w5 ⟨rfl, rfl⟩
            go_wp2
            go_ret3
            refine ⟨by rw [hR]; rfl, ?_⟩
            repeat (first | exact HB4.out | exact HB2.out | apply pw_below_drewN | apply below_drew1)
theorem look_73 (w : World) (b n : Nat) (h : w.ownsMap (H := Unit) Try.prog 9 fnElem b n opD) : (Instr.lookup 60 (.map (some b)) (.string (⟨#[111, 114]⟩ : ByteArray)) true).run Try.prog w = .ok (.tuple #[.func (.func 73) #[] #[], .bool true]) w := by
  have e : M.lastOf opTab [111, 114] (.int .i64 (-1)) = .int .i64 73 := by kernel_rfl
  rcases look_op (⟨#[111, 114]⟩ : ByteArray) (by decide) w b n h with ⟨_, h2⟩ | ⟨m, h4, h5⟩
  · exact absurd (e.symm.trans h2) (by simp)
  · rw [h5]
    have h6 : m = 73 := by
      have h7 := e.symm.trans h4
      have h8 : (73 : Int) = m := by simpa using h7
      omega
    rw [h6]
set_option maxHeartbeats 800000 in
set_option maxRecDepth 100000 in
theorem bin_73 (w0 a b : Int) (hw : 2 ≤ w0 ∧ w0 ≤ 8) (w : World) (m : Int) (hm : w.cell? ⟨0, 0, none⟩ = some (.int .i64 m)) : Calls Try.prog 14 #[.int .i64 w0, .string (⟨#[111, 114]⟩ : ByteArray), .int .i64 a, .int .i64 b] w fun e w' => e = .returned (.tuple #[.int .i64 (binOp 73 true false false w0 a b).1, .int .i64 (binOp 73 true false false w0 a b).2.1, .int .i64 (binOp 73 true false false w0 a b).2.2]) ∧ Below w.heap.size w w' := by
  have eI := isInt_eq w0 a hw
  have eJ := isInt_eq w0 b hw
  have eA := isBool_eq a
  have eB := isBool_eq b
  cases hA : bitB a
  · rw [hA] at eA
    have hR : binOp 73 true false false w0 a b = (0, 0, 2) := by
      unfold binOp
      simp [hA]
    go_enter Try.func14, Try.ntmps14
    go_wp2_with fail
    refine (value_isWidth.calls w0 true w (isWidth_eq w0 hw)).mono ?_
    rintro e w1 ⟨rfl, ⟨n1, rfl⟩⟩
    go_wp2_with fail
    refine (operators_calls _).mono ?_
    rintro e w2 ⟨rfl, hown, hb2⟩
    have HB2 : Aside0 (Below w.heap.size w w2) := ⟨(Drawn0.below ⟨⟨n1, rfl⟩⟩).trans (hb2.mono (by simp))⟩
    have hrun : (Instr.lookup 60 (.map (some w.heap.size)) (.string (⟨#[111, 114]⟩ : ByteArray)) true).run Try.prog w2 = .ok (.tuple #[.func (.func 73) #[] #[], .bool true]) w2 := look_73 w2 w.heap.size _ (by simpa using hown)
    clear hown hb2
    go_wp2_with fail
    refine (value_isBool.calls a false _ eA).mono ?_
    rintro e w3 ⟨rfl, ⟨nd_, rfl⟩⟩
    go_wp2
    go_ret3
    refine ⟨by rw [hR]; rfl, ?_⟩
    repeat (first | exact HB4.out | exact HB2.out | apply pw_below_drewN | apply below_drew1)
  · rw [hA] at eA
    cases hB : bitB b
    · rw [hB] at eB
      have hR : binOp 73 true false false w0 a b = (0, 0, 2) := by
        unfold binOp
        simp [hA, hB]
      go_enter Try.func14, Try.ntmps14
      go_wp2_with fail
      refine (value_isWidth.calls w0 true w (isWidth_eq w0 hw)).mono ?_
      rintro e w1 ⟨rfl, ⟨n1, rfl⟩⟩
      go_wp2_with fail
      refine (operators_calls _).mono ?_
      rintro e w2 ⟨rfl, hown, hb2⟩
      have HB2 : Aside0 (Below w.heap.size w w2) := ⟨(Drawn0.below ⟨⟨n1, rfl⟩⟩).trans (hb2.mono (by simp))⟩
      have hrun : (Instr.lookup 60 (.map (some w.heap.size)) (.string (⟨#[111, 114]⟩ : ByteArray)) true).run Try.prog w2 = .ok (.tuple #[.func (.func 73) #[] #[], .bool true]) w2 := look_73 w2 w.heap.size _ (by simpa using hown)
      clear hown hb2
      go_wp2_with fail
      refine (value_isBool.calls a true _ eA).mono ?_
      rintro e w3 ⟨rfl, ⟨nd_, rfl⟩⟩
      go_wp2_with fail
      refine (value_isBool.calls b false _ eB).mono ?_
      rintro e w3 ⟨rfl, ⟨nd_, rfl⟩⟩
      go_wp2
      go_ret3
      refine ⟨by rw [hR]; rfl, ?_⟩
      repeat (first | exact HB4.out | exact HB2.out | apply pw_below_drewN | apply below_drew1)
    · rw [hB] at eB
      cases hI : inW w0 a
      · rw [hI] at eI
        have hR : binOp 73 true false false w0 a b = (0, 0, 2) := by
          unfold binOp
          simp [hA, hB, hI]
        go_enter Try.func14, Try.ntmps14
        go_wp2_with fail
        refine (value_isWidth.calls w0 true w (isWidth_eq w0 hw)).mono ?_
        rintro e w1 ⟨rfl, ⟨n1, rfl⟩⟩
        go_wp2_with fail
        refine (operators_calls _).mono ?_
        rintro e w2 ⟨rfl, hown, hb2⟩
        have HB2 : Aside0 (Below w.heap.size w w2) := ⟨(Drawn0.below ⟨⟨n1, rfl⟩⟩).trans (hb2.mono (by simp))⟩
        have hrun : (Instr.lookup 60 (.map (some w.heap.size)) (.string (⟨#[111, 114]⟩ : ByteArray)) true).run Try.prog w2 = .ok (.tuple #[.func (.func 73) #[] #[], .bool true]) w2 := look_73 w2 w.heap.size _ (by simpa using hown)
        clear hown hb2
        go_wp2_with fail
        refine (value_isBool.calls a true _ eA).mono ?_
        rintro e w3 ⟨rfl, ⟨nd_, rfl⟩⟩
        go_wp2_with fail
        refine (value_isBool.calls b true _ eB).mono ?_
        rintro e w3 ⟨rfl, ⟨nd_, rfl⟩⟩
        go_wp2_with fail
        refine (value_isInt.calls w0 a false _ eI).mono ?_
        rintro e w3 ⟨rfl, ⟨nd_, rfl⟩⟩
        go_wp2
        go_ret3
        refine ⟨by rw [hR]; rfl, ?_⟩
        repeat (first | exact HB4.out | exact HB2.out | apply pw_below_drewN | apply below_drew1)
      · rw [hI] at eI
        cases hJ : inW w0 b
        · rw [hJ] at eJ
          have hR : binOp 73 true false false w0 a b = (0, 0, 2) := by
            unfold binOp
            simp [hA, hB, hI, hJ]
          go_enter Try.func14, Try.ntmps14
          go_wp2_with fail
          refine (value_isWidth.calls w0 true w (isWidth_eq w0 hw)).mono ?_
          rintro e w1 ⟨rfl, ⟨n1, rfl⟩⟩
          go_wp2_with fail
          refine (operators_calls _).mono ?_
          rintro e w2 ⟨rfl, hown, hb2⟩
          have HB2 : Aside0 (Below w.heap.size w w2) := ⟨(Drawn0.below ⟨⟨n1, rfl⟩⟩).trans (hb2.mono (by simp))⟩
          have hrun : (Instr.lookup 60 (.map (some w.heap.size)) (.string (⟨#[111, 114]⟩ : ByteArray)) true).run Try.prog w2 = .ok (.tuple #[.func (.func 73) #[] #[], .bool true]) w2 := look_73 w2 w.heap.size _ (by simpa using hown)
          clear hown hb2
          go_wp2_with fail
          refine (value_isBool.calls a true _ eA).mono ?_
          rintro e w3 ⟨rfl, ⟨nd_, rfl⟩⟩
          go_wp2_with fail
          refine (value_isBool.calls b true _ eB).mono ?_
          rintro e w3 ⟨rfl, ⟨nd_, rfl⟩⟩
          go_wp2_with fail
          refine (value_isInt.calls w0 a true _ eI).mono ?_
          rintro e w3 ⟨rfl, ⟨nd_, rfl⟩⟩
          go_wp2_with fail
          refine (value_isInt.calls w0 b false _ eJ).mono ?_
          rintro e w3 ⟨rfl, ⟨nd_, rfl⟩⟩
          go_wp2
          go_ret3
          refine ⟨by rw [hR]; rfl, ?_⟩
          repeat (first | exact HB4.out | exact HB2.out | apply pw_below_drewN | apply below_drew1)
        · rw [hJ] at eJ
          by_cases hb : b = 0
          · subst hb
            have hR : binOp 73 true false false w0 a 0 = (opVal 73 a 0, 0, 0) := by
              unfold binOp
              simp [hA, hB, hI, hJ]
            go_enter Try.func14, Try.ntmps14
            go_wp2_with fail
            refine (value_isWidth.calls w0 true w (isWidth_eq w0 hw)).mono ?_
            rintro e w1 ⟨rfl, ⟨n1, rfl⟩⟩
            go_wp2_with fail
            refine (operators_calls _).mono ?_
            rintro e w2 ⟨rfl, hown, hb2⟩
            have HB2 : Aside0 (Below w.heap.size w w2) := ⟨(Drawn0.below ⟨⟨n1, rfl⟩⟩).trans (hb2.mono (by simp))⟩
            have hrun : (Instr.lookup 60 (.map (some w.heap.size)) (.string (⟨#[111, 114]⟩ : ByteArray)) true).run Try.prog w2 = .ok (.tuple #[.func (.func 73) #[] #[], .bool true]) w2 := look_73 w2 w.heap.size _ (by simpa using hown)
            clear hown hb2
            go_wp2_with fail
            refine (value_isBool.calls a true _ eA).mono ?_
            rintro e w3 ⟨rfl, ⟨nd_, rfl⟩⟩
            go_wp2_with fail
            refine (value_isBool.calls 0 true _ eB).mono ?_
            rintro e w3 ⟨rfl, ⟨nd_, rfl⟩⟩
            go_wp2_with fail
            refine (value_isInt.calls w0 a true _ eI).mono ?_
            rintro e w3 ⟨rfl, ⟨nd_, rfl⟩⟩
            go_wp2_with fail
            refine (value_isInt.calls w0 0 true _ eJ).mono ?_
            rintro e w3 ⟨rfl, ⟨nd_, rfl⟩⟩
            go_wp2_with fail
            refine (op_73 a 0 _).mono ?_
            rintro e w4 ⟨rfl, hd4⟩
            have HB4 : Aside0 (Below w.heap.size w w4) := ⟨Below.trans (by repeat (first | exact HB2.out | apply pw_below_drewN | apply below_drew1)) (hd4.below.mono (by simp; exact HB2.out.size))⟩
            clear hd4
            have hm5 : w4.cell? ⟨0, 0, none⟩ = some (.int .i64 m) := by rw [HB4.out.cell (p := ⟨0, 0, none⟩) (World.block_lt_of_cell? w _ hm)]; exact hm
            have hcon : Lib.contains (⟨#[43, 45, 42, 47, 37]⟩ : ByteArray).data.toList (⟨#[111, 114]⟩ : ByteArray).data.toList = false := by decide +kernel
            go_wp2_with fail
            refine (Try.strings_Contains (⟨#[43, 45, 42, 47, 37]⟩ : ByteArray) (⟨#[111, 114]⟩ : ByteArray) m _ (by decide) hm5).mono ?_
            rw [hcon]
            rintro e w5 ⟨rfl, rfl⟩
            go_wp2
            go_ret3
            refine ⟨by rw [hR]; rfl, ?_⟩
            repeat (first | exact HB4.out | exact HB2.out | apply pw_below_drewN | apply below_drew1)
          · have hbb : (b == 0) = false := beq_eq_false_iff_ne.mpr hb
            have hR : binOp 73 true false false w0 a b = (opVal 73 a b, 0, 0) := by
              unfold binOp
              simp [hA, hB, hI, hJ]
            go_enter Try.func14, Try.ntmps14
            go_wp2_with fail
            refine (value_isWidth.calls w0 true w (isWidth_eq w0 hw)).mono ?_
            rintro e w1 ⟨rfl, ⟨n1, rfl⟩⟩
            go_wp2_with fail
            refine (operators_calls _).mono ?_
            rintro e w2 ⟨rfl, hown, hb2⟩
            have HB2 : Aside0 (Below w.heap.size w w2) := ⟨(Drawn0.below ⟨⟨n1, rfl⟩⟩).trans (hb2.mono (by simp))⟩
            have hrun : (Instr.lookup 60 (.map (some w.heap.size)) (.string (⟨#[111, 114]⟩ : ByteArray)) true).run Try.prog w2 = .ok (.tuple #[.func (.func 73) #[] #[], .bool true]) w2 := look_73 w2 w.heap.size _ (by simpa using hown)
            clear hown hb2
            go_wp2_with fail
            refine (value_isBool.calls a true _ eA).mono ?_
            rintro e w3 ⟨rfl, ⟨nd_, rfl⟩⟩
            go_wp2_with fail
            refine (value_isBool.calls b true _ eB).mono ?_
            rintro e w3 ⟨rfl, ⟨nd_, rfl⟩⟩
            go_wp2_with fail
            refine (value_isInt.calls w0 a true _ eI).mono ?_
            rintro e w3 ⟨rfl, ⟨nd_, rfl⟩⟩
            go_wp2_with fail
            refine (value_isInt.calls w0 b true _ eJ).mono ?_
            rintro e w3 ⟨rfl, ⟨nd_, rfl⟩⟩
            go_wp2_with fail
            refine (op_73 a b _).mono ?_
            rintro e w4 ⟨rfl, hd4⟩
            have HB4 : Aside0 (Below w.heap.size w w4) := ⟨Below.trans (by repeat (first | exact HB2.out | apply pw_below_drewN | apply below_drew1)) (hd4.below.mono (by simp; exact HB2.out.size))⟩
            clear hd4
            have hm5 : w4.cell? ⟨0, 0, none⟩ = some (.int .i64 m) := by rw [HB4.out.cell (p := ⟨0, 0, none⟩) (World.block_lt_of_cell? w _ hm)]; exact hm
            have hcon : Lib.contains (⟨#[43, 45, 42, 47, 37]⟩ : ByteArray).data.toList (⟨#[111, 114]⟩ : ByteArray).data.toList = false := by decide +kernel
            go_wp2_with fail
            refine (Try.strings_Contains (⟨#[43, 45, 42, 47, 37]⟩ : ByteArray) (⟨#[111, 114]⟩ : ByteArray) m _ (by decide) hm5).mono ?_
            rw [hcon]
            rintro e w5 ⟨rfl, rfl⟩
            go_wp2
            go_ret3
            refine ⟨by rw [hR]; rfl, ?_⟩
            repeat (first | exact HB4.out | exact HB2.out | apply pw_below_drewN | apply below_drew1)
end Go.Proofs.Ytogknojocodhgaa.P
end
