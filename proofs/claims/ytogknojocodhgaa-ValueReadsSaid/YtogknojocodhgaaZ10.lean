-- Texts of this claim, put together and cut down to what is used (trim.py, a program of this session).
import Derived.Test.YtogknojocodhgaaZ8
import Derived.Test.YtogknojocodhgaaZ9
section
namespace Go.Proofs.Ytogknojocodhgaa.P
open Go.RowKit Go.WideMaps Go.Proofs.YtogknojocodhgaaW.PrintWords Go.Proofs.YtogknojocodhgaaW.PrintLast Go.Proofs.YtogknojocodhgaaW.PrintMore
set_option linter.unusedVariables false
set_option linter.unusedSimpArgs false
theorem look_60 (w : World) (b n : Nat) (h : w.ownsMap (H := Unit) Try.prog 9 fnElem b n opD) : (Instr.lookup 60 (.map (some b)) (.string (⟨#[43]⟩ : ByteArray)) true).run Try.prog w = .ok (.tuple #[.func (.func 60) #[] #[], .bool true]) w := by
  have e : M.lastOf opTab [43] (.int .i64 (-1)) = .int .i64 60 := by kernel_rfl
  rcases look_op (⟨#[43]⟩ : ByteArray) (by decide) w b n h with ⟨_, h2⟩ | ⟨m, h4, h5⟩
  · exact absurd (e.symm.trans h2) (by simp)
  · rw [h5]
    have h6 : m = 60 := by
      have h7 := e.symm.trans h4
      have h8 : (60 : Int) = m := by simpa using h7
      omega
    rw [h6]
set_option maxHeartbeats 800000 in
set_option maxRecDepth 100000 in
theorem bin_60 (w0 a b : Int) (hw : 2 ≤ w0 ∧ w0 ≤ 8) (w : World) : Calls Try.prog 14 #[.int .i64 w0, .string (⟨#[43]⟩ : ByteArray), .int .i64 a, .int .i64 b] w fun e w' => e = .returned (.tuple #[.int .i64 (binOp 60 false false true w0 a b).1, .int .i64 (binOp 60 false false true w0 a b).2.1, .int .i64 (binOp 60 false false true w0 a b).2.2]) ∧ Below w.heap.size w w' := by
  have eI := isInt_eq w0 a hw
  have eJ := isInt_eq w0 b hw
  have eA := isBool_eq a
  have eB := isBool_eq b
  cases hI : inW w0 a
  · rw [hI] at eI
    have hR : binOp 60 false false true w0 a b = (0, 0, 2) := by
      unfold binOp
      simp [hI]
    go_enter Try.func14, Try.ntmps14
    go_wp2_with fail
    refine (value_isWidth.calls w0 true w (isWidth_eq w0 hw)).mono ?_
    rintro e w1 ⟨rfl, ⟨n1, rfl⟩⟩
    go_wp2_with fail
    refine (operators_calls _).mono ?_
    rintro e w2 ⟨rfl, hown, hb2⟩
    have HB2 : Aside0 (Below w.heap.size w w2) := ⟨(Drawn0.below ⟨⟨n1, rfl⟩⟩).trans (hb2.mono (by simp))⟩
    have hrun : (Instr.lookup 60 (.map (some w.heap.size)) (.string (⟨#[43]⟩ : ByteArray)) true).run Try.prog w2 = .ok (.tuple #[.func (.func 60) #[] #[], .bool true]) w2 := look_60 w2 w.heap.size _ (by simpa using hown)
    clear hown hb2
    go_wp2_with fail
    refine (value_isInt.calls w0 a false _ eI).mono ?_
    rintro e w3 ⟨rfl, ⟨nd_, rfl⟩⟩
    go_wp2
    go_ret3
    refine ⟨by rw [hR]; rfl, ?_⟩
    repeat (first | exact HB4.out | exact HB2.out | apply pw_below_drewN | apply below_drew1)
  · rw [hI] at eI
    cases hJ : inW w0 b
    · rw [hJ] at eJ
      have hR : binOp 60 false false true w0 a b = (0, 0, 2) := by
        unfold binOp
        simp [hI, hJ]
      go_enter Try.func14, Try.ntmps14
      go_wp2_with fail
      refine (value_isWidth.calls w0 true w (isWidth_eq w0 hw)).mono ?_
      rintro e w1 ⟨rfl, ⟨n1, rfl⟩⟩
      go_wp2_with fail
      refine (operators_calls _).mono ?_
      rintro e w2 ⟨rfl, hown, hb2⟩
      have HB2 : Aside0 (Below w.heap.size w w2) := ⟨(Drawn0.below ⟨⟨n1, rfl⟩⟩).trans (hb2.mono (by simp))⟩
      have hrun : (Instr.lookup 60 (.map (some w.heap.size)) (.string (⟨#[43]⟩ : ByteArray)) true).run Try.prog w2 = .ok (.tuple #[.func (.func 60) #[] #[], .bool true]) w2 := look_60 w2 w.heap.size _ (by simpa using hown)
      clear hown hb2
      go_wp2_with fail
      refine (value_isInt.calls w0 a true _ eI).mono ?_
      rintro e w3 ⟨rfl, ⟨nd_, rfl⟩⟩
      go_wp2_with fail
      refine (value_isInt.calls w0 b false _ eJ).mono ?_
      rintro e w3 ⟨rfl, ⟨nd_, rfl⟩⟩
      go_wp2
      go_ret3
      refine ⟨by rw [hR]; rfl, ?_⟩
      repeat (first | exact HB4.out | exact HB2.out | apply pw_below_drewN | apply below_drew1)
    · rw [hJ] at eJ
      by_cases hb : b = 0
      · subst hb
        have hR : binOp 60 false false true w0 a 0 = (wrapR w0 (opVal 60 a 0), 0, 0) := by
          unfold binOp
          simp [hI, hJ]
        go_enter Try.func14, Try.ntmps14
        go_wp2_with fail
        refine (value_isWidth.calls w0 true w (isWidth_eq w0 hw)).mono ?_
        rintro e w1 ⟨rfl, ⟨n1, rfl⟩⟩
        go_wp2_with fail
        refine (operators_calls _).mono ?_
        rintro e w2 ⟨rfl, hown, hb2⟩
        have HB2 : Aside0 (Below w.heap.size w w2) := ⟨(Drawn0.below ⟨⟨n1, rfl⟩⟩).trans (hb2.mono (by simp))⟩
        have hrun : (Instr.lookup 60 (.map (some w.heap.size)) (.string (⟨#[43]⟩ : ByteArray)) true).run Try.prog w2 = .ok (.tuple #[.func (.func 60) #[] #[], .bool true]) w2 := look_60 w2 w.heap.size _ (by simpa using hown)
        clear hown hb2
        go_wp2_with fail
        refine (value_isInt.calls w0 a true _ eI).mono ?_
        rintro e w3 ⟨rfl, ⟨nd_, rfl⟩⟩
        go_wp2_with fail
        refine (value_isInt.calls w0 0 true _ eJ).mono ?_
        rintro e w3 ⟨rfl, ⟨nd_, rfl⟩⟩
        go_wp2_with fail
        refine (op_60 a 0 _).mono ?_
        rintro e w4 ⟨rfl, hd4⟩
        have HB4 : Aside0 (Below w.heap.size w w4) := ⟨Below.trans (by repeat (first | exact HB2.out | apply pw_below_drewN | apply below_drew1)) (hd4.below.mono (by simp; exact HB2.out.size))⟩
        clear hd4
        go_wp2_with fail
        refine (Try.strings_Contains_one (⟨#[43, 45, 42, 47, 37]⟩ : ByteArray) 43 _).mono ?_
        rintro e w5 ⟨rfl, rfl⟩
        go_wp2_with fail
        refine (value_Wrap.calls w0 (opVal 60 a 0) _ _ (wrap_eq w0 _ hw)).mono ?_
        rintro e w6 ⟨rfl, ⟨nd6, rfl⟩⟩
        go_wp2
        go_ret3
        refine ⟨by rw [hR]; rfl, ?_⟩
        repeat (first | exact HB4.out | exact HB2.out | apply pw_below_drewN | apply below_drew1)
      · have hbb : (b == 0) = false := beq_eq_false_iff_ne.mpr hb
        have hR : binOp 60 false false true w0 a b = (wrapR w0 (opVal 60 a b), 0, 0) := by
          unfold binOp
          simp [hI, hJ]
        go_enter Try.func14, Try.ntmps14
        go_wp2_with fail
        refine (value_isWidth.calls w0 true w (isWidth_eq w0 hw)).mono ?_
        rintro e w1 ⟨rfl, ⟨n1, rfl⟩⟩
        go_wp2_with fail
        refine (operators_calls _).mono ?_
        rintro e w2 ⟨rfl, hown, hb2⟩
        have HB2 : Aside0 (Below w.heap.size w w2) := ⟨(Drawn0.below ⟨⟨n1, rfl⟩⟩).trans (hb2.mono (by simp))⟩
        have hrun : (Instr.lookup 60 (.map (some w.heap.size)) (.string (⟨#[43]⟩ : ByteArray)) true).run Try.prog w2 = .ok (.tuple #[.func (.func 60) #[] #[], .bool true]) w2 := look_60 w2 w.heap.size _ (by simpa using hown)
        clear hown hb2
        go_wp2_with fail
        refine (value_isInt.calls w0 a true _ eI).mono ?_
        rintro e w3 ⟨rfl, ⟨nd_, rfl⟩⟩
        go_wp2_with fail
        refine (value_isInt.calls w0 b true _ eJ).mono ?_
        rintro e w3 ⟨rfl, ⟨nd_, rfl⟩⟩
        go_wp2_with fail
        refine (op_60 a b _).mono ?_
        rintro e w4 ⟨rfl, hd4⟩
        have HB4 : Aside0 (Below w.heap.size w w4) := ⟨Below.trans (by repeat (first | exact HB2.out | apply pw_below_drewN | apply below_drew1)) (hd4.below.mono (by simp; exact HB2.out.size))⟩
        clear hd4
        go_wp2_with fail
        refine (Try.strings_Contains_one (⟨#[43, 45, 42, 47, 37]⟩ : ByteArray) 43 _).mono ?_
        rintro e w5 ⟨rfl, rfl⟩
        go_wp2_with fail
        refine (value_Wrap.calls w0 (opVal 60 a b) _ _ (wrap_eq w0 _ hw)).mono ?_
        rintro e w6 ⟨rfl, ⟨nd6, rfl⟩⟩
        go_wp2
        go_ret3
        refine ⟨by rw [hR]; rfl, ?_⟩
        repeat (first | exact HB4.out | exact HB2.out | apply pw_below_drewN | apply below_drew1)
theorem look_61 (w : World) (b n : Nat) (h : w.ownsMap (H := Unit) Try.prog 9 fnElem b n opD) : (Instr.lookup 60 (.map (some b)) (.string (⟨#[45]⟩ : ByteArray)) true).run Try.prog w = .ok (.tuple #[.func (.func 61) #[] #[], .bool true]) w := by
  have e : M.lastOf opTab [45] (.int .i64 (-1)) = .int .i64 61 := by kernel_rfl
  rcases look_op (⟨#[45]⟩ : ByteArray) (by decide) w b n h with ⟨_, h2⟩ | ⟨m, h4, h5⟩
  · exact absurd (e.symm.trans h2) (by simp)
  · rw [h5]
    have h6 : m = 61 := by
      have h7 := e.symm.trans h4
      have h8 : (61 : Int) = m := by simpa using h7
      omega
    rw [h6]
set_option maxHeartbeats 800000 in
set_option maxRecDepth 100000 in
theorem bin_61 (w0 a b : Int) (hw : 2 ≤ w0 ∧ w0 ≤ 8) (w : World) : Calls Try.prog 14 #[.int .i64 w0, .string (⟨#[45]⟩ : ByteArray), .int .i64 a, .int .i64 b] w fun e w' => e = .returned (.tuple #[.int .i64 (binOp 61 false false true w0 a b).1, .int .i64 (binOp 61 false false true w0 a b).2.1, .int .i64 (binOp 61 false false true w0 a b).2.2]) ∧ Below w.heap.size w w' := by
  have eI := isInt_eq w0 a hw
  have eJ := isInt_eq w0 b hw
  have eA := isBool_eq a
  have eB := isBool_eq b
  cases hI : inW w0 a
  · rw [hI] at eI
    have hR : binOp 61 false false true w0 a b = (0, 0, 2) := by
      unfold binOp
      simp [hI]
    go_enter Try.func14, Try.ntmps14
    go_wp2_with fail
    refine (value_isWidth.calls w0 true w (isWidth_eq w0 hw)).mono ?_
    rintro e w1 ⟨rfl, ⟨n1, rfl⟩⟩
    go_wp2_with fail
    refine (operators_calls _).mono ?_
    rintro e w2 ⟨rfl, hown, hb2⟩
    have HB2 : Aside0 (Below w.heap.size w w2) := ⟨(Drawn0.below ⟨⟨n1, rfl⟩⟩).trans (hb2.mono (by simp))⟩
    have hrun : (Instr.lookup 60 (.map (some w.heap.size)) (.string (⟨#[45]⟩ : ByteArray)) true).run Try.prog w2 = .ok (.tuple #[.func (.func 61) #[] #[], .bool true]) w2 := look_61 w2 w.heap.size _ (by simpa using hown)
    clear hown hb2
    go_wp2_with fail
    refine (value_isInt.calls w0 a false _ eI).mono ?_
    rintro e w3 ⟨rfl, ⟨nd_, rfl⟩⟩
    go_wp2
    go_ret3
    refine ⟨by rw [hR]; rfl, ?_⟩
    repeat (first | exact HB4.out | exact HB2.out | apply pw_below_drewN | apply below_drew1)
  · rw [hI] at eI
    cases hJ : inW w0 b
    · rw [hJ] at eJ
      have hR : binOp 61 false false true w0 a b = (0, 0, 2) := by
        unfold binOp
        simp [hI, hJ]
      go_enter Try.func14, Try.ntmps14
      go_wp2_with fail
      refine (value_isWidth.calls w0 true w (isWidth_eq w0 hw)).mono ?_
      rintro e w1 ⟨rfl, ⟨n1, rfl⟩⟩
      go_wp2_with fail
      refine (operators_calls _).mono ?_
      rintro e w2 ⟨rfl, hown, hb2⟩
      have HB2 : Aside0 (Below w.heap.size w w2) := ⟨(Drawn0.below ⟨⟨n1, rfl⟩⟩).trans (hb2.mono (by simp))⟩
      have hrun : (Instr.lookup 60 (.map (some w.heap.size)) (.string (⟨#[45]⟩ : ByteArray)) true).run Try.prog w2 = .ok (.tuple #[.func (.func 61) #[] #[], .bool true]) w2 := look_61 w2 w.heap.size _ (by simpa using hown)
      clear hown hb2
      go_wp2_with fail
      refine (value_isInt.calls w0 a true _ eI).mono ?_
      rintro e w3 ⟨rfl, ⟨nd_, rfl⟩⟩
      go_wp2_with fail
      refine (value_isInt.calls w0 b false _ eJ).mono ?_
      rintro e w3 ⟨rfl, ⟨nd_, rfl⟩⟩
      go_wp2
      go_ret3
      refine ⟨by rw [hR]; rfl, ?_⟩
      repeat (first | exact HB4.out | exact HB2.out | apply pw_below_drewN | apply below_drew1)
    · rw [hJ] at eJ
      by_cases hb : b = 0
      · subst hb
        have hR : binOp 61 false false true w0 a 0 = (wrapR w0 (opVal 61 a 0), 0, 0) := by
          unfold binOp
          simp [hI, hJ]
        go_enter Try.func14, Try.ntmps14
        go_wp2_with fail
        refine (value_isWidth.calls w0 true w (isWidth_eq w0 hw)).mono ?_
        rintro e w1 ⟨rfl, ⟨n1, rfl⟩⟩
        go_wp2_with fail
        refine (operators_calls _).mono ?_
        rintro e w2 ⟨rfl, hown, hb2⟩
        have HB2 : Aside0 (Below w.heap.size w w2) := ⟨(Drawn0.below ⟨⟨n1, rfl⟩⟩).trans (hb2.mono (by simp))⟩
        have hrun : (Instr.lookup 60 (.map (some w.heap.size)) (.string (⟨#[45]⟩ : ByteArray)) true).run Try.prog w2 = .ok (.tuple #[.func (.func 61) #[] #[], .bool true]) w2 := look_61 w2 w.heap.size _ (by simpa using hown)
        clear hown hb2
        go_wp2_with fail
        refine (value_isInt.calls w0 a true _ eI).mono ?_
        rintro e w3 ⟨rfl, ⟨nd_, rfl⟩⟩
        go_wp2_with fail
        refine (value_isInt.calls w0 0 true _ eJ).mono ?_
        rintro e w3 ⟨rfl, ⟨nd_, rfl⟩⟩
        go_wp2_with fail
        refine (op_61 a 0 _).mono ?_
        rintro e w4 ⟨rfl, hd4⟩
        have HB4 : Aside0 (Below w.heap.size w w4) := ⟨Below.trans (by repeat (first | exact HB2.out | apply pw_below_drewN | apply below_drew1)) (hd4.below.mono (by simp; exact HB2.out.size))⟩
        clear hd4
        go_wp2_with fail
        refine (Try.strings_Contains_one (⟨#[43, 45, 42, 47, 37]⟩ : ByteArray) 45 _).mono ?_
        rintro e w5 ⟨rfl, rfl⟩
        go_wp2_with fail
        refine (value_Wrap.calls w0 (opVal 61 a 0) _ _ (wrap_eq w0 _ hw)).mono ?_
        rintro e w6 ⟨rfl, ⟨nd6, rfl⟩⟩
        go_wp2
        go_ret3
        refine ⟨by rw [hR]; rfl, ?_⟩
        repeat (first | exact HB4.out | exact HB2.out | apply pw_below_drewN | apply below_drew1)
      · have hbb : (b == 0) = false := beq_eq_false_iff_ne.mpr hb
        have hR : binOp 61 false false true w0 a b = (wrapR w0 (opVal 61 a b), 0, 0) := by
          unfold binOp
          simp [hI, hJ]
        go_enter Try.func14, Try.ntmps14
        go_wp2_with fail
        refine (value_isWidth.calls w0 true w (isWidth_eq w0 hw)).mono ?_
        rintro e w1 ⟨rfl, ⟨n1, rfl⟩⟩
        go_wp2_with fail
        refine (operators_calls _).mono ?_
        rintro e w2 ⟨rfl, hown, hb2⟩
        have HB2 : Aside0 (Below w.heap.size w w2) := ⟨(Drawn0.below ⟨⟨n1, rfl⟩⟩).trans (hb2.mono (by simp))⟩
        have hrun : (Instr.lookup 60 (.map (some w.heap.size)) (.string (⟨#[45]⟩ : ByteArray)) true).run Try.prog w2 = .ok (.tuple #[.func (.func 61) #[] #[], .bool true]) w2 := look_61 w2 w.heap.size _ (by simpa using hown)
        clear hown hb2
        go_wp2_with fail
        refine (value_isInt.calls w0 a true _ eI).mono ?_
        rintro e w3 ⟨rfl, ⟨nd_, rfl⟩⟩
        go_wp2_with fail
        refine (value_isInt.calls w0 b true _ eJ).mono ?_
        rintro e w3 ⟨rfl, ⟨nd_, rfl⟩⟩
        go_wp2_with fail
        refine (op_61 a b _).mono ?_
        rintro e w4 ⟨rfl, hd4⟩
        have HB4 : Aside0 (Below w.heap.size w w4) := ⟨Below.trans (by repeat (first | exact HB2.out | apply pw_below_drewN | apply below_drew1)) (hd4.below.mono (by simp; exact HB2.out.size))⟩
        clear hd4
        go_wp2_with fail
        refine (Try.strings_Contains_one (⟨#[43, 45, 42, 47, 37]⟩ : ByteArray) 45 _).mono ?_
        rintro e w5 ⟨rfl, rfl⟩
        go_wp2_with fail
        refine (value_Wrap.calls w0 (opVal 61 a b) _ _ (wrap_eq w0 _ hw)).mono ?_
        rintro e w6 ⟨rfl, ⟨nd6, rfl⟩⟩
        go_wp2
        go_ret3
        refine ⟨by rw [hR]; rfl, ?_⟩
        repeat (first | exact HB4.out | exact HB2.out | apply pw_below_drewN | apply below_drew1)
theorem look_62 (w : World) (b n : Nat) (h : w.ownsMap (H := Unit) Try.prog 9 fnElem b n opD) : (Instr.lookup 60 (.map (some b)) (.string (⟨#[42]⟩ : ByteArray)) true).run Try.prog w = .ok (.tuple #[.func (.func 62) #[] #[], .bool true]) w := by
  have e : M.lastOf opTab [42] (.int .i64 (-1)) = .int .i64 62 := by kernel_rfl
  rcases look_op (⟨#[42]⟩ : ByteArray) (by decide) w b n h with ⟨_, h2⟩ | ⟨m, h4, h5⟩
  · exact absurd (e.symm.trans h2) (by simp)
  · rw [h5]
    have h6 : m = 62 := by
      have h7 := e.symm.trans h4
      have h8 : (62 : Int) = m := by simpa using h7
      omega
    rw [h6]
set_option maxHeartbeats 800000 in
set_option maxRecDepth 100000 in
theorem bin_62 (w0 a b : Int) (hw : 2 ≤ w0 ∧ w0 ≤ 8) (w : World) : Calls Try.prog 14 #[.int .i64 w0, .string (⟨#[42]⟩ : ByteArray), .int .i64 a, .int .i64 b] w fun e w' => e = .returned (.tuple #[.int .i64 (binOp 62 false false true w0 a b).1, .int .i64 (binOp 62 false false true w0 a b).2.1, .int .i64 (binOp 62 false false true w0 a b).2.2]) ∧ Below w.heap.size w w' := by
  have eI := isInt_eq w0 a hw
  have eJ := isInt_eq w0 b hw
  have eA := isBool_eq a
  have eB := isBool_eq b
  cases hI : inW w0 a
  · rw [hI] at eI
    have hR : binOp 62 false false true w0 a b = (0, 0, 2) := by
      unfold binOp
      simp [hI]
    go_enter Try.func14, Try.ntmps14
    go_wp2_with fail
    refine (value_isWidth.calls w0 true w (isWidth_eq w0 hw)).mono ?_
    rintro e w1 ⟨rfl, ⟨n1, rfl⟩⟩
    go_wp2_with fail
    refine (operators_calls _).mono ?_
    rintro e w2 ⟨rfl, hown, hb2⟩
    have HB2 : Aside0 (Below w.heap.size w w2) := ⟨(Drawn0.below ⟨⟨n1, rfl⟩⟩).trans (hb2.mono (by simp))⟩
    have hrun : (Instr.lookup 60 (.map (some w.heap.size)) (.string (⟨#[42]⟩ : ByteArray)) true).run Try.prog w2 = .ok (.tuple #[.func (.func 62) #[] #[], .bool true]) w2 := look_62 w2 w.heap.size _ (by simpa using hown)
    clear hown hb2
    go_wp2_with fail
    refine (value_isInt.calls w0 a false _ eI).mono ?_
    rintro e w3 ⟨rfl, ⟨nd_, rfl⟩⟩
    go_wp2
    go_ret3
    refine ⟨by rw [hR]; rfl, ?_⟩
    repeat (first | exact HB4.out | exact HB2.out | apply pw_below_drewN | apply below_drew1)
  · rw [hI] at eI
    cases hJ : inW w0 b
    · rw [hJ] at eJ
      have hR : binOp 62 false false true w0 a b = (0, 0, 2) := by
        unfold binOp
        simp [hI, hJ]
      go_enter Try.func14, Try.ntmps14
      go_wp2_with fail
      refine (value_isWidth.calls w0 true w (isWidth_eq w0 hw)).mono ?_
      rintro e w1 ⟨rfl, ⟨n1, rfl⟩⟩
      go_wp2_with fail
      refine (operators_calls _).mono ?_
      rintro e w2 ⟨rfl, hown, hb2⟩
      have HB2 : Aside0 (Below w.heap.size w w2) := ⟨(Drawn0.below ⟨⟨n1, rfl⟩⟩).trans (hb2.mono (by simp))⟩
      have hrun : (Instr.lookup 60 (.map (some w.heap.size)) (.string (⟨#[42]⟩ : ByteArray)) true).run Try.prog w2 = .ok (.tuple #[.func (.func 62) #[] #[], .bool true]) w2 := look_62 w2 w.heap.size _ (by simpa using hown)
      clear hown hb2
      go_wp2_with fail
      refine (value_isInt.calls w0 a true _ eI).mono ?_
      rintro e w3 ⟨rfl, ⟨nd_, rfl⟩⟩
      go_wp2_with fail
      refine (value_isInt.calls w0 b false _ eJ).mono ?_
      rintro e w3 ⟨rfl, ⟨nd_, rfl⟩⟩
      go_wp2
      go_ret3
      refine ⟨by rw [hR]; rfl, ?_⟩
      repeat (first | exact HB4.out | exact HB2.out | apply pw_below_drewN | apply below_drew1)
    · rw [hJ] at eJ
      by_cases hb : b = 0
      · subst hb
        have hR : binOp 62 false false true w0 a 0 = (wrapR w0 (opVal 62 a 0), 0, 0) := by
          unfold binOp
          simp [hI, hJ]
        go_enter Try.func14, Try.ntmps14
        go_wp2_with fail
        refine (value_isWidth.calls w0 true w (isWidth_eq w0 hw)).mono ?_
        rintro e w1 ⟨rfl, ⟨n1, rfl⟩⟩
        go_wp2_with fail
        refine (operators_calls _).mono ?_
        rintro e w2 ⟨rfl, hown, hb2⟩
        have HB2 : Aside0 (Below w.heap.size w w2) := ⟨(Drawn0.below ⟨⟨n1, rfl⟩⟩).trans (hb2.mono (by simp))⟩
        have hrun : (Instr.lookup 60 (.map (some w.heap.size)) (.string (⟨#[42]⟩ : ByteArray)) true).run Try.prog w2 = .ok (.tuple #[.func (.func 62) #[] #[], .bool true]) w2 := look_62 w2 w.heap.size _ (by simpa using hown)
        clear hown hb2
        go_wp2_with fail
        refine (value_isInt.calls w0 a true _ eI).mono ?_
        rintro e w3 ⟨rfl, ⟨nd_, rfl⟩⟩
        go_wp2_with fail
        refine (value_isInt.calls w0 0 true _ eJ).mono ?_
        rintro e w3 ⟨rfl, ⟨nd_, rfl⟩⟩
        go_wp2_with fail
        refine (op_62 a 0 _).mono ?_
        rintro e w4 ⟨rfl, hd4⟩
        have HB4 : Aside0 (Below w.heap.size w w4) := ⟨Below.trans (by repeat (first | exact HB2.out | apply pw_below_drewN | apply below_drew1)) (hd4.below.mono (by simp; exact HB2.out.size))⟩
        clear hd4
        go_wp2_with fail
        refine (Try.strings_Contains_one (⟨#[43, 45, 42, 47, 37]⟩ : ByteArray) 42 _).mono ?_
        rintro e w5 ⟨rfl, rfl⟩
        go_wp2_with fail
        refine (value_Wrap.calls w0 (opVal 62 a 0) _ _ (wrap_eq w0 _ hw)).mono ?_
        rintro e w6 ⟨rfl, ⟨nd6, rfl⟩⟩
        go_wp2
        go_ret3
        refine ⟨by rw [hR]; rfl, ?_⟩
        repeat (first | exact HB4.out | exact HB2.out | apply pw_below_drewN | apply below_drew1)
      · have hbb : (b == 0) = false := beq_eq_false_iff_ne.mpr hb
        have hR : binOp 62 false false true w0 a b = (wrapR w0 (opVal 62 a b), 0, 0) := by
          unfold binOp
          simp [hI, hJ]
        go_enter Try.func14, Try.ntmps14
        go_wp2_with fail
        refine (value_isWidth.calls w0 true w (isWidth_eq w0 hw)).mono ?_
        rintro e w1 ⟨rfl, ⟨n1, rfl⟩⟩
        go_wp2_with fail
        refine (operators_calls _).mono ?_
        rintro e w2 ⟨rfl, hown, hb2⟩
        have HB2 : Aside0 (Below w.heap.size w w2) := ⟨(Drawn0.below ⟨⟨n1, rfl⟩⟩).trans (hb2.mono (by simp))⟩
        have hrun : (Instr.lookup 60 (.map (some w.heap.size)) (.string (⟨#[42]⟩ : ByteArray)) true).run Try.prog w2 = .ok (.tuple #[.func (.func 62) #[] #[], .bool true]) w2 := look_62 w2 w.heap.size _ (by simpa using hown)
        clear hown hb2
        go_wp2_with fail
        refine (value_isInt.calls w0 a true _ eI).mono ?_
        rintro e w3 ⟨rfl, ⟨nd_, rfl⟩⟩
        go_wp2_with fail
        refine (value_isInt.calls w0 b true _ eJ).mono ?_
        rintro e w3 ⟨rfl, ⟨nd_, rfl⟩⟩
        go_wp2_with fail
        refine (op_62 a b _).mono ?_
        rintro e w4 ⟨rfl, hd4⟩
        have HB4 : Aside0 (Below w.heap.size w w4) := ⟨Below.trans (by repeat (first | exact HB2.out | apply pw_below_drewN | apply below_drew1)) (hd4.below.mono (by simp; exact HB2.out.size))⟩
        clear hd4
        go_wp2_with fail
        refine (Try.strings_Contains_one (⟨#[43, 45, 42, 47, 37]⟩ : ByteArray) 42 _).mono ?_
        rintro e w5 ⟨rfl, rfl⟩
        go_wp2_with fail
        refine (value_Wrap.calls w0 (opVal 62 a b) _ _ (wrap_eq w0 _ hw)).mono ?_
        rintro e w6 ⟨rfl, ⟨nd6, rfl⟩⟩
        go_wp2
        go_ret3
        refine ⟨by rw [hR]; rfl, ?_⟩
        repeat (first | exact HB4.out | exact HB2.out | apply pw_below_drewN | apply below_drew1)
theorem look_63 (w : World) (b n : Nat) (h : w.ownsMap (H := Unit) Try.prog 9 fnElem b n opD) : (Instr.lookup 60 (.map (some b)) (.string (⟨#[47]⟩ : ByteArray)) true).run Try.prog w = .ok (.tuple #[.func (.func 63) #[] #[], .bool true]) w := by
  have e : M.lastOf opTab [47] (.int .i64 (-1)) = .int .i64 63 := by kernel_rfl
  rcases look_op (⟨#[47]⟩ : ByteArray) (by decide) w b n h with ⟨_, h2⟩ | ⟨m, h4, h5⟩
  · exact absurd (e.symm.trans h2) (by simp)
  · rw [h5]
    have h6 : m = 63 := by
      have h7 := e.symm.trans h4
      have h8 : (63 : Int) = m := by simpa using h7
      omega
    rw [h6]
set_option maxHeartbeats 800000 in
set_option maxRecDepth 100000 in
theorem bin_63 (w0 a b : Int) (hw : 2 ≤ w0 ∧ w0 ≤ 8) (w : World) : Calls Try.prog 14 #[.int .i64 w0, .string (⟨#[47]⟩ : ByteArray), .int .i64 a, .int .i64 b] w fun e w' => e = .returned (.tuple #[.int .i64 (binOp 63 false true true w0 a b).1, .int .i64 (binOp 63 false true true w0 a b).2.1, .int .i64 (binOp 63 false true true w0 a b).2.2]) ∧ Below w.heap.size w w' := by
  have eI := isInt_eq w0 a hw
  have eJ := isInt_eq w0 b hw
  have eA := isBool_eq a
  have eB := isBool_eq b
  cases hI : inW w0 a
  · rw [hI] at eI
    have hR : binOp 63 false true true w0 a b = (0, 0, 2) := by
      unfold binOp
      simp [hI]
    go_enter Try.func14, Try.ntmps14
    go_wp2_with fail
    refine (value_isWidth.calls w0 true w (isWidth_eq w0 hw)).mono ?_
    rintro e w1 ⟨rfl, ⟨n1, rfl⟩⟩
    go_wp2_with fail
    refine (operators_calls _).mono ?_
    rintro e w2 ⟨rfl, hown, hb2⟩
    have HB2 : Aside0 (Below w.heap.size w w2) := ⟨(Drawn0.below ⟨⟨n1, rfl⟩⟩).trans (hb2.mono (by simp))⟩
    have hrun : (Instr.lookup 60 (.map (some w.heap.size)) (.string (⟨#[47]⟩ : ByteArray)) true).run Try.prog w2 = .ok (.tuple #[.func (.func 63) #[] #[], .bool true]) w2 := look_63 w2 w.heap.size _ (by simpa using hown)
    clear hown hb2
    go_wp2_with fail
    refine (value_isInt.calls w0 a false _ eI).mono ?_
    rintro e w3 ⟨rfl, ⟨nd_, rfl⟩⟩
    go_wp2
    go_ret3
    refine ⟨by rw [hR]; rfl, ?_⟩
    repeat (first | exact HB4.out | exact HB2.out | apply pw_below_drewN | apply below_drew1)
  · rw [hI] at eI
    cases hJ : inW w0 b
    · rw [hJ] at eJ
      have hR : binOp 63 false true true w0 a b = (0, 0, 2) := by
        unfold binOp
        simp [hI, hJ]
      go_enter Try.func14, Try.ntmps14
      go_wp2_with fail
      refine (value_isWidth.calls w0 true w (isWidth_eq w0 hw)).mono ?_
      rintro e w1 ⟨rfl, ⟨n1, rfl⟩⟩
      go_wp2_with fail
      refine (operators_calls _).mono ?_
      rintro e w2 ⟨rfl, hown, hb2⟩
      have HB2 : Aside0 (Below w.heap.size w w2) := ⟨(Drawn0.below ⟨⟨n1, rfl⟩⟩).trans (hb2.mono (by simp))⟩
      have hrun : (Instr.lookup 60 (.map (some w.heap.size)) (.string (⟨#[47]⟩ : ByteArray)) true).run Try.prog w2 = .ok (.tuple #[.func (.func 63) #[] #[], .bool true]) w2 := look_63 w2 w.heap.size _ (by simpa using hown)
      clear hown hb2
      go_wp2_with fail
      refine (value_isInt.calls w0 a true _ eI).mono ?_
      rintro e w3 ⟨rfl, ⟨nd_, rfl⟩⟩
      go_wp2_with fail
      refine (value_isInt.calls w0 b false _ eJ).mono ?_
      rintro e w3 ⟨rfl, ⟨nd_, rfl⟩⟩
      go_wp2
      go_ret3
      refine ⟨by rw [hR]; rfl, ?_⟩
      repeat (first | exact HB4.out | exact HB2.out | apply pw_below_drewN | apply below_drew1)
    · rw [hJ] at eJ
      by_cases hb : b = 0
      · subst hb
        have hR : binOp 63 false true true w0 a 0 = (0, 1, 0) := by
          unfold binOp
          simp [hI, hJ]
        go_enter Try.func14, Try.ntmps14
        go_wp2_with fail
        refine (value_isWidth.calls w0 true w (isWidth_eq w0 hw)).mono ?_
        rintro e w1 ⟨rfl, ⟨n1, rfl⟩⟩
        go_wp2_with fail
        refine (operators_calls _).mono ?_
        rintro e w2 ⟨rfl, hown, hb2⟩
        have HB2 : Aside0 (Below w.heap.size w w2) := ⟨(Drawn0.below ⟨⟨n1, rfl⟩⟩).trans (hb2.mono (by simp))⟩
        have hrun : (Instr.lookup 60 (.map (some w.heap.size)) (.string (⟨#[47]⟩ : ByteArray)) true).run Try.prog w2 = .ok (.tuple #[.func (.func 63) #[] #[], .bool true]) w2 := look_63 w2 w.heap.size _ (by simpa using hown)
        clear hown hb2
        go_wp2_with fail
        refine (value_isInt.calls w0 a true _ eI).mono ?_
        rintro e w3 ⟨rfl, ⟨nd_, rfl⟩⟩
        go_wp2_with fail
        refine (value_isInt.calls w0 0 true _ eJ).mono ?_
        rintro e w3 ⟨rfl, ⟨nd_, rfl⟩⟩
        go_wp2
        go_ret3
        refine ⟨by rw [hR]; rfl, ?_⟩
        repeat (first | exact HB4.out | exact HB2.out | apply pw_below_drewN | apply below_drew1)
      · have hbb : (b == 0) = false := beq_eq_false_iff_ne.mpr hb
        have hR : binOp 63 false true true w0 a b = (wrapR w0 (opVal 63 a b), 0, 0) := by
          unfold binOp
          simp [hI, hJ, hb]
        go_enter Try.func14, Try.ntmps14
        go_wp2_with fail
        refine (value_isWidth.calls w0 true w (isWidth_eq w0 hw)).mono ?_
        rintro e w1 ⟨rfl, ⟨n1, rfl⟩⟩
        go_wp2_with fail
        refine (operators_calls _).mono ?_
        rintro e w2 ⟨rfl, hown, hb2⟩
        have HB2 : Aside0 (Below w.heap.size w w2) := ⟨(Drawn0.below ⟨⟨n1, rfl⟩⟩).trans (hb2.mono (by simp))⟩
        have hrun : (Instr.lookup 60 (.map (some w.heap.size)) (.string (⟨#[47]⟩ : ByteArray)) true).run Try.prog w2 = .ok (.tuple #[.func (.func 63) #[] #[], .bool true]) w2 := look_63 w2 w.heap.size _ (by simpa using hown)
        clear hown hb2
        go_wp2_with fail
        refine (value_isInt.calls w0 a true _ eI).mono ?_
        rintro e w3 ⟨rfl, ⟨nd_, rfl⟩⟩
        go_wp2_with fail
        refine (value_isInt.calls w0 b true _ eJ).mono ?_
        rintro e w3 ⟨rfl, ⟨nd_, rfl⟩⟩
        go_wp2_with fail
        refine (op_63 a b hb _).mono ?_
        rintro e w4 ⟨rfl, hd4⟩
        have HB4 : Aside0 (Below w.heap.size w w4) := ⟨Below.trans (by repeat (first | exact HB2.out | apply pw_below_drewN | apply below_drew1)) (hd4.below.mono (by simp; exact HB2.out.size))⟩
        clear hd4
        go_wp2_with fail
        refine (Try.strings_Contains_one (⟨#[43, 45, 42, 47, 37]⟩ : ByteArray) 47 _).mono ?_
        rintro e w5 ⟨rfl, rfl⟩
        go_wp2_with fail
        refine (value_Wrap.calls w0 (opVal 63 a b) _ _ (wrap_eq w0 _ hw)).mono ?_
        rintro e w6 ⟨rfl, ⟨nd6, rfl⟩⟩
        go_wp2
        go_ret3
        refine ⟨by rw [hR]; rfl, ?_⟩
        repeat (first | exact HB4.out | exact HB2.out | apply pw_below_drewN | apply below_drew1)
theorem look_64 (w : World) (b n : Nat) (h : w.ownsMap (H := Unit) Try.prog 9 fnElem b n opD) : (Instr.lookup 60 (.map (some b)) (.string (⟨#[37]⟩ : ByteArray)) true).run Try.prog w = .ok (.tuple #[.func (.func 64) #[] #[], .bool true]) w := by
  have e : M.lastOf opTab [37] (.int .i64 (-1)) = .int .i64 64 := by kernel_rfl
  rcases look_op (⟨#[37]⟩ : ByteArray) (by decide) w b n h with ⟨_, h2⟩ | ⟨m, h4, h5⟩
  · exact absurd (e.symm.trans h2) (by simp)
  · rw [h5]
    have h6 : m = 64 := by
      have h7 := e.symm.trans h4
      have h8 : (64 : Int) = m := by simpa using h7
      omega
    rw [h6]
set_option maxHeartbeats 800000 in
set_option maxRecDepth 100000 in
theorem bin_64 (w0 a b : Int) (hw : 2 ≤ w0 ∧ w0 ≤ 8) (w : World) : Calls Try.prog 14 #[.int .i64 w0, .string (⟨#[37]⟩ : ByteArray), .int .i64 a, .int .i64 b] w fun e w' => e = .returned (.tuple #[.int .i64 (binOp 64 false true true w0 a b).1, .int .i64 (binOp 64 false true true w0 a b).2.1, .int .i64 (binOp 64 false true true w0 a b).2.2]) ∧ Below w.heap.size w w' := by
  have eI := isInt_eq w0 a hw
  have eJ := isInt_eq w0 b hw
  have eA := isBool_eq a
  have eB := isBool_eq b
  cases hI : inW w0 a
  · rw [hI] at eI
    have hR : binOp 64 false true true w0 a b = (0, 0, 2) := by
      unfold binOp
      simp [hI]
    go_enter Try.func14, Try.ntmps14
    go_wp2_with fail
    refine (value_isWidth.calls w0 true w (isWidth_eq w0 hw)).mono ?_
    rintro e w1 ⟨rfl, ⟨n1, rfl⟩⟩
    go_wp2_with fail
    refine (operators_calls _).mono ?_
    rintro e w2 ⟨rfl, hown, hb2⟩
    have HB2 : Aside0 (Below w.heap.size w w2) := ⟨(Drawn0.below ⟨⟨n1, rfl⟩⟩).trans (hb2.mono (by simp))⟩
    have hrun : (Instr.lookup 60 (.map (some w.heap.size)) (.string (⟨#[37]⟩ : ByteArray)) true).run Try.prog w2 = .ok (.tuple #[.func (.func 64) #[] #[], .bool true]) w2 := look_64 w2 w.heap.size _ (by simpa using hown)
    clear hown hb2
    go_wp2_with fail
    refine (value_isInt.calls w0 a false _ eI).mono ?_
    rintro e w3 ⟨rfl, ⟨nd_, rfl⟩⟩
    go_wp2
    go_ret3
    refine ⟨by rw [hR]; rfl, ?_⟩
    repeat (first | exact HB4.out | exact HB2.out | apply pw_below_drewN | apply below_drew1)
  · rw [hI] at eI
    cases hJ : inW w0 b
    · rw [hJ] at eJ
      have hR : binOp 64 false true true w0 a b = (0, 0, 2) := by
        unfold binOp
        simp [hI, hJ]
      go_enter Try.func14, Try.ntmps14
      go_wp2_with fail
      refine (value_isWidth.calls w0 true w (isWidth_eq w0 hw)).mono ?_
      rintro e w1 ⟨rfl, ⟨n1, rfl⟩⟩
      go_wp2_with fail
      refine (operators_calls _).mono ?_
      rintro e w2 ⟨rfl, hown, hb2⟩
      have HB2 : Aside0 (Below w.heap.size w w2) := ⟨(Drawn0.below ⟨⟨n1, rfl⟩⟩).trans (hb2.mono (by simp))⟩
      have hrun : (Instr.lookup 60 (.map (some w.heap.size)) (.string (⟨#[37]⟩ : ByteArray)) true).run Try.prog w2 = .ok (.tuple #[.func (.func 64) #[] #[], .bool true]) w2 := look_64 w2 w.heap.size _ (by simpa using hown)
      clear hown hb2
      go_wp2_with fail
      refine (value_isInt.calls w0 a true _ eI).mono ?_
      rintro e w3 ⟨rfl, ⟨nd_, rfl⟩⟩
      go_wp2_with fail
      refine (value_isInt.calls w0 b false _ eJ).mono ?_
      rintro e w3 ⟨rfl, ⟨nd_, rfl⟩⟩
      go_wp2
      go_ret3
      refine ⟨by rw [hR]; rfl, ?_⟩
      repeat (first | exact HB4.out | exact HB2.out | apply pw_below_drewN | apply below_drew1)
    · rw [hJ] at eJ
      by_cases hb : b = 0
      · subst hb
        have hR : binOp 64 false true true w0 a 0 = (0, 1, 0) := by
          unfold binOp
          simp [hI, hJ]
        go_enter Try.func14, Try.ntmps14
        go_wp2_with fail
        refine (value_isWidth.calls w0 true w (isWidth_eq w0 hw)).mono ?_
        rintro e w1 ⟨rfl, ⟨n1, rfl⟩⟩
        go_wp2_with fail
        refine (operators_calls _).mono ?_
        rintro e w2 ⟨rfl, hown, hb2⟩
        have HB2 : Aside0 (Below w.heap.size w w2) := ⟨(Drawn0.below ⟨⟨n1, rfl⟩⟩).trans (hb2.mono (by simp))⟩
        have hrun : (Instr.lookup 60 (.map (some w.heap.size)) (.string (⟨#[37]⟩ : ByteArray)) true).run Try.prog w2 = .ok (.tuple #[.func (.func 64) #[] #[], .bool true]) w2 := look_64 w2 w.heap.size _ (by simpa using hown)
        clear hown hb2
        go_wp2_with fail
        refine (value_isInt.calls w0 a true _ eI).mono ?_
        rintro e w3 ⟨rfl, ⟨nd_, rfl⟩⟩
        go_wp2_with fail
        refine (value_isInt.calls w0 0 true _ eJ).mono ?_
        rintro e w3 ⟨rfl, ⟨nd_, rfl⟩⟩
        go_wp2
        go_ret3
        refine ⟨by rw [hR]; rfl, ?_⟩
        repeat (first | exact HB4.out | exact HB2.out | apply pw_below_drewN | apply below_drew1)
      · have hbb : (b == 0) = false := beq_eq_false_iff_ne.mpr hb
        have hR : binOp 64 false true true w0 a b = (wrapR w0 (opVal 64 a b), 0, 0) := by
          unfold binOp
          simp [hI, hJ, hb]
        go_enter Try.func14, Try.ntmps14
        go_wp2_with fail
        refine (value_isWidth.calls w0 true w (isWidth_eq w0 hw)).mono ?_
        rintro e w1 ⟨rfl, ⟨n1, rfl⟩⟩
        go_wp2_with fail
        refine (operators_calls _).mono ?_
        rintro e w2 ⟨rfl, hown, hb2⟩
        have HB2 : Aside0 (Below w.heap.size w w2) := ⟨(Drawn0.below ⟨⟨n1, rfl⟩⟩).trans (hb2.mono (by simp))⟩
        have hrun : (Instr.lookup 60 (.map (some w.heap.size)) (.string (⟨#[37]⟩ : ByteArray)) true).run Try.prog w2 = .ok (.tuple #[.func (.func 64) #[] #[], .bool true]) w2 := look_64 w2 w.heap.size _ (by simpa using hown)
        clear hown hb2
        go_wp2_with fail
        refine (value_isInt.calls w0 a true _ eI).mono ?_
        rintro e w3 ⟨rfl, ⟨nd_, rfl⟩⟩
        go_wp2_with fail
        refine (value_isInt.calls w0 b true _ eJ).mono ?_
        rintro e w3 ⟨rfl, ⟨nd_, rfl⟩⟩
        go_wp2_with fail
        refine (op_64 a b hb _).mono ?_
        rintro e w4 ⟨rfl, hd4⟩
        have HB4 : Aside0 (Below w.heap.size w w4) := ⟨Below.trans (by repeat (first | exact HB2.out | apply pw_below_drewN | apply below_drew1)) (hd4.below.mono (by simp; exact HB2.out.size))⟩
        clear hd4
        go_wp2_with fail
        refine (Try.strings_Contains_one (⟨#[43, 45, 42, 47, 37]⟩ : ByteArray) 37 _).mono ?_
        rintro e w5 ⟨rfl, rfl⟩
        go_wp2_with fail
        refine (value_Wrap.calls w0 (opVal 64 a b) _ _ (wrap_eq w0 _ hw)).mono ?_
        rintro e w6 ⟨rfl, ⟨nd6, rfl⟩⟩
        go_wp2
        go_ret3
        refine ⟨by rw [hR]; rfl, ?_⟩
        repeat (first | exact HB4.out | exact HB2.out | apply pw_below_drewN | apply below_drew1)
theorem look_68 (w : World) (b n : Nat) (h : w.ownsMap (H := Unit) Try.prog 9 fnElem b n opD) : (Instr.lookup 60 (.map (some b)) (.string (⟨#[60]⟩ : ByteArray)) true).run Try.prog w = .ok (.tuple #[.func (.func 68) #[] #[], .bool true]) w := by
  have e : M.lastOf opTab [60] (.int .i64 (-1)) = .int .i64 68 := by kernel_rfl
  rcases look_op (⟨#[60]⟩ : ByteArray) (by decide) w b n h with ⟨_, h2⟩ | ⟨m, h4, h5⟩
  · exact absurd (e.symm.trans h2) (by simp)
  · rw [h5]
    have h6 : m = 68 := by
      have h7 := e.symm.trans h4
      have h8 : (68 : Int) = m := by simpa using h7
      omega
    rw [h6]
set_option maxHeartbeats 800000 in
set_option maxRecDepth 100000 in
theorem bin_68 (w0 a b : Int) (hw : 2 ≤ w0 ∧ w0 ≤ 8) (w : World) : Calls Try.prog 14 #[.int .i64 w0, .string (⟨#[60]⟩ : ByteArray), .int .i64 a, .int .i64 b] w fun e w' => e = .returned (.tuple #[.int .i64 (binOp 68 false false false w0 a b).1, .int .i64 (binOp 68 false false false w0 a b).2.1, .int .i64 (binOp 68 false false false w0 a b).2.2]) ∧ Below w.heap.size w w' := by
  have eI := isInt_eq w0 a hw
  have eJ := isInt_eq w0 b hw
  have eA := isBool_eq a
  have eB := isBool_eq b
  cases hI : inW w0 a
  · rw [hI] at eI
    have hR : binOp 68 false false false w0 a b = (0, 0, 2) := by
      unfold binOp
      simp [hI]
    go_enter Try.func14, Try.ntmps14
    go_wp2_with fail
    refine (value_isWidth.calls w0 true w (isWidth_eq w0 hw)).mono ?_
    rintro e w1 ⟨rfl, ⟨n1, rfl⟩⟩
    go_wp2_with fail
    refine (operators_calls _).mono ?_
    rintro e w2 ⟨rfl, hown, hb2⟩
    have HB2 : Aside0 (Below w.heap.size w w2) := ⟨(Drawn0.below ⟨⟨n1, rfl⟩⟩).trans (hb2.mono (by simp))⟩
    have hrun : (Instr.lookup 60 (.map (some w.heap.size)) (.string (⟨#[60]⟩ : ByteArray)) true).run Try.prog w2 = .ok (.tuple #[.func (.func 68) #[] #[], .bool true]) w2 := look_68 w2 w.heap.size _ (by simpa using hown)
    clear hown hb2
    go_wp2_with fail
    refine (value_isInt.calls w0 a false _ eI).mono ?_
    rintro e w3 ⟨rfl, ⟨nd_, rfl⟩⟩
    go_wp2
    go_ret3
    refine ⟨by rw [hR]; rfl, ?_⟩
    repeat (first | exact HB4.out | exact HB2.out | apply pw_below_drewN | apply below_drew1)
  · rw [hI] at eI
    cases hJ : inW w0 b
    · rw [hJ] at eJ
      have hR : binOp 68 false false false w0 a b = (0, 0, 2) := by
        unfold binOp
        simp [hI, hJ]
      go_enter Try.func14, Try.ntmps14
      go_wp2_with fail
      refine (value_isWidth.calls w0 true w (isWidth_eq w0 hw)).mono ?_
      rintro e w1 ⟨rfl, ⟨n1, rfl⟩⟩
      go_wp2_with fail
      refine (operators_calls _).mono ?_
      rintro e w2 ⟨rfl, hown, hb2⟩
      have HB2 : Aside0 (Below w.heap.size w w2) := ⟨(Drawn0.below ⟨⟨n1, rfl⟩⟩).trans (hb2.mono (by simp))⟩
      have hrun : (Instr.lookup 60 (.map (some w.heap.size)) (.string (⟨#[60]⟩ : ByteArray)) true).run Try.prog w2 = .ok (.tuple #[.func (.func 68) #[] #[], .bool true]) w2 := look_68 w2 w.heap.size _ (by simpa using hown)
      clear hown hb2
      go_wp2_with fail
      refine (value_isInt.calls w0 a true _ eI).mono ?_
      rintro e w3 ⟨rfl, ⟨nd_, rfl⟩⟩
      go_wp2_with fail
      refine (value_isInt.calls w0 b false _ eJ).mono ?_
      rintro e w3 ⟨rfl, ⟨nd_, rfl⟩⟩
      go_wp2
      go_ret3
      refine ⟨by rw [hR]; rfl, ?_⟩
      repeat (first | exact HB4.out | exact HB2.out | apply pw_below_drewN | apply below_drew1)
    · rw [hJ] at eJ
      by_cases hb : b = 0
      · subst hb
        have hR : binOp 68 false false false w0 a 0 = (opVal 68 a 0, 0, 0) := by
          unfold binOp
          simp [hI, hJ]
        go_enter Try.func14, Try.ntmps14
        go_wp2_with fail
        refine (value_isWidth.calls w0 true w (isWidth_eq w0 hw)).mono ?_
        rintro e w1 ⟨rfl, ⟨n1, rfl⟩⟩
        go_wp2_with fail
        refine (operators_calls _).mono ?_
        rintro e w2 ⟨rfl, hown, hb2⟩
        have HB2 : Aside0 (Below w.heap.size w w2) := ⟨(Drawn0.below ⟨⟨n1, rfl⟩⟩).trans (hb2.mono (by simp))⟩
        have hrun : (Instr.lookup 60 (.map (some w.heap.size)) (.string (⟨#[60]⟩ : ByteArray)) true).run Try.prog w2 = .ok (.tuple #[.func (.func 68) #[] #[], .bool true]) w2 := look_68 w2 w.heap.size _ (by simpa using hown)
        clear hown hb2
        go_wp2_with fail
        refine (value_isInt.calls w0 a true _ eI).mono ?_
        rintro e w3 ⟨rfl, ⟨nd_, rfl⟩⟩
        go_wp2_with fail
        refine (value_isInt.calls w0 0 true _ eJ).mono ?_
        rintro e w3 ⟨rfl, ⟨nd_, rfl⟩⟩
        go_wp2_with fail
        refine (op_68 a 0 _).mono ?_
        rintro e w4 ⟨rfl, hd4⟩
        have HB4 : Aside0 (Below w.heap.size w w4) := ⟨Below.trans (by repeat (first | exact HB2.out | apply pw_below_drewN | apply below_drew1)) (hd4.below.mono (by simp; exact HB2.out.size))⟩
        clear hd4
        go_wp2_with fail
        refine (Try.strings_Contains_one (⟨#[43, 45, 42, 47, 37]⟩ : ByteArray) 60 _).mono ?_
        rintro e w5 ⟨rfl, rfl⟩
        go_wp2
        go_ret3
        refine ⟨by rw [hR]; rfl, ?_⟩
        repeat (first | exact HB4.out | exact HB2.out | apply pw_below_drewN | apply below_drew1)
      · have hbb : (b == 0) = false := beq_eq_false_iff_ne.mpr hb
        have hR : binOp 68 false false false w0 a b = (opVal 68 a b, 0, 0) := by
          unfold binOp
          simp [hI, hJ]
        go_enter Try.func14, Try.ntmps14
        go_wp2_with fail
        refine (value_isWidth.calls w0 true w (isWidth_eq w0 hw)).mono ?_
        rintro e w1 ⟨rfl, ⟨n1, rfl⟩⟩
        go_wp2_with fail
        refine (operators_calls _).mono ?_
        rintro e w2 ⟨rfl, hown, hb2⟩
        have HB2 : Aside0 (Below w.heap.size w w2) := ⟨(Drawn0.below ⟨⟨n1, rfl⟩⟩).trans (hb2.mono (by simp))⟩
        have hrun : (Instr.lookup 60 (.map (some w.heap.size)) (.string (⟨#[60]⟩ : ByteArray)) true).run Try.prog w2 = .ok (.tuple #[.func (.func 68) #[] #[], .bool true]) w2 := look_68 w2 w.heap.size _ (by simpa using hown)
        clear hown hb2
        go_wp2_with fail
        refine (value_isInt.calls w0 a true _ eI).mono ?_
        rintro e w3 ⟨rfl, ⟨nd_, rfl⟩⟩
        go_wp2_with fail
        refine (value_isInt.calls w0 b true _ eJ).mono ?_
        rintro e w3 ⟨rfl, ⟨nd_, rfl⟩⟩
        go_wp2_with fail
        refine (op_68 a b _).mono ?_
        rintro e w4 ⟨rfl, hd4⟩
        have HB4 : Aside0 (Below w.heap.size w w4) := ⟨Below.trans (by repeat (first | exact HB2.out | apply pw_below_drewN | apply below_drew1)) (hd4.below.mono (by simp; exact HB2.out.size))⟩
        clear hd4
        go_wp2_with fail
        refine (Try.strings_Contains_one (⟨#[43, 45, 42, 47, 37]⟩ : ByteArray) 60 _).mono ?_
        rintro e w5 ⟨rfl, rfl⟩
        go_wp2
        go_ret3
        refine ⟨by rw [hR]; rfl, ?_⟩
        repeat (first | exact HB4.out | exact HB2.out | apply pw_below_drewN | apply below_drew1)
theorem look_70 (w : World) (b n : Nat) (h : w.ownsMap (H := Unit) Try.prog 9 fnElem b n opD) : (Instr.lookup 60 (.map (some b)) (.string (⟨#[62]⟩ : ByteArray)) true).run Try.prog w = .ok (.tuple #[.func (.func 70) #[] #[], .bool true]) w := by
  have e : M.lastOf opTab [62] (.int .i64 (-1)) = .int .i64 70 := by kernel_rfl
  rcases look_op (⟨#[62]⟩ : ByteArray) (by decide) w b n h with ⟨_, h2⟩ | ⟨m, h4, h5⟩
  · exact absurd (e.symm.trans h2) (by simp)
  · rw [h5]
    have h6 : m = 70 := by
      have h7 := e.symm.trans h4
      have h8 : (70 : Int) = m := by simpa using h7
      omega
    rw [h6]
set_option maxHeartbeats 800000 in
set_option maxRecDepth 100000 in
theorem bin_70 (w0 a b : Int) (hw : 2 ≤ w0 ∧ w0 ≤ 8) (w : World) : Calls Try.prog 14 #[.int .i64 w0, .string (⟨#[62]⟩ : ByteArray), .int .i64 a, .int .i64 b] w fun e w' => e = .returned (.tuple #[.int .i64 (binOp 70 false false false w0 a b).1, .int .i64 (binOp 70 false false false w0 a b).2.1, .int .i64 (binOp 70 false false false w0 a b).2.2]) ∧ Below w.heap.size w w' := by
  have eI := isInt_eq w0 a hw
  have eJ := isInt_eq w0 b hw
  have eA := isBool_eq a
  have eB := isBool_eq b
  cases hI : inW w0 a
  · rw [hI] at eI
    have hR : binOp 70 false false false w0 a b = (0, 0, 2) := by
      unfold binOp
      simp [hI]
    go_enter Try.func14, Try.ntmps14
    go_wp2_with fail
    refine (value_isWidth.calls w0 true w (isWidth_eq w0 hw)).mono ?_
    rintro e w1 ⟨rfl, ⟨n1, rfl⟩⟩
    go_wp2_with fail
    refine (operators_calls _).mono ?_
    rintro e w2 ⟨rfl, hown, hb2⟩
    have HB2 : Aside0 (Below w.heap.size w w2) := ⟨(Drawn0.below ⟨⟨n1, rfl⟩⟩).trans (hb2.mono (by simp))⟩
    have hrun : (Instr.lookup 60 (.map (some w.heap.size)) (.string (⟨#[62]⟩ : ByteArray)) true).run Try.prog w2 = .ok (.tuple #[.func (.func 70) #[] #[], .bool true]) w2 := look_70 w2 w.heap.size _ (by simpa using hown)
    clear hown hb2
    go_wp2_with fail
    refine (value_isInt.calls w0 a false _ eI).mono ?_
    rintro e w3 ⟨rfl, ⟨nd_, rfl⟩⟩
    go_wp2
    go_ret3
    refine ⟨by rw [hR]; rfl, ?_⟩
    repeat (first | exact HB4.out | exact HB2.out | apply pw_below_drewN | apply below_drew1)
  · rw [hI] at eI
    cases hJ : inW w0 b
    · rw [hJ] at eJ
      have hR : binOp 70 false false false w0 a b = (0, 0, 2) := by
        unfold binOp
        simp [hI, hJ]
      go_enter Try.func14, Try.ntmps14
      go_wp2_with fail
      refine (value_isWidth.calls w0 true w (isWidth_eq w0 hw)).mono ?_
      rintro e w1 ⟨rfl, ⟨n1, rfl⟩⟩
      go_wp2_with fail
      refine (operators_calls _).mono ?_
      rintro e w2 ⟨rfl, hown, hb2⟩
      have HB2 : Aside0 (Below w.heap.size w w2) := ⟨(Drawn0.below ⟨⟨n1, rfl⟩⟩).trans (hb2.mono (by simp))⟩
      have hrun : (Instr.lookup 60 (.map (some w.heap.size)) (.string (⟨#[62]⟩ : ByteArray)) true).run Try.prog w2 = .ok (.tuple #[.func (.func 70) #[] #[], .bool true]) w2 := look_70 w2 w.heap.size _ (by simpa using hown)
      clear hown hb2
      go_wp2_with fail
      refine (value_isInt.calls w0 a true _ eI).mono ?_
      rintro e w3 ⟨rfl, ⟨nd_, rfl⟩⟩
      go_wp2_with fail
      refine (value_isInt.calls w0 b false _ eJ).mono ?_
      rintro e w3 ⟨rfl, ⟨nd_, rfl⟩⟩
      go_wp2
      go_ret3
      refine ⟨by rw [hR]; rfl, ?_⟩
      repeat (first | exact HB4.out | exact HB2.out | apply pw_below_drewN | apply below_drew1)
    · rw [hJ] at eJ
      by_cases hb : b = 0
      · subst hb
        have hR : binOp 70 false false false w0 a 0 = (opVal 70 a 0, 0, 0) := by
          unfold binOp
          simp [hI, hJ]
        go_enter Try.func14, Try.ntmps14
        go_wp2_with fail
        refine (value_isWidth.calls w0 true w (isWidth_eq w0 hw)).mono ?_
        rintro e w1 ⟨rfl, ⟨n1, rfl⟩⟩
        go_wp2_with fail
        refine (operators_calls _).mono ?_
        rintro e w2 ⟨rfl, hown, hb2⟩
        have HB2 : Aside0 (Below w.heap.size w w2) := ⟨(Drawn0.below ⟨⟨n1, rfl⟩⟩).trans (hb2.mono (by simp))⟩
        have hrun : (Instr.lookup 60 (.map (some w.heap.size)) (.string (⟨#[62]⟩ : ByteArray)) true).run Try.prog w2 = .ok (.tuple #[.func (.func 70) #[] #[], .bool true]) w2 := look_70 w2 w.heap.size _ (by simpa using hown)
        clear hown hb2
        go_wp2_with fail
        refine (value_isInt.calls w0 a true _ eI).mono ?_
        rintro e w3 ⟨rfl, ⟨nd_, rfl⟩⟩
        go_wp2_with fail
        refine (value_isInt.calls w0 0 true _ eJ).mono ?_
        rintro e w3 ⟨rfl, ⟨nd_, rfl⟩⟩
        go_wp2_with fail
        refine (op_70 a 0 _).mono ?_
        rintro e w4 ⟨rfl, hd4⟩
        have HB4 : Aside0 (Below w.heap.size w w4) := ⟨Below.trans (by repeat (first | exact HB2.out | apply pw_below_drewN | apply below_drew1)) (hd4.below.mono (by simp; exact HB2.out.size))⟩
        clear hd4
        go_wp2_with fail
        refine (Try.strings_Contains_one (⟨#[43, 45, 42, 47, 37]⟩ : ByteArray) 62 _).mono ?_
        rintro e w5 ⟨rfl, rfl⟩
        go_wp2
        go_ret3
        refine ⟨by rw [hR]; rfl, ?_⟩
        repeat (first | exact HB4.out | exact HB2.out | apply pw_below_drewN | apply below_drew1)
      · have hbb : (b == 0) = false := beq_eq_false_iff_ne.mpr hb
        have hR : binOp 70 false false false w0 a b = (opVal 70 a b, 0, 0) := by
          unfold binOp
          simp [hI, hJ]
        go_enter Try.func14, Try.ntmps14
        go_wp2_with fail
        refine (value_isWidth.calls w0 true w (isWidth_eq w0 hw)).mono ?_
        rintro e w1 ⟨rfl, ⟨n1, rfl⟩⟩
        go_wp2_with fail
        refine (operators_calls _).mono ?_
        rintro e w2 ⟨rfl, hown, hb2⟩
        have HB2 : Aside0 (Below w.heap.size w w2) := ⟨(Drawn0.below ⟨⟨n1, rfl⟩⟩).trans (hb2.mono (by simp))⟩
        have hrun : (Instr.lookup 60 (.map (some w.heap.size)) (.string (⟨#[62]⟩ : ByteArray)) true).run Try.prog w2 = .ok (.tuple #[.func (.func 70) #[] #[], .bool true]) w2 := look_70 w2 w.heap.size _ (by simpa using hown)
        clear hown hb2
        go_wp2_with fail
        refine (value_isInt.calls w0 a true _ eI).mono ?_
        rintro e w3 ⟨rfl, ⟨nd_, rfl⟩⟩
        go_wp2_with fail
        refine (value_isInt.calls w0 b true _ eJ).mono ?_
        rintro e w3 ⟨rfl, ⟨nd_, rfl⟩⟩
        go_wp2_with fail
        refine (op_70 a b _).mono ?_
        rintro e w4 ⟨rfl, hd4⟩
        have HB4 : Aside0 (Below w.heap.size w w4) := ⟨Below.trans (by repeat (first | exact HB2.out | apply pw_below_drewN | apply below_drew1)) (hd4.below.mono (by simp; exact HB2.out.size))⟩
        clear hd4
        go_wp2_with fail
        refine (Try.strings_Contains_one (⟨#[43, 45, 42, 47, 37]⟩ : ByteArray) 62 _).mono ?_
        rintro e w5 ⟨rfl, rfl⟩
        go_wp2
        go_ret3
        refine ⟨by rw [hR]; rfl, ?_⟩
        repeat (first | exact HB4.out | exact HB2.out | apply pw_below_drewN | apply below_drew1)
end Go.Proofs.Ytogknojocodhgaa.P
end
