-- Texts of this claim, put together and cut down to what is used (trim.py, a program of this session).
import Derived.Test.YtogknojocodhgaaZ2
section
namespace Go.Proofs.Ytogknojocodhgaa.P
open Go.RowKit Go.Proofs.YtogknojocodhgaaW.PrintWords Go.Proofs.YtogknojocodhgaaW.PrintLast Go.Proofs.YtogknojocodhgaaW.PrintMore
set_option linter.unusedVariables false
set_option linter.unusedSimpArgs false
def runP (p : Int → Bool) (s : ByteArray) : Nat → Int → Int
  | 0, i => i
  | n + 1, i => if p (bt s i) then runP p s n (i + 1) else i
def notLf (c : Int) : Bool := !(c == 10)
def isLetter (c : Int) : Bool := decide (97 ≤ c) && decide (c ≤ 122)
def isDigit (c : Int) : Bool := decide (48 ≤ c) && decide (c ≤ 57)
def isWord (c : Int) : Bool := isLetter c || (isDigit c || c == 95)
theorem c100 (c : Int) (w : World) : Calls Try.prog 100 #[.int .u8 c] w fun e w' => e = .returned (.bool (notLf c)) ∧ w = w' := by
  go_enter Try.func100, Try.ntmps100
  go_wp2
  go_ret
  exact ⟨rfl, rfl⟩
theorem c101 (c : Int) (w : World) : Calls Try.prog 101 #[.int .u8 c] w fun e w' => e = .returned (.bool (isLetter c)) ∧ w = w' := by
  by_cases h : 97 ≤ c
  all_goals
    go_enter Try.func101, Try.ntmps101
    go_wp2
    go_ret
    exact ⟨by simp [isLetter]; first | done | omega, rfl⟩
theorem c86 (c : Int) (w : World) : Calls Try.prog 86 #[.int .u8 c] w fun e w' => e = .returned (.bool (isDigit c)) ∧ w = w' := by
  by_cases h : 48 ≤ c
  all_goals
    go_enter Try.func86, Try.ntmps86
    go_wp2
    go_ret
    exact ⟨by simp [isDigit]; first | done | omega, rfl⟩
theorem c102 (c : Int) (w : World) : Calls Try.prog 102 #[.int .u8 c] w fun e w' => e = .returned (.bool (isWord c)) ∧ w = w' := by
  cases hl : isLetter c
  · cases hd : isDigit c
    all_goals
      have HL := Aside0.mk hl
      have HD := Aside0.mk hd
      clear hl hd
      go_enter Try.func102, Try.ntmps102
      go_wp2_with fail
      refine (c101 _ w).mono ?_
      rintro e w' ⟨rfl, rfl⟩
      rw [HL.out]
      go_wp2_with fail
      refine (c86 _ w).mono ?_
      rintro e w' ⟨rfl, rfl⟩
      rw [HD.out]
      go_wp2
      go_ret
      exact ⟨by rw [isWord, HL.out, HD.out]; rfl, rfl⟩
  · have HL := Aside0.mk hl
    clear hl
    go_enter Try.func102, Try.ntmps102
    go_wp2_with fail
    refine (c101 _ w).mono ?_
    rintro e w' ⟨rfl, rfl⟩
    rw [HL.out]
    go_wp2
    go_ret
    exact ⟨by rw [isWord, HL.out]; rfl, rfl⟩
theorem run_100 (s : ByteArray) (hs : s.size ≤ 140737488351232) (i : Int) (hi : 0 ≤ i) (w : World) :
    Calls Try.prog 85 #[.string s, .int .i64 i, .func (.func 100) #[] #[]] w fun e w' => e = .returned (.int .i64 (runP notLf s (s.size - i).toNat i)) ∧ w = w' := by
  generalize hR : runP notLf s (s.size - i).toNat i = R
  have HR := Aside0.mk hR
  clear hR
  go_enter Try.func85, Try.ntmps85
  go_wp2_with fail
  go_loop [1] (fun v => ∃ j : Int, 0 ≤ j ∧ Aside0 (runP notLf s (s.size - j).toNat j = R) ∧ v = .int .i64 j) (fun v => (s.size - intOf v).toNat)
  case atStart => exact ⟨i, hi, HR, rfl⟩
  case round =>
    obtain ⟨j, hj, HJ, rfl⟩ := hrel
    clear HR
    by_cases hlt : j < (s.size : Int)
    · have hb := bt_at s j (by omega)
      have HB := Aside0.mk hb
      clear hb
      cases hp : notLf (bt s j)
      · have HP := Aside0.mk hp
        clear hp
        have HF : Aside0 (j = R) := ⟨by rw [← HJ.out]; obtain ⟨m, hm⟩ : ∃ m, (s.size - j).toNat = m + 1 := ⟨(s.size - j).toNat - 1, by omega⟩; rw [hm]; simp only [runP]; rw [HP.out]; simp⟩
        go_wp2_with fail
        refine (c100 _ w).mono ?_
        rintro e w' ⟨rfl, rfl⟩
        rw [HB.out, HP.out]
        go_wp2
        go_ret
        exact ⟨by rw [HF.out]; rfl, rfl⟩
      · have HP := Aside0.mk hp
        clear hp
        have HF : Aside0 (runP notLf s (s.size - (j + 1)).toNat (j + 1) = R) := ⟨by rw [← HJ.out]; obtain ⟨m, hm⟩ : ∃ m, (s.size - j).toNat = m + 1 := ⟨(s.size - j).toNat - 1, by omega⟩; rw [hm]; simp only [runP]; rw [HP.out, show (s.size - (j + 1)).toNat = m from by omega]; simp⟩
        go_wp2_with fail
        refine (c100 _ w).mono ?_
        rintro e w' ⟨rfl, rfl⟩
        rw [HB.out, HP.out]
        go_wp2
        go_round
        case rel => exact ⟨j + 1, by omega, HF, rfl⟩
        case measure => simp [intOf]; omega
    · have HF : Aside0 (j = R) := ⟨by rw [← HJ.out, show (s.size - j).toNat = 0 from by omega]; rfl⟩
      go_wp2
      go_ret
      exact ⟨by rw [HF.out]; rfl, rfl⟩
theorem run_86 (s : ByteArray) (hs : s.size ≤ 140737488351232) (i : Int) (hi : 0 ≤ i) (w : World) :
    Calls Try.prog 85 #[.string s, .int .i64 i, .func (.func 86) #[] #[]] w fun e w' => e = .returned (.int .i64 (runP isDigit s (s.size - i).toNat i)) ∧ w = w' := by
  generalize hR : runP isDigit s (s.size - i).toNat i = R
  have HR := Aside0.mk hR
  clear hR
  go_enter Try.func85, Try.ntmps85
  go_wp2_with fail
  go_loop [1] (fun v => ∃ j : Int, 0 ≤ j ∧ Aside0 (runP isDigit s (s.size - j).toNat j = R) ∧ v = .int .i64 j) (fun v => (s.size - intOf v).toNat)
  case atStart => exact ⟨i, hi, HR, rfl⟩
  case round =>
    obtain ⟨j, hj, HJ, rfl⟩ := hrel
    clear HR
    by_cases hlt : j < (s.size : Int)
    · have hb := bt_at s j (by omega)
      have HB := Aside0.mk hb
      clear hb
      cases hp : isDigit (bt s j)
      · have HP := Aside0.mk hp
        clear hp
        have HF : Aside0 (j = R) := ⟨by rw [← HJ.out]; obtain ⟨m, hm⟩ : ∃ m, (s.size - j).toNat = m + 1 := ⟨(s.size - j).toNat - 1, by omega⟩; rw [hm]; simp only [runP]; rw [HP.out]; simp⟩
        go_wp2_with fail
        refine (c86 _ w).mono ?_
        rintro e w' ⟨rfl, rfl⟩
        rw [HB.out, HP.out]
        go_wp2
        go_ret
        exact ⟨by rw [HF.out]; rfl, rfl⟩
      · have HP := Aside0.mk hp
        clear hp
        have HF : Aside0 (runP isDigit s (s.size - (j + 1)).toNat (j + 1) = R) := ⟨by rw [← HJ.out]; obtain ⟨m, hm⟩ : ∃ m, (s.size - j).toNat = m + 1 := ⟨(s.size - j).toNat - 1, by omega⟩; rw [hm]; simp only [runP]; rw [HP.out, show (s.size - (j + 1)).toNat = m from by omega]; simp⟩
        go_wp2_with fail
        refine (c86 _ w).mono ?_
        rintro e w' ⟨rfl, rfl⟩
        rw [HB.out, HP.out]
        go_wp2
        go_round
        case rel => exact ⟨j + 1, by omega, HF, rfl⟩
        case measure => simp [intOf]; omega
    · have HF : Aside0 (j = R) := ⟨by rw [← HJ.out, show (s.size - j).toNat = 0 from by omega]; rfl⟩
      go_wp2
      go_ret
      exact ⟨by rw [HF.out]; rfl, rfl⟩
theorem run_102 (s : ByteArray) (hs : s.size ≤ 140737488351232) (i : Int) (hi : 0 ≤ i) (w : World) :
    Calls Try.prog 85 #[.string s, .int .i64 i, .func (.func 102) #[] #[]] w fun e w' => e = .returned (.int .i64 (runP isWord s (s.size - i).toNat i)) ∧ w = w' := by
  generalize hR : runP isWord s (s.size - i).toNat i = R
  have HR := Aside0.mk hR
  clear hR
  go_enter Try.func85, Try.ntmps85
  go_wp2_with fail
  go_loop [1] (fun v => ∃ j : Int, 0 ≤ j ∧ Aside0 (runP isWord s (s.size - j).toNat j = R) ∧ v = .int .i64 j) (fun v => (s.size - intOf v).toNat)
  case atStart => exact ⟨i, hi, HR, rfl⟩
  case round =>
    obtain ⟨j, hj, HJ, rfl⟩ := hrel
    clear HR
    by_cases hlt : j < (s.size : Int)
    · have hb := bt_at s j (by omega)
      have HB := Aside0.mk hb
      clear hb
      cases hp : isWord (bt s j)
      · have HP := Aside0.mk hp
        clear hp
        have HF : Aside0 (j = R) := ⟨by rw [← HJ.out]; obtain ⟨m, hm⟩ : ∃ m, (s.size - j).toNat = m + 1 := ⟨(s.size - j).toNat - 1, by omega⟩; rw [hm]; simp only [runP]; rw [HP.out]; simp⟩
        go_wp2_with fail
        refine (c102 _ w).mono ?_
        rintro e w' ⟨rfl, rfl⟩
        rw [HB.out, HP.out]
        go_wp2
        go_ret
        exact ⟨by rw [HF.out]; rfl, rfl⟩
      · have HP := Aside0.mk hp
        clear hp
        have HF : Aside0 (runP isWord s (s.size - (j + 1)).toNat (j + 1) = R) := ⟨by rw [← HJ.out]; obtain ⟨m, hm⟩ : ∃ m, (s.size - j).toNat = m + 1 := ⟨(s.size - j).toNat - 1, by omega⟩; rw [hm]; simp only [runP]; rw [HP.out, show (s.size - (j + 1)).toNat = m from by omega]; simp⟩
        go_wp2_with fail
        refine (c102 _ w).mono ?_
        rintro e w' ⟨rfl, rfl⟩
        rw [HB.out, HP.out]
        go_wp2
        go_round
        case rel => exact ⟨j + 1, by omega, HF, rfl⟩
        case measure => simp [intOf]; omega
    · have HF : Aside0 (j = R) := ⟨by rw [← HJ.out, show (s.size - j).toNat = 0 from by omega]; rfl⟩
      go_wp2
      go_ret
      exact ⟨by rw [HF.out]; rfl, rfl⟩
def lexer_run.f (a0 : ByteArray) (a1 : Int) (a2 : Nat) : Option Int :=
  if a0.size ≤ 140737488351232 ∧ 0 ≤ a1 then
    if a2 = 100 then some (runP notLf a0 (a0.size - a1).toNat a1)
    else if a2 = 86 then some (runP isDigit a0 (a0.size - a1).toNat a1)
    else if a2 = 102 then some (runP isWord a0 (a0.size - a1).toNat a1)
    else none
  else none
theorem lexer_run.calls (a0 : ByteArray) (a1 : Int) (a2 : Nat) (r : Int) (w : World) (h : lexer_run.f a0 a1 a2 = some r) :
    Calls Try.prog 85 #[.string a0, .int .i64 a1, .func (.func a2) #[] #[]] w fun e w' => e = .returned (.int .i64 r) ∧ Drawn0 w w' := by
  unfold lexer_run.f at h
  split at h
  · rename_i hc
    obtain ⟨h0, h1⟩ := hc
    by_cases e1 : a2 = 100
    · subst e1
      simp at h
      subst h
      refine (run_100 a0 h0 a1 h1 w).mono ?_
      rintro e w' ⟨rfl, rfl⟩
      exact ⟨rfl, Drawn0.refl _⟩
    · by_cases e2 : a2 = 86
      · subst e2
        simp at h
        subst h
        refine (run_86 a0 h0 a1 h1 w).mono ?_
        rintro e w' ⟨rfl, rfl⟩
        exact ⟨rfl, Drawn0.refl _⟩
      · by_cases e3 : a2 = 102
        · subst e3
          simp at h
          subst h
          refine (run_102 a0 h0 a1 h1 w).mono ?_
          rintro e w' ⟨rfl, rfl⟩
          exact ⟨rfl, Drawn0.refl _⟩
        · simp [e1, e2, e3] at h
  · simp at h
end Go.Proofs.Ytogknojocodhgaa.P
end
