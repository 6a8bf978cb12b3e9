-- Texts of this claim, put together and cut down to what is used (trim.py, a program of this session).
import Derived.Lib.Strings
import Derived.Test.YtogknojocodhgaaZ26
section
namespace Go.Proofs.Ytogknojocodhgaa.P
open Go.RowKit Go.WideMaps Go.Proofs.YtogknojocodhgaaW.PrintWords Go.Proofs.YtogknojocodhgaaW.PrintLast Go.Proofs.YtogknojocodhgaaW.PrintMore
set_option linter.unusedVariables false
set_option linter.unusedSimpArgs false
def numP (s : ByteArray) : Nat → Int → Int → Int
  | 0, _, a => a
  | n + 1, i, a => numP s n (i + 1) (wrap64 ((wrap64 (10 * a)) + (((bt s i) - 48) % 256)))
def lexer_Number.f (a0 : ByteArray) : Option (Int × Bool) :=
  if a0.size ≤ 140737488351232 then
    if a0.size = 0 ∨ 9 < a0.size then some (0, false)
    else if runP isDigit a0 a0.size 0 < (a0.size : Int) then some (0, false)
    else some (numP a0 a0.size 0 0, true)
  else none
theorem toList_nil (s : ByteArray) : s.toList = [] ↔ s.size = 0 := by
  rw [Lib.toList_data]
  cases s with | mk d => simp [ByteArray.size]
theorem runP_range (p : Int → Bool) (s : ByteArray) : ∀ (n : Nat) (i : Int), i ≤ runP p s n i ∧ runP p s n i ≤ i + n
  | 0, i => by simp [runP]
  | n + 1, i => by
    have h := runP_range p s n (i + 1)
    simp only [runP]
    split <;> omega
set_option maxHeartbeats 4000000 in
set_option maxRecDepth 100000 in
theorem lexer_Number.calls (a0 : ByteArray) (r1 : Int) (r2 : Bool) (w : World) (h : lexer_Number.f a0 = some (r1, r2)) :
    Calls Try.prog 54 #[.string a0] w fun e w' => e = .returned (.tuple #[.int .i64 r1, .bool r2]) ∧ Below w.heap.size w w' := by
  unfold lexer_Number.f at h
  split at h
  · rename_i hsz
    by_cases h0 : a0.size = 0
    · rw [if_pos (.inl h0)] at h
      obtain ⟨rfl, rfl⟩ : 0 = r1 ∧ false = r2 := by simpa using h
      clear h
      have c1 : (a0.toList == ([] : List UInt8)) = true := beq_iff_eq.mpr ((toList_nil a0).mpr h0)
      clear h0
      go_enter Try.func54, Try.ntmps54
      go_wp2
      go_ret2
      exact ⟨rfl, Below.refl _ _⟩
    · have c1 : (a0.toList == ([] : List UInt8)) = false := beq_eq_false_iff_ne.mpr (fun e => h0 ((toList_nil a0).mp e))
      by_cases h1 : 9 < a0.size
      · rw [if_pos (.inr h1)] at h
        obtain ⟨rfl, rfl⟩ : 0 = r1 ∧ false = r2 := by simpa using h
        clear h h0
        have c2 : decide (9 < (a0.size : Int)) = true := decide_eq_true (by omega)
        have c2b : decide (9 < a0.size) = true := decide_eq_true h1
        clear h1
        go_enter Try.func54, Try.ntmps54
        go_wp2
        go_ret2
        exact ⟨rfl, Below.refl _ _⟩
      · rw [if_neg (by omega)] at h
        have c2 : decide (9 < (a0.size : Int)) = false := decide_eq_false (by omega)
        have c2b : decide (9 < a0.size) = false := decide_eq_false h1
        have hr := runP_range isDigit a0 a0.size 0
        generalize ht : runP isDigit a0 a0.size 0 = t at h hr
        have HT := Aside0.mk ht
        clear ht
        have hcall := fun w => run_86 a0 hsz 0 (by omega) w
        have HCALL := Aside0.mk hcall
        clear hcall
        by_cases h2 : t < (a0.size : Int)
        · rw [if_pos h2] at h
          obtain ⟨rfl, rfl⟩ : 0 = r1 ∧ false = r2 := by simpa using h
          clear h h0
          have c3 : decide (t < (a0.size : Int)) = true := decide_eq_true h2
          clear h2 h1
          go_enter Try.func54, Try.ntmps54
          go_wp2_with fail
          refine (HCALL.out w).mono ?_
          rintro e w' ⟨rfl, rfl⟩
          rw [show ((a0.size : Int) - 0).toNat = a0.size from by omega, HT.out]
          go_wp2
          go_ret2
          exact ⟨rfl, Below.refl _ _⟩
        · rw [if_neg h2] at h
          obtain ⟨hr1, rfl⟩ : numP a0 a0.size 0 0 = r1 ∧ true = r2 := by simpa using h
          have HR := Aside0.mk hr1
          clear h h0 hr1
          have c3 : decide (t < (a0.size : Int)) = false := decide_eq_false h2
          clear h2
          have HSZ := Aside0.mk h1
          have hconv := fun w => Lib.run_convert_string_bytes (P := Try.prog) w 9 80 5 a0 Try.underlying9 Try.underlying80 Try.underlying5
          go_enter Try.func54, Try.ntmps54
          go_wp2_with fail
          refine (HCALL.out w).mono ?_
          rintro e w' ⟨rfl, rfl⟩
          rw [show ((a0.size : Int) - 0).toNat = a0.size from by omega, HT.out]
          go_wp2
          have hb0 : Below w.heap.size w (Lib.bytesWorld w 5 a0) := ⟨rfl, rfl, rfl, by rw [Lib.bytesWorld_size]; omega, fun j hj => Lib.bytesWorld_at_old w 5 a0 j hj⟩
          have hcell : ∀ j, j < a0.size → (Lib.bytesWorld w 5 a0).cell? ⟨w.heap.size, j, none⟩ = some (.int .u8 (bt a0 j)) := fun j hj => by
            rw [Lib.bytesWorld_cell w 5 a0 j hj]; simp [bt, hj, List.getD]; rfl
          generalize Lib.bytesWorld w 5 a0 = W at hb0 hcell ⊢
          have HB := Aside0.mk hb0
          have HC := Aside0.mk hcell
          clear hb0 hcell hconv HCALL HT hr
          go_loop [4, 24] (fun a i => ∃ (k : Nat) (acc : Int), k ≤ a0.size ∧ Aside0 (numP a0 (a0.size - k) k acc = r1) ∧ i = .int .i64 k ∧ a = .int .i64 acc) (fun _ i => a0.size - (intOf i).toNat)
          case atStart => exact ⟨0, 0, by omega, HR, rfl, rfl⟩
          case round =>
            clear HR
            obtain ⟨k, acc, hk, HR, rfl, rfl⟩ := hrel
            by_cases hlt : k < a0.size
            · have hc := HC.out k hlt
              have HN : Aside0 (numP a0 (a0.size - (k + 1)) ((k + 1 : Nat) : Int) (wrap64 ((wrap64 (10 * acc)) + (((bt a0 k) - 48) % 256))) = r1) := ⟨by rw [← HR.out, show a0.size - k = (a0.size - (k + 1)) + 1 from by omega]; simp only [numP]; rfl⟩
              have ⟨hb1, hb2⟩ := bt_range a0 k
              go_wp2
              go_round
              case rel => exact ⟨k + 1, _, by omega, HN, by go_num, rfl⟩
              case measure => simp [intOf]; omega
            · have HN : Aside0 (acc = r1) := ⟨by rw [← HR.out, show a0.size - k = 0 from by omega]; rfl⟩
              go_wp2
              go_ret2
              exact ⟨by rw [← HN.out]; rfl, HB.out⟩
  · cases h
end Go.Proofs.Ytogknojocodhgaa.P
end
