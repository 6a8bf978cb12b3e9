-- Texts of this claim, put together and cut down to what is used (trim.py, a program of this session).
import Derived.Lib.SlBytesConst
import Derived.Lib.SmallJoins
import Derived.Test.YtogknojocodhgaaZ2
section
namespace Go.Proofs.Ytogknojocodhgaa.P
open Go.RowKit Go.WideMaps Go.Proofs.YtogknojocodhgaaW.PrintWords Go.Proofs.YtogknojocodhgaaW.PrintLast Go.Proofs.YtogknojocodhgaaW.PrintMore
set_option linter.unusedVariables false
set_option linter.unusedSimpArgs false
def twoP (s : ByteArray) (i : Int) : Bool := decide (i + 1 < s.size) && ((bt s (i + 1) == 61) && ((bt s i == 61) || ((bt s i == 33) || ((bt s i == 60) || (bt s i == 62)))))
def symL : List Int := [60, 62, 61, 43, 45, 42, 47, 37, 40, 41, 123, 125, 91, 93, 44, 59, 58, 46]
def symP (s : ByteArray) (i : Int) : Int := if twoP s i then 2 else if symL.contains (bt s i) then 1 else 0
def lexer_symbol.f (a0 : ByteArray) (a1 : Int) : Option Int := if a0.size ≤ 140737488351232 ∧ 0 ≤ a1 ∧ a1 < a0.size then some (symP a0 a1) else none
theorem symL_hit {k : Nat} (hk : k < 18) {b : Int} (h : symL.getD k 0 = b) : symL.contains b = true := by
  subst h
  have hl : symL.length = 18 := rfl
  rw [List.getD_eq_getElem?_getD, List.getElem?_eq_getElem (by omega)]
  simp
theorem symL_miss {b : Int} (h : ∀ j, j < 18 → symL.getD j 0 ≠ b) : symL.contains b = false := by
  rw [Bool.eq_false_iff]
  intro hc
  simp only [List.contains_eq_mem, decide_eq_true_eq] at hc
  obtain ⟨j, hj, e⟩ := List.getElem_of_mem hc
  have hl : symL.length = 18 := rfl
  refine h j (by omega) ?_
  rw [List.getD_eq_getElem?_getD, List.getElem?_eq_getElem hj]
  exact e
set_option maxHeartbeats 4000000 in
set_option maxRecDepth 100000 in
theorem lexer_symbol.calls (a0 : ByteArray) (a1 : Int) (r : Int) (w : World) (h : lexer_symbol.f a0 a1 = some r) :
    Calls Try.prog 104 #[.string a0, .int .i64 a1] w fun e w' => e = .returned (.int .i64 r) ∧ Below w.heap.size w w' := by
  unfold lexer_symbol.f at h
  split at h
  · rename_i hc
    obtain ⟨hsz, h0, h1⟩ := hc
    obtain rfl := Option.some.inj h
    clear h
    have hx := bt_at a0 a1
    have q1 : (a1 < (a0.size : Int)) = True := eq_true h1
    have q0 : (0 ≤ a1) = True := eq_true h0
    go_enter Try.func104, Try.ntmps104
    go_upto_region 1 with (fail)
    go_cut [42] (fun v42 wc => v42 = .bool (twoP a0 a1) ∧ Aside0 (w = wc))
    case first =>
      by_cases c1 : a1 + 1 < (a0.size : Int)
      · have c1b : decide (a1 + 1 < (a0.size : Int)) = true := decide_eq_true c1
        have hx2 := bt_at a0 (a1 + 1)
        cases c2 : (bt a0 (a1 + 1) == 61)
        · have HT : Aside0 (twoP a0 a1 = false) := ⟨by simp only [twoP, c1b, c2]; rfl⟩
          go_wp2
          go_meet
          case rel => exact ⟨by rw [HT.out], ⟨rfl⟩⟩
        · cases c3 : (bt a0 a1 == 61)
          · cases c4 : (bt a0 a1 == 33)
            · cases c5 : (bt a0 a1 == 60)
              · cases c6 : (bt a0 a1 == 62)
                all_goals
                  have HT : Aside0 (twoP a0 a1 = (bt a0 a1 == 62)) := ⟨by simp only [twoP, c1b, c2, c3, c4, c5]; simp⟩
                  have HC := Aside0.mk c6
                  go_wp2
                  go_meet
                  case rel => exact ⟨by rw [HT.out, HC.out], ⟨rfl⟩⟩
              · have HT : Aside0 (twoP a0 a1 = true) := ⟨by simp only [twoP, c1b, c2, c3, c4, c5]; rfl⟩
                go_wp2
                go_meet
                case rel => exact ⟨by rw [HT.out], ⟨rfl⟩⟩
            · have HT : Aside0 (twoP a0 a1 = true) := ⟨by simp only [twoP, c1b, c2, c3, c4]; rfl⟩
              go_wp2
              go_meet
              case rel => exact ⟨by rw [HT.out], ⟨rfl⟩⟩
          · have HT : Aside0 (twoP a0 a1 = true) := ⟨by simp only [twoP, c1b, c2, c3]; rfl⟩
            go_wp2
            go_meet
            case rel => exact ⟨by rw [HT.out], ⟨rfl⟩⟩
      · have c1b : decide (a1 + 1 < (a0.size : Int)) = false := decide_eq_false c1
        have HT : Aside0 (twoP a0 a1 = false) := ⟨by simp only [twoP, c1b]; rfl⟩
        go_wp2
        go_meet
        case rel => exact ⟨by rw [HT.out], ⟨rfl⟩⟩
    case rest =>
      obtain ⟨rfl, ⟨hw⟩⟩ := hcut
      subst hw
      cases ht : twoP a0 a1
      · have HT := Aside0.mk ht
        clear ht
        have kc := fun (C : Array Value) (n c : Nat) => Lib.run_convert_bytes_const (P := Try.prog) w 80 5 C n c Try.underlying80 Try.underlying5
        go_wp2
        have hcell : ∀ j, j < 18 → (w.alloc (.cells #[.int .u8 60, .int .u8 62, .int .u8 61, .int .u8 43, .int .u8 45, .int .u8 42, .int .u8 47, .int .u8 37, .int .u8 40, .int .u8 41, .int .u8 123, .int .u8 125, .int .u8 91, .int .u8 93, .int .u8 44, .int .u8 59, .int .u8 58, .int .u8 46] 5 (18, 19))).cell? ⟨w.heap.size, j, none⟩ = some (.int .u8 (symL.getD j 0)) := by
          intro j hj
          rw [World.cell?_alloc_mark]
          rcases (by omega : j = 0 ∨ j = 1 ∨ j = 2 ∨ j = 3 ∨ j = 4 ∨ j = 5 ∨ j = 6 ∨ j = 7 ∨ j = 8 ∨ j = 9 ∨ j = 10 ∨ j = 11 ∨ j = 12 ∨ j = 13 ∨ j = 14 ∨ j = 15 ∨ j = 16 ∨ j = 17) with rfl | rfl | rfl | rfl | rfl | rfl | rfl | rfl | rfl | rfl | rfl | rfl | rfl | rfl | rfl | rfl | rfl | rfl <;> rfl
        have HB : Aside0 (Below w.heap.size w (w.alloc (.cells #[.int .u8 60, .int .u8 62, .int .u8 61, .int .u8 43, .int .u8 45, .int .u8 42, .int .u8 47, .int .u8 37, .int .u8 40, .int .u8 41, .int .u8 123, .int .u8 125, .int .u8 91, .int .u8 93, .int .u8 44, .int .u8 59, .int .u8 58, .int .u8 46] 5 (18, 19)))) := ⟨(Below.refl _ _).alloc (Nat.le_refl _) _⟩
        have HCELL := Aside0.mk hcell
        clear hcell kc
        generalize w.alloc (.cells #[.int .u8 60, .int .u8 62, .int .u8 61, .int .u8 43, .int .u8 45, .int .u8 42, .int .u8 47, .int .u8 37, .int .u8 40, .int .u8 41, .int .u8 123, .int .u8 125, .int .u8 91, .int .u8 93, .int .u8 44, .int .u8 59, .int .u8 58, .int .u8 46] 5 (18, 19)) = W at HCELL HB ⊢
        go_loop [46] (fun v => ∃ k : Nat, k ≤ 18 ∧ Aside0 (∀ j, j < k → symL.getD j 0 ≠ bt a0 a1) ∧ v = .int .i64 k) (fun v => 18 - (intOf v).toNat)
        case atStart => exact ⟨0, by omega, ⟨fun j hj => by omega⟩, rfl⟩
        case round =>
          obtain ⟨k, hk, HN, rfl⟩ := hrel
          by_cases hlt : k < 18
          · have hc := HCELL.out k hlt
            have hR : ∀ e, symL.getD k 0 = e → (e = bt a0 a1 → Aside0 (1 = symP a0 a1)) ∧ (e ≠ bt a0 a1 → Aside0 (∀ j, j < k + 1 → symL.getD j 0 ≠ bt a0 a1)) := fun e he => ⟨fun h => ⟨by rw [symP, HT.out, symL_hit hlt (he.trans h)]; rfl⟩, fun h => ⟨fun j hj => by
              by_cases e2 : j = k
              · subst e2; rw [he]; exact h
              · exact HN.out j (by omega)⟩⟩
            obtain ⟨c, he⟩ : ∃ c, symL.getD k 0 = c := ⟨_, rfl⟩
            have ⟨R1, R2⟩ := hR c he
            rw [he] at hc
            clear he hR
            cases hbc : (bt a0 a1 == c)
            · have HN2 := R2 (fun e => by rw [e] at hbc; simp at hbc)
              clear R1 R2
              go_wp2
              go_round
              case rel => exact ⟨k + 1, by omega, HN2, by go_num⟩
              case measure => simp [intOf]; omega
            · have HR := R1 (by simpa using (beq_iff_eq.mp hbc).symm)
              clear R1 R2
              go_wp2
              go_ret
              exact ⟨by rw [← HR.out]; rfl, HB.out⟩
          · have HR : Aside0 (0 = symP a0 a1) := ⟨by rw [symP, HT.out, symL_miss (fun j hj => HN.out j (by omega))]; rfl⟩
            go_wp2
            go_ret
            exact ⟨by rw [← HR.out]; rfl, HB.out⟩
      · have HT := Aside0.mk ht
        clear ht
        go_wp2
        go_ret
        exact ⟨by rw [symP, HT.out]; rfl, Below.refl _ _⟩
  · cases h
end Go.Proofs.Ytogknojocodhgaa.P
end
