import Derived.Test.YtggcbcleocamlaaMaps
import Derived.Test.YtggcbcleocamlaaJoin
import Derived.Test.YtggcbcleocamlaaStr
import Derived.Test.YtggcbcleocamlaaPureTextPositions
import Derived.WideKeyPair
import Derived.DeepKeys4
import Derived.Maps.Own
namespace Go.Proofs.Ytggcbcleocamlaa.P
open Go.RowKit Go.WideMaps Go.Proofs.YtggcbcleocamlaaW.PrintWords Go.Proofs.YtggcbcleocamlaaW.PrintLast Go.Proofs.YtggcbcleocamlaaW.PrintMore
open Go.Proofs.Ytggcbcleocamlaa.Pure
set_option linter.unusedVariables false
set_option linter.unusedSimpArgs false
theorem arr50 : ArrKey Try.prog 50 3 2 := ⟨Try.underlying50, by kernel_rfl, by kernel_rfl, by kernel_rfl⟩
theorem wide50 : (match Try.prog.underlying 50 with | some (.array _ _) | some (.struct _) => true | _ => false) = true := by rw [Try.underlying50]
theorem law50 : Maps.Keyed Try.prog 50 := Maps.Keyed.of_law (deep_law_laid (by kernel_rfl) (m := 2) (by omega) (of_decide_eq_true (by kernel_rfl)) (by kernel_rfl) wide50)
theorem types_pos : ∃ m, Try.prog.types.size = m + 1 := ⟨Try.prog.types.size - 1, by kernel_rfl⟩
def pairLit (p : Int × Int) : Lit := .string (keyBytes [.int .i64 p.1, .int .i64 p.2])
def seenD (s : ByteArray) : Nat → DataW Unit
  | 0 => .map []
  | i + 1 => (seenD s i).put (pairLit (posP s i)) (.lit (.bool true))

theorem ownsMap_below {H : Type} {P : Program} {k : TypeId} {R : Value → Option (DataW H × List MemPlace)} {b n : Nat} {D : DataW H} {w w' : World} (h : w.ownsMap P k R b n D) (hb : Below w.heap.size w w') : w'.ownsMap P k R b n D := by
  have hl := h.lt
  unfold World.ownsMap at h ⊢
  rw [hb.block b hl]; exact h
theorem wf64 (a : Int) (h1 : -9223372036854775808 ≤ a) (h2 : a ≤ 9223372036854775807) : (Lit.int .i64 a).wf = true :=
  WalkArith.wf_i64 ⟨h1, h2⟩
theorem pairLit_inj {p q : Int × Int} (a1 : (Lit.int .i64 p.1).wf = true) (a2 : (Lit.int .i64 p.2).wf = true) (b1 : (Lit.int .i64 q.1).wf = true) (b2 : (Lit.int .i64 q.2).wf = true) (h : pairLit p = pairLit q) : p = q := by
  have h1 : keyOf Try.prog 50 (.agg #[.int .i64 p.1, .int .i64 p.2]) = some (pairLit p) := keyOf_pair arr50 Try.underlying3 types_pos a1 a2
  have h2 : keyOf Try.prog 50 (.agg #[.int .i64 q.1, .int .i64 q.2]) = some (pairLit q) := keyOf_pair arr50 Try.underlying3 types_pos b1 b2
  rw [← h] at h2
  have h3 := law50.inj h1 h2
  have h4 : p.1 = q.1 ∧ p.2 = q.2 := by simpa using h3
  exact Prod.ext h4.1 h4.2
theorem seen_at (s : ByteArray) (hs : s.size ≤ 1000) (i : Nat) (hi : i ≤ s.size) : ∀ j : Nat, j ≤ i → (seenD s j).atKey (pairLit (posP s i)) (.lit (.bool false)) = .lit (.bool false)
  | 0, _ => rfl
  | j + 1, h => by
    have ih := seen_at s hs i hi j (by omega)
    show ((seenD s j).put (pairLit (posP s j)) (.lit (.bool true))).atKey _ _ = _
    rw [Maps.atKey_put_other ?_]
    · exact ih
    · intro e
      have r1 := posP_range s i
      have r2 := posP_range s j
      have hp := pairLit_inj (wf64 _ (by omega) (by omega)) (wf64 _ (by omega) (by omega)) (wf64 _ (by omega) (by omega)) (wf64 _ (by omega) (by omega)) e
      have h1 := off_of s i hi (posP s i).1 (posP s i).2 rfl
      have h2 := off_of s j (by omega) (posP s i).1 (posP s i).2 (by rw [hp])
      rw [h1] at h2
      have h3 : ((i : Nat) : Int) = (j : Int) := by simpa using h2
      omega
theorem zeroB (w : World) : (zeroValue 4).run Try.prog w = .ok (.bool false) w := by kernel_rfl
def lineL (s : ByteArray) (j : Nat) : List ByteArray := (List.range j).map fun i : Nat => lineR s ((i : Int) + 1)
theorem lineL_len (s : ByteArray) (j : Nat) : (lineL s j).length = j := by simp [lineL]
theorem lineL_succ (s : ByteArray) (j : Nat) : lineL s (j + 1) = lineL s j ++ [lineR s ((j : Int) + 1)] := by simp [lineL, List.range_succ]
theorem info9 : (Try.prog.info? 9).map (fun i => (i.zero, i.size, i.bytes)) = some (some (.string ⟨#[]⟩), 1, 16) := by kernel_rfl
theorem noCR (s : ByteArray) (hcr : Lib.indexByte s.data.toList 13 < 0) (n : Nat) (h : n < s.size) : bt s n ≠ 13 := by
  intro e
  have h1 : Lib.indexByte s.data.toList 13 = -1 := by have := Lib.indexByte_ge s.data.toList 13; omega
  have h2 := Lib.indexByte_none h1 n
  rw [bt_nat s n h] at e
  have e2 : s[n] = 13 := UInt8.toNat_inj.mp (by show s[n].toNat = 13; omega)
  apply h2
  rw [List.getElem?_eq_getElem (by rw [len_data]; exact h)]
  exact congrArg some e2
def endAt (s : ByteArray) (j : Nat) : Nat := if j + 1 = (linesP s).length then s.size else (lnAt s (j + 1) - 1).toNat
theorem lineR_eq (s : ByteArray) (hcr : Lib.indexByte s.data.toList 13 < 0) (j : Nat) (h : j < (linesP s).length) : lineR s ((j : Int) + 1) = s.extract (lnAt s j).toNat (endAt s j) := by
  unfold lineR endAt
  rw [if_neg (by omega), show ((j : Int) + 1 - 1).toNat = j from by omega, show ((j : Int) + 1).toNat = j + 1 from by omega]
  by_cases c : j + 1 = (linesP s).length
  · rw [if_pos (by omega), if_pos c]
  · rw [if_neg (by omega), if_neg c, if_neg]
    rintro ⟨h1, h2⟩
    have r1 := ln_range s j h
    have r2 := ln_range s (j + 1) (by omega)
    refine noCR s hcr (lnAt s (j + 1) - 1 - 1).toNat (by omega) ?_
    rw [show (((lnAt s (j + 1) - 1 - 1).toNat : Nat) : Int) = lnAt s (j + 1) - 1 - 1 from by omega]
    exact h2
theorem join_append (l : List (List UInt8)) (y sep : List UInt8) (h : l ≠ []) : Lib.join (l ++ [y]) sep = Lib.join l sep ++ (sep ++ y) := by
  cases l with
  | nil => exact absurd rfl h
  | cons x r =>
    rw [List.cons_append, Lib.join_cons, Lib.join_cons]
    have h1 := Lib.joinTail_take_succ sep (r ++ [y]) r.length y (by simp)
    rw [List.take_of_length_le (by simp), List.take_append_of_le_length (Nat.le_refl _), List.take_length] at h1
    rw [h1, List.append_assoc, List.append_assoc]
theorem take_mid (l : List UInt8) (a e : Nat) (c : UInt8) (ha : 0 < a) (hl : a ≤ l.length) (hae : a ≤ e) (hc : l[a - 1]? = some c) : l.take (a - 1) ++ ([c] ++ (l.drop a).take (e - a)) = l.take e := by
  obtain ⟨b, rfl⟩ : ∃ b, a = b + 1 := ⟨a - 1, by omega⟩
  rw [Nat.add_sub_cancel] at hc ⊢
  rw [← List.append_assoc, show l.take b ++ [c] = l.take (b + 1) from by rw [List.take_add_one, hc]; rfl]
  obtain ⟨k, rfl⟩ : ∃ k, e = b + 1 + k := ⟨e - (b + 1), by omega⟩
  rw [Nat.add_sub_cancel_left]
  conv => rhs; rw [List.take_add]
theorem join_to (s : ByteArray) (hcr : Lib.indexByte s.data.toList 13 < 0) : ∀ j : Nat, j < (linesP s).length → Lib.join ((lineL s (j + 1)).map (·.data.toList)) [10] = s.data.toList.take (endAt s j)
  | 0, h => by
    rw [lineL_succ]
    show Lib.join [(lineR s ((0 : Nat) + 1)).data.toList] [10] = _
    rw [Lib.join_one, lineR_eq s hcr 0 h, ext_sub]
    unfold sub
    rw [show (lnAt s 0).toNat = 0 from rfl]
    simp
  | j + 1, h => by
    have ih := join_to s hcr j (by omega)
    rw [lineL_succ, List.map_append, List.map_singleton, join_append _ _ _ (by rw [lineL_succ]; simp), ih, lineR_eq s hcr (j + 1) h, ext_sub]
    have hlf := ln_lf s (j + 1) (by omega) h
    have r1 := ln_range s (j + 1) h
    have he : endAt s j = (lnAt s (j + 1)).toNat - 1 := by unfold endAt; rw [if_neg (by omega)]; omega
    have hee : (lnAt s (j + 1)).toNat ≤ endAt s (j + 1) := by
      unfold endAt
      split
      · omega
      · have := ln_lt s (j + 1) (j + 1 + 1) (by omega) (by omega); omega
    rw [he]
    unfold sub
    refine take_mid _ _ _ 10 (by omega) (by rw [len_data]; omega) hee ?_
    have hb := hlf.2
    rw [show lnAt s (j + 1) - 1 = (((lnAt s (j + 1)).toNat - 1 : Nat) : Int) from by omega, bt_nat s _ (by omega)] at hb
    rw [List.getElem?_eq_getElem (by rw [len_data]; omega)]
    have e2 : s[(lnAt s (j + 1)).toNat - 1]'(by omega) = 10 := UInt8.toNat_inj.mp (by show UInt8.toNat _ = 10; omega)
    exact congrArg some e2
theorem join_lines (s : ByteArray) (hs : s.size ≤ 200) (hcr : Lib.indexByte s.data.toList 13 < 0) : strings_Join.f (lineL s (linesP s).length) ⟨#[10]⟩ = some s := by
  have hl := linesP_len s
  have h := join_to s hcr ((linesP s).length - 1) (by omega)
  rw [show (linesP s).length - 1 + 1 = (linesP s).length from by omega, show endAt s ((linesP s).length - 1) = s.size from if_pos (by omega), List.take_of_length_le (by rw [len_data]; exact Nat.le_refl _)] at h
  have h' : Lib.join ((lineL s (linesP s).length).map (·.data.toList)) (⟨#[10]⟩ : ByteArray).data.toList = s.data.toList := h
  unfold strings_Join.f
  rw [h', if_pos ⟨by rw [lineL_len]; omega, by rw [len_data]; omega⟩]
  unfold joinB
  rw [h', Lib.mk_data]
theorem pos_at (s : ByteArray) (hs : s.size ≤ 200) (i : Nat) (hi : i ≤ s.size) : Ev (fun k => text_Position.f k s i) ((posP s i).1, (posP s i).2) := by
  have h := pos_ev s (by omega) (i : Int)
  rwa [show posR s (i : Int) = posP s i from by unfold posR; rw [if_neg (by omega), Int.toNat_natCast]] at h
theorem off_at (s : ByteArray) (hs : s.size ≤ 200) (i : Nat) (hi : i ≤ s.size) : Ev (fun k => text_Offset.f k s (posP s i).1 (posP s i).2) ((i : Int), true) := by
  have h := off_ev s hs (posP s i).1 (posP s i).2
  rwa [off_of s i hi _ _ rfl] at h
set_option maxHeartbeats 4000000 in
set_option maxRecDepth 100000 in
theorem bijection_walk (s : ByteArray) (hs : s.size ≤ 140737488351232) (w : World) :
    Calls Try.prog 8 #[.string s] w fun e w' => e = .returned (.bool true) ∧ Below w.heap.size w w' := by
  obtain ⟨k0, hk0⟩ : ∃ k, assessorlaw01_awake.f k = some true := by
    obtain ⟨k, h⟩ := awake_some.rounds
    exact ⟨k, by simpa using h⟩
  have HK0 := Aside0.mk hk0
  clear hk0
  have hmm := @run_makeMap Try.prog
  by_cases c1 : (s.size : Int) > 200
  · have c1b : decide ((200 : Int) < (s.size : Int)) = true := decide_eq_true c1
    go_enter Try.func8, Try.ntmps8
    go_wp2_with fail
    refine (assessorlaw01_awake.calls k0 true w HK0.out).mono ?_
    rintro e w1 ⟨rfl, hb⟩
    have HB := Aside0.mk hb
    clear hb
    go_wp2
    go_ret
    exact ⟨rfl, HB.out⟩
  · have c1b : decide ((200 : Int) < (s.size : Int)) = false := decide_eq_false c1
    have hcon : strings_Contains.f s ⟨#[13]⟩ = some (decide (0 ≤ Lib.indexByte s.data.toList 13)) := rfl
    by_cases c2 : 0 ≤ Lib.indexByte s.data.toList 13
    · rw [decide_eq_true c2] at hcon
      have HCON := Aside0.mk hcon
      clear hcon
      go_enter Try.func8, Try.ntmps8
      go_wp2_with fail
      refine (strings_Contains.calls s _ true w HCON.out).mono ?_
      rintro e w1 ⟨rfl, nd, rfl⟩
      go_wp2_with fail
      refine (assessorlaw01_awake.calls k0 true _ HK0.out).mono ?_
      rintro e w1 ⟨rfl, hb⟩
      have HB := Aside0.mk hb
      clear hb
      go_wp2
      go_ret
      exact ⟨rfl, (Drawn0.below ⟨⟨nd, rfl⟩⟩).trans HB.out⟩
    · rw [decide_eq_false c2] at hcon
      have HCON := Aside0.mk hcon
      clear hcon
      go_enter Try.func8, Try.ntmps8
      go_wp2_with fail
      refine (strings_Contains.calls s _ false w HCON.out).mono ?_
      rintro e w1 ⟨rfl, nd, rfl⟩
      have hown : (((w.drewN nd).alloc (.map #[] 0)).ownsMap (H := Unit) Try.prog 50 (plainElem Try.prog 4) w.heap.size 0 (seenD s 0)) := World.ownsMap_made (w.drewN nd) _ _ _
      have hb : Below w.heap.size w ((w.drewN nd).alloc (.map #[] 0)) := (Drawn0.below ⟨⟨nd, rfl⟩⟩).alloc (Nat.le_refl _) _
      have HO := Aside0.mk hown
      have HB := Aside0.mk hb
      clear hown hb
      go_wp2_with fail
      go_loopw [23] (fun v wr => ∃ i : Nat, v = .int .i64 (i : Int) ∧ i ≤ s.size + 1 ∧ Aside0 (wr.ownsMap (H := Unit) Try.prog 50 (plainElem Try.prog 4) w.heap.size i (seenD s i)) ∧ Aside0 (Below w.heap.size w wr)) (fun v _ => s.size + 1 - (intOf v).toNat)
      case atStart => exact ⟨0, rfl, by omega, HO, HB⟩
      case round =>
        clear HO HB
        obtain ⟨i, rfl, hi, HO, HB⟩ := hrel
        by_cases hlt : i < s.size + 1
        · have hlb : decide ((i : Int) < (s.size : Int) + 1) = true := decide_eq_true (by omega)
          obtain ⟨k1, hk1⟩ := (pos_at s (by omega) i (by omega)).rounds
          obtain ⟨k2, hk2⟩ := (off_at s (by omega) i (by omega)).rounds
          have HK1 := Aside0.mk hk1
          have HK2 := Aside0.mk hk2
          clear hk1 hk2
          go_wp2_with fail
          refine (text_Position.calls k1 s i _ _ wr HK1.out).mono ?_
          rintro e w2 ⟨rfl, nd2, rfl⟩
          go_wp2_with fail
          refine (text_Offset.calls k2 s _ _ _ _ _ HK2.out).mono ?_
          rintro e w3 ⟨rfl, hb3⟩
          have hO3 : w3.ownsMap (H := Unit) Try.prog 50 (plainElem Try.prog 4) w.heap.size i (seenD s i) := ownsMap_below (w := wr.drewN nd2) (ownsMap_below HO.out (Drawn0.below ⟨⟨nd2, rfl⟩⟩)) hb3
          have hB3 : Below w.heap.size w w3 := (HB.out.trans ((Drawn0.below ⟨⟨nd2, rfl⟩⟩).mono HB.out.size)).trans (hb3.mono (by simpa using HB.out.size))
          have hr := posP_range s i
          have wa := wf64 (posP s i).1 (by omega) (by omega)
          have wb := wf64 (posP s i).2 (by omega) (by omega)
          have hkey := keyOf_pair arr50 Try.underlying3 types_pos wa wb
          obtain ⟨v, ps, hrun, hv⟩ := hO3.lookup law50 Try.underlying49 (zeroB w3) (plainElem_bool Try.underlying4 false) hkey
          rw [show (Lit.string (keyBytes [.int .i64 (posP s i).1, .int .i64 (posP s i).2])) = pairLit (posP s i) from rfl, seen_at s (by omega) i (by omega) i (Nat.le_refl _)] at hv
          obtain ⟨x, rfl, hx⟩ := M.plainElem_bool_inv Try.underlying4 hv
          obtain rfl : x = false := by simp at hx; exact hx.1
          obtain ⟨w4, hrun2, hO4, hg4⟩ := hO3.update law50 Try.underlying49 (by unfold maxLen; omega) hkey (plainElem_bool Try.underlying4 true)
          have hB4 : Below w.heap.size w w4 := hB3.grown hg4 hB3.size (fun k e => by cases e; exact Nat.le_refl _)
          have HO4 := Aside0.mk hO4
          have HB4 := Aside0.mk hB4
          clear hO3 hB3 hO4 hg4 hB4 hkey hv hx hb3 hr wa wb
          go_wp2
          exact ⟨⟨i + 1, by go_num, by omega, HO4, HB4⟩, by simp [intOf]; omega⟩
        · have hlb : decide ((i : Int) < (s.size : Int) + 1) = false := decide_eq_false (by omega)
          have hll := linesP_len s
          obtain ⟨kL, hkL⟩ := (lines_ev s (by omega)).rounds
          have HKL := Aside0.mk hkL
          clear hkL HO
          go_wp2_with fail
          refine (text_Lines.calls kL s _ wr HKL.out).mono ?_
          rintro e wl ⟨v0, rfl, hR, hbl⟩
          obtain ⟨A, c, rfl, hc, hC⟩ := Kd.R_reads hR
          have HBl : Aside0 (Below w.heap.size w wl) := ⟨HB.out.trans (hbl.mono HB.out.size)⟩
          clear hR hC hbl HB
          have HE : Aside0 (Kd.R Kd.string 9 wl w.heap.size (fun _ => True) (.slice none 0 0) (lineL s 0)) := ⟨by unfold lineL; exact Kd.R_nil _ _ _ _ _⟩
          go_wp2_with fail
          go_loopw [9, 61] (fun v9 v61 wr => ∃ j : Nat, v61 = .int .i64 (j : Int) ∧ j ≤ (linesP s).length ∧ Aside0 (Kd.R Kd.string 9 wr w.heap.size (fun _ => True) v9 (lineL s j)) ∧ Aside0 (Below w.heap.size w wr)) (fun _ v _ => (linesP s).length - (intOf v).toNat)
          case atStart => exact ⟨0, rfl, by omega, HE, HBl⟩
          case round =>
            clear HE HBl
            obtain ⟨j, rfl, hj, HR, HB⟩ := hrel
            by_cases hlt2 : j < (linesP s).length
            · have hlb2 : decide ((j : Int) < ((linesP s).length : Int)) = true := decide_eq_true (by omega)
              obtain ⟨k3, hk3⟩ := (line_ev s (by omega) ((j : Int) + 1)).rounds
              have HK3 := Aside0.mk hk3
              clear hk3
              go_wp2_with fail
              refine (text_Line.calls k3 s _ _ _ HK3.out).mono ?_
              rintro e w5 ⟨rfl, hb5⟩
              have HR5 : Aside0 (Kd.R Kd.string 9 w5 w.heap.size (fun _ => True) _ (lineL s j)) := ⟨Kd.R_below HR.out hb5⟩
              have HB5 : Aside0 (Below w.heap.size w w5) := ⟨HB.out.trans (hb5.mono HB.out.size)⟩
              clear HR HB hb5
              go_wp2_with ((with_reducible refine gate_builtin (b := .append) (xs := #[.tmp 64, .tmp 69]) rfl ?_); at_builtin; refine Kd.R_append Kd.string (w0 := w) w.heap.size rfl (.tmp 64) (.tmp 69) 51 9 (.string ⟨#[]⟩) 16 rfl Try.underlying51 info9 rfl (by decide) (by omega) _ (lineL s j) (lineR s ((j : Int) + 1)) [.string (lineR s ((j : Int) + 1))] (fun _ => True) (fun _ => False) rfl rfl ?aP (fun _ hk => hk.elim) ?aF ?aO ?aB ?aS ?aL ?_; (case aP => exact rfl); (case aB => exact HB5.out); (case aF => exact (fun _ _ => trivial)); (case aO => exact HR5.out); (case aS => exact HB5.out.size); (case aL => have := lineL_len s j; have := linesP_len s; omega); intro v6 w6 ho6 hb6 hg6 hat6; clear hg6 hat6; have HR6 := Aside0.mk ho6; have HB6 := Aside0.mk hb6; clear ho6 hb6 HR5 HB5)
              exact ⟨⟨j + 1, by go_num, by omega, ⟨by rw [lineL_succ]; exact HR6.out⟩, HB6⟩, by simp [intOf]; omega⟩
            · have hlb2 : decide ((j : Int) < ((linesP s).length : Int)) = false := decide_eq_false (by omega)
              obtain rfl : j = (linesP s).length := by omega
              obtain ⟨A, c, rfl, hc, hC⟩ := Kd.R_reads HR.out
              have HC := Aside0.mk hC
              clear hC HR
              have hjoin : strings_Join.f (lineL s (linesP s).length) ⟨#[10]⟩ = some s := join_lines s (by omega) (by omega)
              have HJ := Aside0.mk hjoin
              clear hjoin
              go_wp2_with fail
              refine (strings_Join.calls A c _ _ _ wr HC.out hc HJ.out).mono ?_
              rintro e w7 ⟨rfl, hb7⟩
              have HB7 : Aside0 (Below w.heap.size w w7) := ⟨HB.out.trans (hb7.mono HB.out.size)⟩
              clear hb7 HB HC
              go_wp2_with fail
              refine (assessorlaw01_awake.calls k0 true _ HK0.out).mono ?_
              rintro e w8 ⟨rfl, hb8⟩
              have HB8 : Aside0 (Below w.heap.size w w8) := ⟨HB7.out.trans (hb8.mono HB7.out.size)⟩
              clear hb8 HB7
              go_wp2
              go_ret
              exact ⟨rfl, HB8.out⟩

end Go.Proofs.Ytggcbcleocamlaa.P
