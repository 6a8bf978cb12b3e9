-- Texts of this claim, put together and cut down to what is used (trim.py, a program of this session).
import Derived.Deep.RegionHeld3
import Derived.Laws.EntriesVeiled
import Derived.Test.YtogknojocodhgaaZ16
section
namespace Go.Proofs.Ytogknojocodhgaa.P
open Go.RowKit Go.WideMaps Go.Proofs.YtogknojocodhgaaW.PrintWords Go.Proofs.YtogknojocodhgaaW.PrintLast Go.Proofs.YtogknojocodhgaaW.PrintMore
set_option linter.unusedVariables false
set_option linter.unusedSimpArgs false
def scal (f : S54) : S39 := ⟨if f.f1.f0 = 2 then 2 else 1, 0, ⟨#[]⟩⟩
theorem take_scal (l : List S54) (j : Nat) (h : j < l.length) : (l.take (j + 1)).map scal = (l.take j).map scal ++ [scal (rd_T54 l (j : Int))] := by
  rw [List.take_add_one, List.getElem?_eq_getElem h, List.map_append]
  congr 1
  simp only [Option.toList, List.map_cons, List.map_nil]
  congr 2
  unfold rd_T54
  rw [Int.toNat_natCast, List.getD_eq_getElem?_getD, List.getElem?_eq_getElem h]
  rfl
set_option maxHeartbeats 2000000 in
set_option maxRecDepth 100000 in
theorem scalar_calls (k n : Int) (rec : ByteArray) (w : World) : Calls Try.prog 98 #[.agg #[.int .i64 k, .int .i64 n, .string rec]] w fun e w' => e = .returned (.agg #[.int .i64 (if k = 2 then 2 else 1), .int .i64 0, .string ⟨#[]⟩]) ∧ Below w.heap.size w w' := by
  have HB : Aside0 (Below w.heap.size w (w.alloc (.cells #[.int .i64 k, .int .i64 n, .string rec] 39))) := ⟨(Below.refl _ _).alloc (Nat.le_refl _) _⟩
  by_cases c : k = 2
  · subst c
    rw [if_pos rfl]
    have hF : ((w.alloc (.cells #[.int .i64 2, .int .i64 n, .string rec] 39)).alloc (.cells #[.int .i64 2, .int .i64 0, .string ⟨#[]⟩] 39)).heap[w.heap.size + 1]? = some (.cells #[.int .i64 2, .int .i64 0, .string ⟨#[]⟩] 39 (0, 0)) := by
      have h := (MapKept.heap_alloc (w.alloc (.cells #[.int .i64 2, .int .i64 n, .string rec] 39)) (.cells #[.int .i64 2, .int .i64 0, .string ⟨#[]⟩] 39)).1
      simpa using h
    have HF := Aside0.mk hF
    have HB2 : Aside0 (Below w.heap.size w ((w.alloc (.cells #[.int .i64 2, .int .i64 n, .string rec] 39)).alloc (.cells #[.int .i64 2, .int .i64 0, .string ⟨#[]⟩] 39))) := ⟨HB.out.alloc (by simp) _⟩
    clear hF
    go_enter Try.func98, Try.ntmps98
    go_wp2
    (try simp only [Exit.inBlock, Exit.then])
    refine bodyPost_ret (results_single rfl (.cell (w.heap.size + 1) 39 #[.int .i64 2, .int .i64 0, .string ⟨#[]⟩] (0, 0) _ rfl HF.out Try.underlying39 rfl (by show _ = some 3; kernel_rfl) .nil)) rfl ?_
    exact ⟨rfl, HB2.out⟩
  · have c1 : (k == 2) = false := beq_eq_false_iff_ne.mpr c
    rw [if_neg c]
    have hF : ((w.alloc (.cells #[.int .i64 k, .int .i64 n, .string rec] 39)).alloc (.cells #[.int .i64 1, .int .i64 0, .string ⟨#[]⟩] 39)).heap[w.heap.size + 1]? = some (.cells #[.int .i64 1, .int .i64 0, .string ⟨#[]⟩] 39 (0, 0)) := by
      have h := (MapKept.heap_alloc (w.alloc (.cells #[.int .i64 k, .int .i64 n, .string rec] 39)) (.cells #[.int .i64 1, .int .i64 0, .string ⟨#[]⟩] 39)).1
      simpa using h
    have HF := Aside0.mk hF
    have HB2 : Aside0 (Below w.heap.size w ((w.alloc (.cells #[.int .i64 k, .int .i64 n, .string rec] 39)).alloc (.cells #[.int .i64 1, .int .i64 0, .string ⟨#[]⟩] 39))) := ⟨HB.out.alloc (by simp) _⟩
    clear hF
    go_enter Try.func98, Try.ntmps98
    go_wp2
    (try simp only [Exit.inBlock, Exit.then])
    refine bodyPost_ret (results_single rfl (.cell (w.heap.size + 1) 39 #[.int .i64 1, .int .i64 0, .string ⟨#[]⟩] (0, 0) _ rfl HF.out Try.underlying39 rfl (by show _ = some 3; kernel_rfl) .nil)) rfl ?_
    exact ⟨rfl, HB2.out⟩
set_option maxHeartbeats 4000000 in
set_option maxRecDepth 100000 in
theorem shape6_calls (k n : Int) (rec : ByteArray) (A : Option Addr) (c : Nat) (l : List S57) (w : World) (hr : k57.C w A l.length l) (hl : (rd_T57 l (recIx l rec : Int)).f1.length ≤ 1000000) :
    Calls Try.prog 97 #[.agg #[.int .i64 k, .int .i64 n, .string rec], .slice A l.length c] w fun e w' => ∃ v0_ : Value, e = .returned v0_ ∧ Kd.R k39 39 w' w.heap.size (fun _ => True) v0_ ((rd_T57 l (recIx l rec : Int)).f1.map scal) ∧ Below w.heap.size w w' := by
  have HR := Aside0.mk hr
  have HB0 : Aside0 (Below w.heap.size w (w.alloc (.cells #[.int .i64 k, .int .i64 n, .string rec] 39))) := ⟨(Below.refl _ _).alloc (Nat.le_refl _) _⟩
  have hE : ∀ W, Kd.R k39 39 W w.heap.size (fun _ => True) (.slice none 0 0) [] := fun W => Kd.R_nil _ _ _ _ _
  have HE := Aside0.mk hE
  clear hr hE
  go_enter Try.func97, Try.ntmps97
  go_wp2_with fail
  refine (record_calls A c l rec _ (Kd.C_alloc HR.out _)).mono ?_
  rintro e w1 ⟨⟨A1, c1, rfl, hc1, hC1⟩, hb⟩
  have HB1 : Aside0 (Below w.heap.size w w1) := ⟨HB0.out.trans (hb.mono (by simp))⟩
  have HC1 := Aside0.mk hC1
  clear hb hC1
  have HL := Aside0.mk hl
  clear hl
  obtain ⟨R, hRR⟩ : ∃ R, rd_T57 l (recIx l rec : Int) = R := ⟨_, rfl⟩
  rw [hRR] at HC1 hc1 HL ⊢
  have HRR := Aside0.mk hRR
  clear hRR
  have HBa : Aside0 (Below w1.heap.size w1 (w1.alloc (.cells #[.string R.f0, .slice A1 R.f1.length c1] 57))) := ⟨(Below.refl _ _).alloc (Nat.le_refl _) _⟩
  have HE1 : Aside0 (∀ W, Kd.R k39 39 W w1.heap.size (fun _ => True) (.slice none 0 0) ((R.f1.take 0).map scal)) := ⟨fun W => by rw [List.take_zero]; exact Kd.R_nil _ _ _ _ _⟩
  go_wp2_with fail
  go_loopw [5, 20] (fun v5 v20 wr => ∃ j : Nat, v20 = .int .i64 (j : Int) ∧ j ≤ R.f1.length ∧ Aside0 (Kd.R k39 39 wr w1.heap.size (fun _ => True) v5 ((R.f1.take j).map scal)) ∧ Aside0 (Below w1.heap.size w1 wr)) (fun _ v _ => R.f1.length - (intOf v).toNat)
  case atStart => exact ⟨0, rfl, by omega, ⟨HE1.out _⟩, HBa⟩
  case round =>
    obtain ⟨j, rfl, hj, HO, HB⟩ := hrel
    by_cases hlt : j < R.f1.length
    · have c0 : decide ((j : Int) < (R.f1.length : Int)) = true := decide_eq_true (by omega)
      obtain ⟨ad, e1, hx0, hx1, hx2, hx3⟩ := at_T54 (Kd.C_below HC1.out HB.out) (j : Int) (by omega) (by omega)
      subst e1
      rw [Int.toNat_natCast] at hx0 hx1 hx2 hx3
      have hL := HL.out
      obtain ⟨kk, hkk⟩ : ∃ kk : Int, (if (rd_T54 R.f1 (j : Int)).f1.f0 = 2 then (2 : Int) else 1) = kk := ⟨_, rfl⟩
      have hsc : scal (rd_T54 R.f1 (j : Int)) = ⟨kk, 0, ⟨#[]⟩⟩ := by unfold scal; rw [hkk]
      have HSC := Aside0.mk hsc
      have HKK := Aside0.mk hkk
      clear hsc hkk
      go_wp2_with fail
      refine (scalar_calls _ _ _ _).mono ?_
      rw [HKK.out]
      rintro e w5 ⟨rfl, hb5⟩
      have HB5 : Aside0 (Below w1.heap.size w1 w5) := ⟨(HB.out.alloc HB.out.size _).trans (hb5.mono (by have := HB.out.size; simp; omega))⟩
      have HO5 : Aside0 (Kd.R k39 39 w5 w1.heap.size (fun _ => True) _ ((R.f1.take j).map scal)) := ⟨Kd.R_below (Kd.R_alloc HO.out _) hb5⟩
      clear hb5 HO HB
      go_wp2_with ((with_reducible refine gate_builtin (b := .append) (xs := #[.tmp 24, .tmp 28]) rfl ?_); at_builtin; refine Kd.R_append k39 (w0 := w1) w1.heap.size rfl (.tmp 24) (.tmp 28) 67 39 (.agg #[(.int .i64 0), (.int .i64 0), (.string ⟨#[]⟩)]) 32 rfl Try.underlying67 info39 rfl (by decide) (by omega) _ ((R.f1.take j).map scal) (⟨kk, 0, ⟨#[]⟩⟩ : S39) [.int .i64 kk, .int .i64 0, .string ⟨#[]⟩] (fun _ => True) (fun _ => False) rfl rfl ?aP (fun _ hk => hk.elim) ?aF ?aO ?aB ?aS ?aL ?_; (case aP => exact k39_mkM _ _ _ (⟨kk, 0, ⟨#[]⟩⟩ : S39)); (case aB => exact HB5.out); (case aF => exact (fun _ _ => trivial)); (case aO => exact HO5.out); (case aS => exact HB5.out.size); (case aL => have := HL.out; have h2 : ((R.f1.take j).map scal).length ≤ R.f1.length := (by rw [List.length_map, List.length_take]; omega); omega); intro v6 w6 ho6 hb6 hg6 hat6; clear hg6 hat6; have HO6 := Aside0.mk ho6; have HB6 := Aside0.mk hb6; clear ho6 hb6 HO5 HB5)
      exact ⟨⟨j + 1, by go_num, by omega, ⟨by rw [take_scal _ _ hlt, HSC.out]; exact HO6.out⟩, HB6⟩, by simp [intOf]; omega⟩
    · have c0 : decide ((j : Int) < (R.f1.length : Int)) = false := decide_eq_false (by omega)
      obtain rfl : j = R.f1.length := by omega
      go_wp2
      go_ret
      exact ⟨_, rfl, by have h := Kd.R_lower HO.out HB1.out.size; rw [List.take_length] at h; rw [HRR.out]; exact h, HB1.out.trans (HB.out.mono HB1.out.size)⟩
end Go.Proofs.Ytogknojocodhgaa.P
end
