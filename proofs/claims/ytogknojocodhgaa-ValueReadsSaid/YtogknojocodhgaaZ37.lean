-- Texts of this claim, put together and cut down to what is used (trim.py, a program of this session).
import Derived.Test.YtogknojocodhgaaZ36
section
namespace Go.Proofs.Ytogknojocodhgaa.P
open Go.RowKit Go.WideMaps Go.Proofs.YtogknojocodhgaaW.PrintWords Go.Proofs.YtogknojocodhgaaW.PrintLast Go.Proofs.YtogknojocodhgaaW.PrintMore
set_option linter.unusedVariables false
set_option linter.unusedSimpArgs false
section
variable {w w' W W' : World} {gw ga gt gf gd gc n : Nat} {width : Int} {ws : List ByteArray} {ts : List S74} {i i' : Nat}
theorem Below.setG {base : Nat} (h : Below base w W) {p : Addr} (hp : base ≤ p.block) (u : Value) : Below base w (W.setCell p u) := h.trans ⟨rfl, rfl, rfl, by simp [World.setCell], fun k hk => Below.heap_setCell W p u k (by omega)⟩
def Moved (base : Nat) (ga gf : Nat) (w w' : World) : Prop := Below base w w' ∧ Kept w w' (fun k => k = ga ∨ k = gf)
theorem Moved.alloc0 {base : Nat} (hb : base ≤ w.heap.size) (o : Obj) : Moved base ga gf w (w.alloc o) := ⟨(Below.refl _ _).alloc hb _, (Kept.refl _ _).alloc _⟩
theorem Moved.setA {base : Nat} (h : Moved base ga gf w W) (hb : base ≤ ga) (u : Value) : Moved base ga gf w (W.setCell ⟨ga, 0, none⟩ u) := ⟨Below.setG h.1 hb u, h.2.setCell (.inl (.inl rfl)) u⟩
theorem Moved.setF {base : Nat} (h : Moved base ga gf w W) (hb : base ≤ gf) (u : Value) : Moved base ga gf w (W.setCell ⟨gf, 0, none⟩ u) := ⟨Below.setG h.1 hb u, h.2.setCell (.inl (.inr rfl)) u⟩
theorem Moved.below {base : Nat} (h : Moved base ga gf w W) (hb : base ≤ W.heap.size) (k : Below W.heap.size W W') : Moved base ga gf w W' := ⟨h.1.trans (k.mono hb), h.2.below k⟩
theorem tl_true : (⟨#[116, 114, 117, 101]⟩ : ByteArray).toList = [116, 114, 117, 101] := by kernel_rfl
theorem tl_false : (⟨#[102, 97, 108, 115, 101]⟩ : ByteArray).toList = [102, 97, 108, 115, 101] := by kernel_rfl
theorem tl_minus : (⟨#[45]⟩ : ByteArray).toList = [45] := by kernel_rfl
set_option maxHeartbeats 2000000 in
set_option maxRecDepth 100000 in
theorem scalar_true (base : Nat) (hb1 : base ≤ ga) (hb2 : base ≤ gf) (hbs : base ≤ w.heap.size) (k : Int) (rec : ByteArray) (H : St w gw ga gt gf gd gc n width ws ts i) (hi : i + 1 < n) (h1 : accB ws ts i [116, 114, 117, 101] = true) :
    Calls Try.prog 53 #[.agg #[.int .i64 2, .int .i64 k, .string rec], .pointer (some ⟨gc, 0, none⟩), .pointer (some ⟨gw, 0, none⟩), .pointer (some ⟨ga, 0, none⟩), .pointer (some ⟨gf, 0, none⟩), .pointer (some ⟨gd, 0, none⟩)] w fun e w' => e = .returned (.tuple #[.int .i64 1, .bool true]) ∧ St w' gw ga gt gf gd gc n width ws ts (i + 1) ∧ Moved base ga gf w w' := by
  have HB0 : Below w.heap.size w (w.alloc (.cells #[.int .i64 2, .int .i64 k, .string rec] 39)) := (Below.refl _ _).alloc (Nat.le_refl _) _
  have H0 := Aside0.mk (H.below HB0)
  have HM := Aside0.mk ((Moved.alloc0 (ga := ga) (gf := gf) hbs (.cells #[.int .i64 2, .int .i64 k, .string rec] 39)).setA hb1 (.int .i64 ((i + 1 : Nat) : Int)))
  have HS := Aside0.mk (H0.out.setA hi)
  have hcc := H0.out.hc
  clear H
  go_enter Try.func53, Try.ntmps53
  go_wp2_with fail
  refine (accept_calls _ H0.out).mono ?_
  rw [tl_true, h1]
  rintro e w1 ⟨rfl, rfl⟩
  simp only [if_true]
  go_wp2
  go_ret2
  exact ⟨rfl, HS.out, HM.out⟩
set_option maxHeartbeats 2000000 in
set_option maxRecDepth 100000 in
theorem scalar_false (base : Nat) (hb1 : base ≤ ga) (hb2 : base ≤ gf) (hbs : base ≤ w.heap.size) (k : Int) (rec : ByteArray) (H : St w gw ga gt gf gd gc n width ws ts i) (hi : i + 1 < n) (h0 : accB ws ts i [116, 114, 117, 101] = false) (h1 : accB ws ts i [102, 97, 108, 115, 101] = true) :
    Calls Try.prog 53 #[.agg #[.int .i64 2, .int .i64 k, .string rec], .pointer (some ⟨gc, 0, none⟩), .pointer (some ⟨gw, 0, none⟩), .pointer (some ⟨ga, 0, none⟩), .pointer (some ⟨gf, 0, none⟩), .pointer (some ⟨gd, 0, none⟩)] w fun e w' => e = .returned (.tuple #[.int .i64 0, .bool true]) ∧ St w' gw ga gt gf gd gc n width ws ts (i + 1) ∧ Moved base ga gf w w' := by
  have HB0 : Below w.heap.size w (w.alloc (.cells #[.int .i64 2, .int .i64 k, .string rec] 39)) := (Below.refl _ _).alloc (Nat.le_refl _) _
  have H0 := Aside0.mk (H.below HB0)
  have HM := Aside0.mk ((Moved.alloc0 (ga := ga) (gf := gf) hbs (.cells #[.int .i64 2, .int .i64 k, .string rec] 39)).setA hb1 (.int .i64 ((i + 1 : Nat) : Int)))
  have HS := Aside0.mk (H0.out.setA hi)
  have hcc := H0.out.hc
  clear H
  go_enter Try.func53, Try.ntmps53
  go_wp2_with fail
  refine (accept_calls _ H0.out).mono ?_
  rw [tl_true, h0]
  rintro e w1 ⟨rfl, rfl⟩
  rw [if_neg (by simp)]
  go_wp2_with fail
  refine (accept_calls _ H0.out).mono ?_
  rw [tl_false, h1]
  rintro e w1 ⟨rfl, rfl⟩
  simp only [if_true]
  go_wp2
  go_ret2
  exact ⟨rfl, HS.out, HM.out⟩
set_option maxHeartbeats 2000000 in
set_option maxRecDepth 100000 in
theorem scalar_pos (base : Nat) (hb1 : base ≤ ga) (hb2 : base ≤ gf) (hbs : base ≤ w.heap.size) (k0 k : Int) (hk : k0 ≠ 2) (rec : ByteArray) (H : St w gw ga gt gf gd gc n width ws ts i) (hi : i + 1 < n) (v : Int) (h0 : accB ws ts i [45] = false) (h1 : lexer_Number.f (rdw ws i) = some (v, true)) (h2 : value_isInt.f width v = some true) :
    Calls Try.prog 53 #[.agg #[.int .i64 k0, .int .i64 k, .string rec], .pointer (some ⟨gc, 0, none⟩), .pointer (some ⟨gw, 0, none⟩), .pointer (some ⟨ga, 0, none⟩), .pointer (some ⟨gf, 0, none⟩), .pointer (some ⟨gd, 0, none⟩)] w fun e w' => e = .returned (.tuple #[.int .i64 v, .bool true]) ∧ St w' gw ga gt gf gd gc n width ws ts (i + 1) ∧ Moved base ga gf w w' := by
  have HB0 : Below w.heap.size w (w.alloc (.cells #[.int .i64 k0, .int .i64 k, .string rec] 39)) := (Below.refl _ _).alloc (Nat.le_refl _) _
  have H0 := Aside0.mk (H.below HB0)
  have HM := Aside0.mk (Moved.alloc0 (ga := ga) (gf := gf) hbs (.cells #[.int .i64 k0, .int .i64 k, .string rec] 39))
  have HSZ : Aside0 (base ≤ (w.alloc (.cells #[.int .i64 k0, .int .i64 k, .string rec] 39)).heap.size) := ⟨by simp; omega⟩
  have hk2 : (k0 == 2) = false := beq_eq_false_iff_ne.mpr hk
  have hcc := H0.out.hc
  have H1 := Aside0.mk h1
  have H2 := Aside0.mk h2
  clear H h1 h2
  go_enter Try.func53, Try.ntmps53
  go_wp2_with fail
  refine (accept_calls _ H0.out).mono ?_
  rw [tl_minus, h0]
  rintro e w1 ⟨rfl, rfl⟩
  rw [if_neg (by simp)]
  obtain ⟨⟨n1, n2, hin⟩, ⟨A1, c1, hw, hgw⟩, _, ⟨hga, hgaf⟩, ⟨hff, hfff⟩, hdd, _, ne⟩ := H0.out
  have hmax := Kd.C_max (Kd.F_now hw)
  obtain ⟨ad1, e1, hx⟩ := Kd.at_string (Kd.F_now hw) (i : Int) (by omega) (by omega)
  subst e1
  rw [Int.toNat_natCast] at hx
  clear hw
  go_wp2_with fail
  refine (lexer_Number.calls _ v true _ H1.out).mono ?_
  rintro e w2 ⟨rfl, hb2⟩
  have HS2 := Aside0.mk (H0.out.below hb2)
  have HM2 := Aside0.mk (HM.out.below HSZ.out hb2)
  have HSZ2 : Aside0 (base ≤ w2.heap.size) := ⟨by have := hb2.size; have := HSZ.out; omega⟩
  have HS3 : Aside0 (St (w2.setCell ⟨ga, 0, none⟩ (.int .i64 ((i : Int) + 1))) gw ga gt gf gd gc n width ws ts (i + 1)) := ⟨HS2.out.setA hi⟩
  have HM3 := Aside0.mk (HM2.out.setA hb1 (.int .i64 ((i : Int) + 1)))
  have HSZ3 : Aside0 (base ≤ (w2.setCell ⟨ga, 0, none⟩ (.int .i64 ((i : Int) + 1))).heap.size) := ⟨by have := HSZ2.out; simpa [World.setCell] using this⟩
  obtain ⟨ha3, haf3⟩ := HS2.out.ha
  obtain ⟨hf3, hff3⟩ := HS3.out.hf
  have hd3 := HS3.out.hd
  have hww : IntKind.i64.wrap ((i : Int) + 1) = ((i + 1 : Nat) : Int) := by rw [IntKind.wrap_i64]; omega
  clear hga hgaf hff hfff hdd ne hx hgw hb2
  go_wp2_with fail
  refine (value_isInt.calls width v true _ H2.out).mono ?_
  rintro e w4 ⟨rfl, hd4⟩
  have hb4 := Drawn0.below hd4
  have HS4 := Aside0.mk (HS3.out.below hb4)
  have HM4 := Aside0.mk (HM3.out.below HSZ3.out hb4)
  have HS5 := Aside0.mk HS4.out.setF
  have HM5 := Aside0.mk (HM4.out.setF hb2 (.bool true))
  obtain ⟨hf4, hff4⟩ := HS4.out.hf
  clear hb4 hd4 hf3 hff3 hd3 ha3 haf3
  go_wp2
  go_ret2
  exact ⟨rfl, HS5.out, HM5.out⟩
set_option maxHeartbeats 2000000 in
set_option maxRecDepth 100000 in
theorem scalar_neg (base : Nat) (hb1 : base ≤ ga) (hb2 : base ≤ gf) (hbs : base ≤ w.heap.size) (k0 k : Int) (hk : k0 ≠ 2) (rec : ByteArray) (H : St w gw ga gt gf gd gc n width ws ts i) (hi : i + 1 + 1 < n) (v : Int) (h0 : accB ws ts i [45] = true) (h1 : lexer_Number.f (rdw ws (i + 1)) = some (v, true)) (h2 : value_isInt.f width (wrap64 (-v)) = some true) :
    Calls Try.prog 53 #[.agg #[.int .i64 k0, .int .i64 k, .string rec], .pointer (some ⟨gc, 0, none⟩), .pointer (some ⟨gw, 0, none⟩), .pointer (some ⟨ga, 0, none⟩), .pointer (some ⟨gf, 0, none⟩), .pointer (some ⟨gd, 0, none⟩)] w fun e w' => e = .returned (.tuple #[.int .i64 (wrap64 (-v)), .bool true]) ∧ St w' gw ga gt gf gd gc n width ws ts (i + 1 + 1) ∧ Moved base ga gf w w' := by
  have HB0 : Below w.heap.size w (w.alloc (.cells #[.int .i64 k0, .int .i64 k, .string rec] 39)) := (Below.refl _ _).alloc (Nat.le_refl _) _
  have H0 := Aside0.mk (H.below HB0)
  have HM := Aside0.mk (Moved.alloc0 (ga := ga) (gf := gf) hbs (.cells #[.int .i64 k0, .int .i64 k, .string rec] 39))
  have HSZ : Aside0 (base ≤ (w.alloc (.cells #[.int .i64 k0, .int .i64 k, .string rec] 39)).heap.size) := ⟨by simp; omega⟩
  have hk2 : (k0 == 2) = false := beq_eq_false_iff_ne.mpr hk
  have hcc := H0.out.hc
  have H1 := Aside0.mk h1
  have H2 := Aside0.mk h2
  clear H h1 h2
  go_enter Try.func53, Try.ntmps53
  go_wp2_with fail
  refine (accept_calls _ H0.out).mono ?_
  rw [tl_minus, h0]
  rintro e w1 ⟨rfl, rfl⟩
  rw [if_pos rfl]
  have HM1 := Aside0.mk (HM.out.setA hb1 (.int .i64 ((i + 1 : Nat) : Int)))
  have HSZ1 : Aside0 (base ≤ ((w.alloc (.cells #[.int .i64 k0, .int .i64 k, .string rec] 39)).setCell ⟨ga, 0, none⟩ (.int .i64 ((i + 1 : Nat) : Int))).heap.size) := ⟨by have := HSZ.out; simpa [World.setCell] using this⟩
  have HS1 := Aside0.mk (H0.out.setA (i' := i + 1) (by omega))
  generalize hW1 : (w.alloc (.cells #[.int .i64 k0, .int .i64 k, .string rec] 39)).setCell ⟨ga, 0, none⟩ (.int .i64 ((i + 1 : Nat) : Int)) = w1 at HM1 HSZ1 HS1
  generalize hj : i + 1 = j at *
  obtain ⟨⟨n1, n2, hin⟩, ⟨A1, c1, hw, hgw⟩, _, ⟨hga, hgaf⟩, ⟨hff, hfff⟩, hdd, _, ne⟩ := HS1.out
  have hmax := Kd.C_max (Kd.F_now hw)
  obtain ⟨ad1, e1, hx⟩ := Kd.at_string (Kd.F_now hw) (j : Int) (by omega) (by omega)
  subst e1
  rw [Int.toNat_natCast] at hx
  clear hw
  go_wp2_with fail
  refine (lexer_Number.calls _ v true _ H1.out).mono ?_
  rintro e w2 ⟨rfl, hb2⟩
  have HS2 := Aside0.mk (HS1.out.below hb2)
  have HM2 := Aside0.mk (HM1.out.below HSZ1.out hb2)
  have HSZ2 : Aside0 (base ≤ w2.heap.size) := ⟨by have := hb2.size; have := HSZ1.out; omega⟩
  have HS3 : Aside0 (St (w2.setCell ⟨ga, 0, none⟩ (.int .i64 ((j : Int) + 1))) gw ga gt gf gd gc n width ws ts (j + 1)) := ⟨HS2.out.setA hi⟩
  have HM3 := Aside0.mk (HM2.out.setA hb1 (.int .i64 ((j : Int) + 1)))
  have HSZ3 : Aside0 (base ≤ (w2.setCell ⟨ga, 0, none⟩ (.int .i64 ((j : Int) + 1))).heap.size) := ⟨by have := HSZ2.out; simpa [World.setCell] using this⟩
  obtain ⟨ha3, haf3⟩ := HS2.out.ha
  obtain ⟨hf3, hff3⟩ := HS3.out.hf
  have hd3 := HS3.out.hd
  have hww : IntKind.i64.wrap ((j : Int) + 1) = ((j + 1 : Nat) : Int) := by rw [IntKind.wrap_i64]; omega
  clear hga hgaf hff hfff hdd ne hx hgw hb2
  go_wp2_with fail
  refine (value_isInt.calls width (wrap64 (-v)) true _ H2.out).mono ?_
  rintro e w4 ⟨rfl, hd4⟩
  have hb4 := Drawn0.below hd4
  have HS4 := Aside0.mk (HS3.out.below hb4)
  have HM4 := Aside0.mk (HM3.out.below HSZ3.out hb4)
  have HS5 := Aside0.mk HS4.out.setF
  have HM5 := Aside0.mk (HM4.out.setF hb2 (.bool true))
  obtain ⟨hf4, hff4⟩ := HS4.out.hf
  clear hb4 hd4 hf3 hff3 hd3 ha3 haf3
  go_wp2
  go_ret2
  exact ⟨rfl, by rw [hj]; exact HS5.out, HM5.out⟩
end
end Go.Proofs.Ytogknojocodhgaa.P
end
