-- Written by a program of this session (jprint.py over the kit's print), for this claim. Lean checks it.
import Derived.Test.YtogknojocodhgaaPx0
import Derived.Test.YtogknojocodhgaaPx6
import Derived.Test.YtogknojocodhgaaPx7
import Derived.Test.YtogknojocodhgaaPx8
import Derived.Test.YtogknojocodhgaaPx9
namespace Go.Proofs.Ytogknojocodhgaa.P
open Go.RowKit Go.Proofs.YtogknojocodhgaaW.PrintWords Go.Proofs.YtogknojocodhgaaW.PrintLast Go.Proofs.YtogknojocodhgaaW.PrintMore
attribute [local go_sem] max2_int min2_int max_two min_two max_three min_three max_four min_four   -- for this text's walks alone
set_option linter.unusedVariables false
set_option linter.unusedSimpArgs false

/-! ### assessorref11_Binary: function 15 -/
mutual
def assessorref11_Binary.j0 : Nat → Int → ByteArray → Int → Int → Bool → Option (Int × Int × Int)
  | 0, _, _, _, _, _ => none
  | k + 1, x0, x1, x2, x3, x11 => if x11 = true then ((assessorref11_isBit.f x2).bind fun t200 => (if t200 = true then ((assessorref11_isBit.f x3).bind fun t201 => (if t201 = true then ((assessorref11_isInt.f k x0 x2).bind fun t202 => (if t202 = true then ((assessorref11_isInt.f k x0 x3).bind fun t203 => (if t203 = true then (assessorref11_Binary.j1 k x0 x1 x2 x3 false) else (assessorref11_Binary.j1 k x0 x1 x2 x3 (!x11)))) else ((assessorref11_isInt.f k x0 x3).bind fun t204 => (if t204 = true then (assessorref11_Binary.j1 k x0 x1 x2 x3 false) else (assessorref11_Binary.j1 k x0 x1 x2 x3 (!x11)))))) else (assessorref11_Binary.j1 k x0 x1 x2 x3 true))) else (assessorref11_Binary.j1 k x0 x1 x2 x3 true))) else ((assessorref11_isInt.f k x0 x2).bind fun t205 => (if t205 = true then ((assessorref11_isInt.f k x0 x3).bind fun t206 => (if t206 = true then (assessorref11_Binary.j1 k x0 x1 x2 x3 false) else (assessorref11_Binary.j1 k x0 x1 x2 x3 (!x11)))) else (assessorref11_Binary.j1 k x0 x1 x2 x3 true)))
def assessorref11_Binary.j1 : Nat → Int → ByteArray → Int → Int → Bool → Option (Int × Int × Int)
  | 0, _, _, _, _, _ => none
  | k + 1, x0, x1, x2, x3, x56 => if x56 = true then (some (0, 0, 2)) else (if x1.toList = ([47] : List UInt8) then (assessorref11_Binary.j2 k x0 x1 x2 x3 (x3 == 0)) else (if x1.toList = ([37] : List UInt8) then (assessorref11_Binary.j2 k x0 x1 x2 x3 (x3 == 0)) else (assessorref11_Binary.j2 k x0 x1 x2 x3 false)))
def assessorref11_Binary.j2 : Nat → Int → ByteArray → Int → Int → Bool → Option (Int × Int × Int)
  | 0, _, _, _, _, _ => none
  | k + 1, x0, x1, x2, x3, x66 => if x66 = true then (some (0, 1, 0)) else (if x1.toList = ([43] : List UInt8) then ((assessorref11_Wrap.f k x0 (wrap64 (x2 + x3))).bind fun t207 => (some (t207, 0, 0))) else (if x1.toList = ([45] : List UInt8) then ((assessorref11_Wrap.f k x0 (wrap64 (x2 - x3))).bind fun t208 => (some (t208, 0, 0))) else (if x1.toList = ([42] : List UInt8) then ((assessorref11_Wrap.f k x0 (wrap64 (x2 * x3))).bind fun t209 => (some (t209, 0, 0))) else (if x1.toList = ([47] : List UInt8) then (if x3 = 0 then (none) else ((assessorref11_Wrap.f k x0 (wrap64 (Int.tdiv x2 x3))).bind fun t210 => (some (t210, 0, 0)))) else (if x1.toList = ([37] : List UInt8) then (if x3 = 0 then (none) else (some (Int.tmod x2 x3, 0, 0))) else (if x1.toList = ([61, 61] : List UInt8) then ((assessorref11_bit.f (x2 == x3)).bind fun t211 => (some (t211, 0, 0))) else (if x1.toList = ([33, 61] : List UInt8) then ((assessorref11_bit.f (x2 != x3)).bind fun t212 => (some (t212, 0, 0))) else (if x1.toList = ([60] : List UInt8) then ((assessorref11_bit.f (decide (x2 < x3))).bind fun t213 => (some (t213, 0, 0))) else (if x1.toList = ([60, 61] : List UInt8) then ((assessorref11_bit.f (decide (x2 ≤ x3))).bind fun t214 => (some (t214, 0, 0))) else (if x1.toList = ([62] : List UInt8) then ((assessorref11_bit.f (decide (x2 > x3))).bind fun t215 => (some (t215, 0, 0))) else (if x1.toList = ([62, 61] : List UInt8) then ((assessorref11_bit.f (decide (x2 ≥ x3))).bind fun t216 => (some (t216, 0, 0))) else (if x1.toList = ([97, 110, 100] : List UInt8) then (some (mn x2 x3, 0, 0)) else (if x1.toList = ([111, 114] : List UInt8) then (some (mx x2 x3, 0, 0)) else (some (0, 0, 0)))))))))))))))
end
def assessorref11_Binary.f (k : Nat) (a0 : Int) (a1 : ByteArray) (a2 : Int) (a3 : Int) : Option (Int × Int × Int) := (assessorref11_Width.f a0).bind fun t195 => (if t195 = true then ((assessorref02_Has.f k (([(⟨#[43]⟩ : ByteArray), (⟨#[45]⟩ : ByteArray), (⟨#[42]⟩ : ByteArray), (⟨#[47]⟩ : ByteArray), (⟨#[37]⟩ : ByteArray), (⟨#[61, 61]⟩ : ByteArray), (⟨#[33, 61]⟩ : ByteArray), (⟨#[60]⟩ : ByteArray), (⟨#[60, 61]⟩ : ByteArray), (⟨#[62]⟩ : ByteArray), (⟨#[62, 61]⟩ : ByteArray), (⟨#[97, 110, 100]⟩ : ByteArray), (⟨#[111, 114]⟩ : ByteArray)] : List ByteArray)) a1).bind fun t199 => (if t199 = true then (if a1.toList = ([97, 110, 100] : List UInt8) then (assessorref11_Binary.j0 k a0 a1 a2 a3 true) else (assessorref11_Binary.j0 k a0 a1 a2 a3 (a1.toList == ([111, 114] : List UInt8)))) else (some (0, 0, 1)))) else (some (0, 0, 2)))
theorem assessorref11_Binary.mono_l : ∀ k, (∀ y0 y1 y2 y3 y4, LeO (assessorref11_Binary.j0 k y0 y1 y2 y3 y4) (assessorref11_Binary.j0 (k + 1) y0 y1 y2 y3 y4)) ∧ (∀ y0 y1 y2 y3 y4, LeO (assessorref11_Binary.j1 k y0 y1 y2 y3 y4) (assessorref11_Binary.j1 (k + 1) y0 y1 y2 y3 y4)) ∧ (∀ y0 y1 y2 y3 y4, LeO (assessorref11_Binary.j2 k y0 y1 y2 y3 y4) (assessorref11_Binary.j2 (k + 1) y0 y1 y2 y3 y4))
  | 0 => ⟨fun _ _ _ _ _ r h => by simp [assessorref11_Binary.j0] at h, fun _ _ _ _ _ r h => by simp [assessorref11_Binary.j1] at h, fun _ _ _ _ _ r h => by simp [assessorref11_Binary.j2] at h⟩
  | k + 1 => by
    obtain ⟨ih0, ih1, ih2⟩ := assessorref11_Binary.mono_l k
    refine ⟨?_, ?_, ?_⟩
    · intro y0 y1 y2 y3 y4
      unfold assessorref11_Binary.j0
      repeat' first
      | (with_reducible exact ih0 _ _ _ _ _)
      | (with_reducible exact ih1 _ _ _ _ _)
      | (with_reducible exact ih2 _ _ _ _ _)
      | (with_reducible exact assessorref02_Has.mono _ _ _)
      | (with_reducible exact assessorref11_Wrap.mono _ _ _)
      | (with_reducible exact assessorref11_isInt.mono _ _ _)
      | (with_reducible exact LeO.refl _)
      | (with_reducible exact LeO.none _)
      | (with_reducible refine LeO.ite ?_ ?_)
      | (with_reducible refine LeO.bind ?_ (fun _ => ?_))
      | exact ih0 _ _ _ _ _
      | exact ih1 _ _ _ _ _
      | exact ih2 _ _ _ _ _
      | exact assessorref02_Has.mono _ _ _
      | exact assessorref11_Wrap.mono _ _ _
      | exact assessorref11_isInt.mono _ _ _
      | exact LeO.none _
      | refine LeO.ite ?_ ?_
      | refine LeO.bind ?_ (fun _ => ?_)
    · intro y0 y1 y2 y3 y4
      unfold assessorref11_Binary.j1
      repeat' first
      | (with_reducible exact ih0 _ _ _ _ _)
      | (with_reducible exact ih1 _ _ _ _ _)
      | (with_reducible exact ih2 _ _ _ _ _)
      | (with_reducible exact assessorref02_Has.mono _ _ _)
      | (with_reducible exact assessorref11_Wrap.mono _ _ _)
      | (with_reducible exact assessorref11_isInt.mono _ _ _)
      | (with_reducible exact LeO.refl _)
      | (with_reducible exact LeO.none _)
      | (with_reducible refine LeO.ite ?_ ?_)
      | (with_reducible refine LeO.bind ?_ (fun _ => ?_))
      | exact ih0 _ _ _ _ _
      | exact ih1 _ _ _ _ _
      | exact ih2 _ _ _ _ _
      | exact assessorref02_Has.mono _ _ _
      | exact assessorref11_Wrap.mono _ _ _
      | exact assessorref11_isInt.mono _ _ _
      | exact LeO.none _
      | refine LeO.ite ?_ ?_
      | refine LeO.bind ?_ (fun _ => ?_)
    · intro y0 y1 y2 y3 y4
      unfold assessorref11_Binary.j2
      repeat' first
      | (with_reducible exact ih0 _ _ _ _ _)
      | (with_reducible exact ih1 _ _ _ _ _)
      | (with_reducible exact ih2 _ _ _ _ _)
      | (with_reducible exact assessorref02_Has.mono _ _ _)
      | (with_reducible exact assessorref11_Wrap.mono _ _ _)
      | (with_reducible exact assessorref11_isInt.mono _ _ _)
      | (with_reducible exact LeO.refl _)
      | (with_reducible exact LeO.none _)
      | (with_reducible refine LeO.ite ?_ ?_)
      | (with_reducible refine LeO.bind ?_ (fun _ => ?_))
      | exact ih0 _ _ _ _ _
      | exact ih1 _ _ _ _ _
      | exact ih2 _ _ _ _ _
      | exact assessorref02_Has.mono _ _ _
      | exact assessorref11_Wrap.mono _ _ _
      | exact assessorref11_isInt.mono _ _ _
      | exact LeO.none _
      | refine LeO.ite ?_ ?_
      | refine LeO.bind ?_ (fun _ => ?_)
theorem assessorref11_Binary.mono : ∀ a0 a1 a2 a3 k, LeO (assessorref11_Binary.f k a0 a1 a2 a3) (assessorref11_Binary.f (k + 1) a0 a1 a2 a3) := by
  intro a0 a1 a2 a3 k
  obtain ⟨ih0, ih1, ih2⟩ := assessorref11_Binary.mono_l k
  unfold assessorref11_Binary.f
  repeat' first
      | (with_reducible exact ih0 _ _ _ _ _)
      | (with_reducible exact ih1 _ _ _ _ _)
      | (with_reducible exact ih2 _ _ _ _ _)
      | (with_reducible exact assessorref02_Has.mono _ _ _)
      | (with_reducible exact assessorref11_Wrap.mono _ _ _)
      | (with_reducible exact assessorref11_isInt.mono _ _ _)
      | (with_reducible exact LeO.refl _)
      | (with_reducible exact LeO.none _)
      | (with_reducible refine LeO.ite ?_ ?_)
      | (with_reducible refine LeO.bind ?_ (fun _ => ?_))
      | exact ih0 _ _ _ _ _
      | exact ih1 _ _ _ _ _
      | exact ih2 _ _ _ _ _
      | exact assessorref02_Has.mono _ _ _
      | exact assessorref11_Wrap.mono _ _ _
      | exact assessorref11_isInt.mono _ _ _
      | exact LeO.none _
      | refine LeO.ite ?_ ?_
      | refine LeO.bind ?_ (fun _ => ?_)
set_option maxHeartbeats 8000000 in
set_option maxRecDepth 100000 in
theorem assessorref11_Binary.calls (k : Nat) (a0 : Int) (a1 : ByteArray) (a2 : Int) (a3 : Int) (r1 : Int) (r2 : Int) (r3 : Int) (w : World) (h : assessorref11_Binary.f k a0 a1 a2 a3 = some (r1, r2, r3)) :
    Calls Try.prog 15 #[.int .i64 a0, .string a1, .int .i64 a2, .int .i64 a3] w fun e w' => e = .returned (.tuple #[.int .i64 r1, .int .i64 r2, .int .i64 r3]) ∧ Below w.heap.size w w' := by
  have HB := Aside0.mk (Below.refl w.heap.size w)
  have H : ((assessorref11_Width.f a0).bind fun t195 => (if t195 = true then ((assessorref02_Has.f k (([(⟨#[43]⟩ : ByteArray), (⟨#[45]⟩ : ByteArray), (⟨#[42]⟩ : ByteArray), (⟨#[47]⟩ : ByteArray), (⟨#[37]⟩ : ByteArray), (⟨#[61, 61]⟩ : ByteArray), (⟨#[33, 61]⟩ : ByteArray), (⟨#[60]⟩ : ByteArray), (⟨#[60, 61]⟩ : ByteArray), (⟨#[62]⟩ : ByteArray), (⟨#[62, 61]⟩ : ByteArray), (⟨#[97, 110, 100]⟩ : ByteArray), (⟨#[111, 114]⟩ : ByteArray)] : List ByteArray)) a1).bind fun t199 => (if t199 = true then (if a1.toList = ([97, 110, 100] : List UInt8) then (assessorref11_Binary.j0 k a0 a1 a2 a3 true) else (assessorref11_Binary.j0 k a0 a1 a2 a3 (a1.toList == ([111, 114] : List UInt8)))) else (some (0, 0, 1)))) else (some (0, 0, 2)))) = some (r1, r2, r3) := h
  clear h
  replace H := Option.bind_eq_some_iff.mp H
  obtain ⟨t195, A50, H⟩ := H
  replace H : (if t195 = true then ((assessorref02_Has.f k (([(⟨#[43]⟩ : ByteArray), (⟨#[45]⟩ : ByteArray), (⟨#[42]⟩ : ByteArray), (⟨#[47]⟩ : ByteArray), (⟨#[37]⟩ : ByteArray), (⟨#[61, 61]⟩ : ByteArray), (⟨#[33, 61]⟩ : ByteArray), (⟨#[60]⟩ : ByteArray), (⟨#[60, 61]⟩ : ByteArray), (⟨#[62]⟩ : ByteArray), (⟨#[62, 61]⟩ : ByteArray), (⟨#[97, 110, 100]⟩ : ByteArray), (⟨#[111, 114]⟩ : ByteArray)] : List ByteArray)) a1).bind fun t199 => (if t199 = true then (if a1.toList = ([97, 110, 100] : List UInt8) then (assessorref11_Binary.j0 k a0 a1 a2 a3 true) else (assessorref11_Binary.j0 k a0 a1 a2 a3 (a1.toList == ([111, 114] : List UInt8)))) else (some (0, 0, 1)))) else (some (0, 0, 2))) = some (r1, r2, r3) := H
  have A5 := Aside0.mk A50
  clear A50
  by_cases c6 : t195 = true
  · subst c6
    have H1 : ((assessorref02_Has.f k (([(⟨#[43]⟩ : ByteArray), (⟨#[45]⟩ : ByteArray), (⟨#[42]⟩ : ByteArray), (⟨#[47]⟩ : ByteArray), (⟨#[37]⟩ : ByteArray), (⟨#[61, 61]⟩ : ByteArray), (⟨#[33, 61]⟩ : ByteArray), (⟨#[60]⟩ : ByteArray), (⟨#[60, 61]⟩ : ByteArray), (⟨#[62]⟩ : ByteArray), (⟨#[62, 61]⟩ : ByteArray), (⟨#[97, 110, 100]⟩ : ByteArray), (⟨#[111, 114]⟩ : ByteArray)] : List ByteArray)) a1).bind fun t199 => (if t199 = true then (if a1.toList = ([97, 110, 100] : List UInt8) then (assessorref11_Binary.j0 k a0 a1 a2 a3 true) else (assessorref11_Binary.j0 k a0 a1 a2 a3 (a1.toList == ([111, 114] : List UInt8)))) else (some (0, 0, 1)))) = some (r1, r2, r3) := by rw [if_pos rfl] at H; exact H
    clear H
    have H := H1
    clear H1
    obtain ⟨y196, hy196⟩ : ∃ y_ : List ByteArray, y_ = (([(⟨#[43]⟩ : ByteArray), (⟨#[45]⟩ : ByteArray), (⟨#[42]⟩ : ByteArray), (⟨#[47]⟩ : ByteArray), (⟨#[37]⟩ : ByteArray), (⟨#[61, 61]⟩ : ByteArray), (⟨#[33, 61]⟩ : ByteArray), (⟨#[60]⟩ : ByteArray), (⟨#[60, 61]⟩ : ByteArray), (⟨#[62]⟩ : ByteArray), (⟨#[62, 61]⟩ : ByteArray), (⟨#[97, 110, 100]⟩ : ByteArray), (⟨#[111, 114]⟩ : ByteArray)] : List ByteArray)) := ⟨_, rfl⟩
    replace H : ((assessorref02_Has.f k y196 a1).bind fun t199 => (if t199 = true then (if a1.toList = ([97, 110, 100] : List UInt8) then (assessorref11_Binary.j0 k a0 a1 a2 a3 true) else (assessorref11_Binary.j0 k a0 a1 a2 a3 (a1.toList == ([111, 114] : List UInt8)))) else (some (0, 0, 1)))) = some (r1, r2, r3) := by first | (rw [hy196]; with_reducible exact H) | (have H2_ := (Option.bind_some _ _).symm.trans H; rw [hy196]; with_reducible exact H2_) | (have H2_ := (Option.bind_some _ _).symm.trans H; with_reducible exact H2_) | with_reducible exact H | (rw [hy196]; exact H) | exact H
    have Ny196 := Aside0.mk hy196
    clear hy196
    replace H := Option.bind_eq_some_iff.mp H
    obtain ⟨t199, A70, H⟩ := H
    replace H : (if t199 = true then (if a1.toList = ([97, 110, 100] : List UInt8) then (assessorref11_Binary.j0 k a0 a1 a2 a3 true) else (assessorref11_Binary.j0 k a0 a1 a2 a3 (a1.toList == ([111, 114] : List UInt8)))) else (some (0, 0, 1))) = some (r1, r2, r3) := H
    have A7 := Aside0.mk A70
    clear A70
    by_cases c8 : t199 = true
    · subst c8
      have H1 : (if a1.toList = ([97, 110, 100] : List UInt8) then (assessorref11_Binary.j0 k a0 a1 a2 a3 true) else (assessorref11_Binary.j0 k a0 a1 a2 a3 (a1.toList == ([111, 114] : List UInt8)))) = some (r1, r2, r3) := by rw [if_pos rfl] at H; exact H
      clear H
      have H := H1
      clear H1
      have HC9 := Aside0.mk H
      clear H
      go_enter Try.func15, Try.ntmps15
      go_upto_region 5 with (first | ((with_reducible refine gate_callee (f := 37) rfl ?_); refine goesL_ (some 14) rfl rfl Try.func37 (by kernel_rfl) rfl #[.int .i64 a0] rfl (by (try simp only [List.map_toArray, List.map_cons, List.map_nil]); first | done | rfl | (simp only [List.length_drop, List.length_take]; rfl)) ?_; (with_reducible refine (assessorref11_Width.calls a0 true _ A5.out).mono ?_); rintro e w' ⟨rfl, ⟨nd, rfl⟩⟩; refine ⟨_, rfl, ?_⟩) | ((with_reducible refine gate_dst (N := 16) rfl ?_); refine Kd.R_lit Kd.string _ 9 ?hg (N := 16) ?hd (xs := ([(⟨#[43]⟩ : ByteArray), (⟨#[45]⟩ : ByteArray), (⟨#[42]⟩ : ByteArray), (⟨#[47]⟩ : ByteArray), (⟨#[37]⟩ : ByteArray), (⟨#[61, 61]⟩ : ByteArray), (⟨#[33, 61]⟩ : ByteArray), (⟨#[60]⟩ : ByteArray), (⟨#[60, 61]⟩ : ByteArray), (⟨#[62]⟩ : ByteArray), (⟨#[62, 61]⟩ : ByteArray), (⟨#[97, 110, 100]⟩ : ByteArray), (⟨#[111, 114]⟩ : ByteArray)] : List ByteArray)) (inner := [.string (⟨#[43]⟩ : ByteArray), .string (⟨#[45]⟩ : ByteArray), .string (⟨#[42]⟩ : ByteArray), .string (⟨#[47]⟩ : ByteArray), .string (⟨#[37]⟩ : ByteArray), .string (⟨#[61, 61]⟩ : ByteArray), .string (⟨#[33, 61]⟩ : ByteArray), .string (⟨#[60]⟩ : ByteArray), .string (⟨#[60, 61]⟩ : ByteArray), .string (⟨#[62]⟩ : ByteArray), .string (⟨#[62, 61]⟩ : ByteArray), .string (⟨#[97, 110, 100]⟩ : ByteArray), .string (⟨#[111, 114]⟩ : ByteArray)]) (ok := fun _ => True) (okp := fun _ => True) ?hr ?hp (fun _ hk => hk) trivial (Below.refl _ _) (Nat.le_refl _) (by simp) ?_; (case hd => rfl); (case hg => rfl); (case hr => first | (go_simp; done) | (go_simp; rfl)); (case hp => exact (Reps.one (show Kd.M Kd.string _ _ _ (⟨#[43]⟩ : ByteArray) [.string (⟨#[43]⟩ : ByteArray)] from rfl) (Reps.one (show Kd.M Kd.string _ _ _ (⟨#[45]⟩ : ByteArray) [.string (⟨#[45]⟩ : ByteArray)] from rfl) (Reps.one (show Kd.M Kd.string _ _ _ (⟨#[42]⟩ : ByteArray) [.string (⟨#[42]⟩ : ByteArray)] from rfl) (Reps.one (show Kd.M Kd.string _ _ _ (⟨#[47]⟩ : ByteArray) [.string (⟨#[47]⟩ : ByteArray)] from rfl) (Reps.one (show Kd.M Kd.string _ _ _ (⟨#[37]⟩ : ByteArray) [.string (⟨#[37]⟩ : ByteArray)] from rfl) (Reps.one (show Kd.M Kd.string _ _ _ (⟨#[61, 61]⟩ : ByteArray) [.string (⟨#[61, 61]⟩ : ByteArray)] from rfl) (Reps.one (show Kd.M Kd.string _ _ _ (⟨#[33, 61]⟩ : ByteArray) [.string (⟨#[33, 61]⟩ : ByteArray)] from rfl) (Reps.one (show Kd.M Kd.string _ _ _ (⟨#[60]⟩ : ByteArray) [.string (⟨#[60]⟩ : ByteArray)] from rfl) (Reps.one (show Kd.M Kd.string _ _ _ (⟨#[60, 61]⟩ : ByteArray) [.string (⟨#[60, 61]⟩ : ByteArray)] from rfl) (Reps.one (show Kd.M Kd.string _ _ _ (⟨#[62]⟩ : ByteArray) [.string (⟨#[62]⟩ : ByteArray)] from rfl) (Reps.one (show Kd.M Kd.string _ _ _ (⟨#[62, 61]⟩ : ByteArray) [.string (⟨#[62, 61]⟩ : ByteArray)] from rfl) (Reps.one (show Kd.M Kd.string _ _ _ (⟨#[97, 110, 100]⟩ : ByteArray) [.string (⟨#[97, 110, 100]⟩ : ByteArray)] from rfl) (Reps.one (show Kd.M Kd.string _ _ _ (⟨#[111, 114]⟩ : ByteArray) [.string (⟨#[111, 114]⟩ : ByteArray)] from rfl) (Reps.none _ _))))))))))))))); intro v197 w10 ho11 hb hg_ hnew_; clear hg_ hnew_; (first | rw [← Ny196.out] at ho11 | (simp only [Int.reduceToNat] at ho11; rw [← Ny196.out] at ho11)); have n0_ := Aside0.mk (Kd.R_lower ho11 (below_size (by repeat (first | (with_reducible first | exact HB.out | apply below_alloc | apply pw_below_drewN | apply below_drew1) | exact HB.out)))); have n1_ := Aside0.mk (below_step (by repeat (first | (with_reducible first | exact HB.out | apply below_alloc | apply pw_below_drewN | apply below_drew1) | exact HB.out)) hb); clear HB; have HO198 := n0_; have HB := n1_; clear n0_ n1_; clear hb ho11; obtain ⟨Ao12, co12, eo12⟩ := Kd.R_slice HO198.out; subst eo12) | ((with_reducible refine gate_callee (f := 38) rfl ?_); refine goesL_ (some 18) rfl rfl Try.func38 (by kernel_rfl) rfl #[.slice Ao12 y196.length co12, .string a1] rfl (by (try simp only [List.map_toArray, List.map_cons, List.map_nil]); first | done | rfl | (simp only [List.length_drop, List.length_take]; rfl)) ?_; (with_reducible refine (assessorref02_Has.calls k _ _ y196 a1 true _ ?side1 ?side2 A7.out).mono ?_); (case side1 => repeat (first | exact (Kd.R_reads' HO198.out).2.2 | (with_reducible refine Kd.C_alloc ?_ _) | (with_reducible refine Kd.C_drewN ?_ _) | (with_reducible refine Kd.C_drew ?_))); (case side2 => exact (Kd.R_reads' HO198.out).2.1); rintro e w' ⟨rfl, ⟨nd, rfl⟩⟩; refine ⟨_, rfl, ?_⟩))
      (try simp only [Act.put, List.setIfInBounds_toArray, List.set_cons_zero, List.set_cons_succ])
      go_cut [11] (fun v11 wc => ∃ (kq : Nat) (x11_8 : Bool), v11 = .bool x11_8 ∧ Aside0 (assessorref11_Binary.j0 kq a0 a1 a2 a3 x11_8 = some (r1, r2, r3)) ∧ Aside0 (kq ≤ k) ∧ Aside0 (Below w.heap.size w wc))
      case first =>
        have H := HC9.out
        clear HC9
        by_cases c13 : a1.toList = ([97, 110, 100] : List UInt8)
        · rw [if_pos c13] at H
          have c13b0 : (a1.toList == ([97, 110, 100] : List UInt8)) = true := beq_iff_eq.mpr c13
          have c13b1 : (a1.toList != ([97, 110, 100] : List UInt8)) = false := bne_eq_false_iff_eq.mpr c13
          clear c13
          (first | rw [c13b0] | (simp only [i64_w, i32_w]; rw [c13b0]) | skip)
          have H' := Aside0.mk H
          clear H
          go_wp2
          go_meet
          case rel => exact ⟨_, (true), (by first | rfl | (simp; done) | (simp [*]; done)), H', ⟨by first | omega | exact Nat.le_refl _⟩, ⟨by repeat (first | (with_reducible first | exact HB.out | apply below_alloc | apply pw_below_drewN | apply below_drew1) | exact HB.out)⟩⟩
        · rw [if_neg c13] at H
          have c13b0 : (a1.toList == ([97, 110, 100] : List UInt8)) = false := beq_eq_false_iff_ne.mpr c13
          have c13b1 : (a1.toList != ([97, 110, 100] : List UInt8)) = true := bne_iff_ne.mpr c13
          (first | rw [c13b0] | (simp only [i64_w, i32_w]; rw [c13b0]) | skip)
          have H' := Aside0.mk H
          clear H
          go_wp2
          go_meet
          case rel => exact ⟨_, ((a1.toList == ([111, 114] : List UInt8))), (by first | rfl | (simp; done) | (simp [*]; done)), H', ⟨by first | omega | exact Nat.le_refl _⟩, ⟨by repeat (first | (with_reducible first | exact HB.out | apply below_alloc | apply pw_below_drewN | apply below_drew1) | exact HB.out)⟩⟩
      case rest =>
        clear HC9
        try clear c1
        try clear p2
        try clear c3
        try clear c6
        try clear c8
        try clear c13
        try clear c13b0
        try clear c13b1
        obtain ⟨kq, x11_8, rfl, HA, HJ8, HB⟩ := hcut
        cases kq with
        | zero => exact absurd HA.out (by simp [assessorref11_Binary.j0])
        | succ kj8 =>
          have H := HA.out
          clear HA
          simp only [assessorref11_Binary.j0] at H
          have HC14 := Aside0.mk H
          clear H
          go_upto_region 6 with (fail)
          go_cut [56] (fun v56 wc => ∃ (kq : Nat) (x56_13 : Bool), v56 = .bool x56_13 ∧ Aside0 (assessorref11_Binary.j1 kq a0 a1 a2 a3 x56_13 = some (r1, r2, r3)) ∧ Aside0 (kq ≤ kj8) ∧ Aside0 (Below w.heap.size w wc))
          case first =>
            have H := HC14.out
            clear HC14
            by_cases c15 : x11_8 = true
            · subst c15
              have H1 : ((assessorref11_isBit.f a2).bind fun t200 => (if t200 = true then ((assessorref11_isBit.f a3).bind fun t201 => (if t201 = true then ((assessorref11_isInt.f kj8 a0 a2).bind fun t202 => (if t202 = true then ((assessorref11_isInt.f kj8 a0 a3).bind fun t203 => (if t203 = true then (assessorref11_Binary.j1 kj8 a0 a1 a2 a3 false) else (assessorref11_Binary.j1 kj8 a0 a1 a2 a3 (!true)))) else ((assessorref11_isInt.f kj8 a0 a3).bind fun t204 => (if t204 = true then (assessorref11_Binary.j1 kj8 a0 a1 a2 a3 false) else (assessorref11_Binary.j1 kj8 a0 a1 a2 a3 (!true)))))) else (assessorref11_Binary.j1 kj8 a0 a1 a2 a3 true))) else (assessorref11_Binary.j1 kj8 a0 a1 a2 a3 true))) = some (r1, r2, r3) := by rw [if_pos rfl] at H; exact H
              clear H
              have H := H1
              clear H1
              replace H := Option.bind_eq_some_iff.mp H
              obtain ⟨t200, A160, H⟩ := H
              replace H : (if t200 = true then ((assessorref11_isBit.f a3).bind fun t201 => (if t201 = true then ((assessorref11_isInt.f kj8 a0 a2).bind fun t202 => (if t202 = true then ((assessorref11_isInt.f kj8 a0 a3).bind fun t203 => (if t203 = true then (assessorref11_Binary.j1 kj8 a0 a1 a2 a3 false) else (assessorref11_Binary.j1 kj8 a0 a1 a2 a3 (!true)))) else ((assessorref11_isInt.f kj8 a0 a3).bind fun t204 => (if t204 = true then (assessorref11_Binary.j1 kj8 a0 a1 a2 a3 false) else (assessorref11_Binary.j1 kj8 a0 a1 a2 a3 (!true)))))) else (assessorref11_Binary.j1 kj8 a0 a1 a2 a3 true))) else (assessorref11_Binary.j1 kj8 a0 a1 a2 a3 true)) = some (r1, r2, r3) := H
              have A16 := Aside0.mk A160
              clear A160
              by_cases c17 : t200 = true
              · subst c17
                have H1 : ((assessorref11_isBit.f a3).bind fun t201 => (if t201 = true then ((assessorref11_isInt.f kj8 a0 a2).bind fun t202 => (if t202 = true then ((assessorref11_isInt.f kj8 a0 a3).bind fun t203 => (if t203 = true then (assessorref11_Binary.j1 kj8 a0 a1 a2 a3 false) else (assessorref11_Binary.j1 kj8 a0 a1 a2 a3 (!true)))) else ((assessorref11_isInt.f kj8 a0 a3).bind fun t204 => (if t204 = true then (assessorref11_Binary.j1 kj8 a0 a1 a2 a3 false) else (assessorref11_Binary.j1 kj8 a0 a1 a2 a3 (!true)))))) else (assessorref11_Binary.j1 kj8 a0 a1 a2 a3 true))) = some (r1, r2, r3) := by rw [if_pos rfl] at H; exact H
                clear H
                have H := H1
                clear H1
                replace H := Option.bind_eq_some_iff.mp H
                obtain ⟨t201, A180, H⟩ := H
                replace H : (if t201 = true then ((assessorref11_isInt.f kj8 a0 a2).bind fun t202 => (if t202 = true then ((assessorref11_isInt.f kj8 a0 a3).bind fun t203 => (if t203 = true then (assessorref11_Binary.j1 kj8 a0 a1 a2 a3 false) else (assessorref11_Binary.j1 kj8 a0 a1 a2 a3 (!true)))) else ((assessorref11_isInt.f kj8 a0 a3).bind fun t204 => (if t204 = true then (assessorref11_Binary.j1 kj8 a0 a1 a2 a3 false) else (assessorref11_Binary.j1 kj8 a0 a1 a2 a3 (!true)))))) else (assessorref11_Binary.j1 kj8 a0 a1 a2 a3 true)) = some (r1, r2, r3) := H
                have A18 := Aside0.mk A180
                clear A180
                by_cases c19 : t201 = true
                · subst c19
                  have H1 : ((assessorref11_isInt.f kj8 a0 a2).bind fun t202 => (if t202 = true then ((assessorref11_isInt.f kj8 a0 a3).bind fun t203 => (if t203 = true then (assessorref11_Binary.j1 kj8 a0 a1 a2 a3 false) else (assessorref11_Binary.j1 kj8 a0 a1 a2 a3 (!true)))) else ((assessorref11_isInt.f kj8 a0 a3).bind fun t204 => (if t204 = true then (assessorref11_Binary.j1 kj8 a0 a1 a2 a3 false) else (assessorref11_Binary.j1 kj8 a0 a1 a2 a3 (!true)))))) = some (r1, r2, r3) := by rw [if_pos rfl] at H; exact H
                  clear H
                  have H := H1
                  clear H1
                  replace H := Option.bind_eq_some_iff.mp H
                  obtain ⟨t202, A200, H⟩ := H
                  replace H : (if t202 = true then ((assessorref11_isInt.f kj8 a0 a3).bind fun t203 => (if t203 = true then (assessorref11_Binary.j1 kj8 a0 a1 a2 a3 false) else (assessorref11_Binary.j1 kj8 a0 a1 a2 a3 (!true)))) else ((assessorref11_isInt.f kj8 a0 a3).bind fun t204 => (if t204 = true then (assessorref11_Binary.j1 kj8 a0 a1 a2 a3 false) else (assessorref11_Binary.j1 kj8 a0 a1 a2 a3 (!true))))) = some (r1, r2, r3) := H
                  have A20 := Aside0.mk A200
                  clear A200
                  by_cases c21 : t202 = true
                  · subst c21
                    have H1 : ((assessorref11_isInt.f kj8 a0 a3).bind fun t203 => (if t203 = true then (assessorref11_Binary.j1 kj8 a0 a1 a2 a3 false) else (assessorref11_Binary.j1 kj8 a0 a1 a2 a3 (!true)))) = some (r1, r2, r3) := by rw [if_pos rfl] at H; exact H
                    clear H
                    have H := H1
                    clear H1
                    replace H := Option.bind_eq_some_iff.mp H
                    obtain ⟨t203, A220, H⟩ := H
                    replace H : (if t203 = true then (assessorref11_Binary.j1 kj8 a0 a1 a2 a3 false) else (assessorref11_Binary.j1 kj8 a0 a1 a2 a3 (!true))) = some (r1, r2, r3) := H
                    have A22 := Aside0.mk A220
                    clear A220
                    by_cases c23 : t203 = true
                    · subst c23
                      have H1 : (assessorref11_Binary.j1 kj8 a0 a1 a2 a3 false) = some (r1, r2, r3) := by rw [if_pos rfl] at H; exact H
                      clear H
                      have H := H1
                      clear H1
                      have H' := Aside0.mk H
                      clear H
                      go_wp2_with (first | (go_at_call 39; (with_reducible refine (assessorref11_isBit.calls a2 true _ A16.out).mono ?_); rintro e w' ⟨rfl, ⟨nd, rfl⟩⟩) | (go_at_call 39; (with_reducible refine (assessorref11_isBit.calls a3 true _ A18.out).mono ?_); rintro e w' ⟨rfl, ⟨nd, rfl⟩⟩) | (go_at_call 40; (with_reducible refine (assessorref11_isInt.calls kj8 a0 a2 true _ A20.out).mono ?_); rintro e w' ⟨rfl, ⟨nd, rfl⟩⟩) | (go_at_call 40; (with_reducible refine (assessorref11_isInt.calls kj8 a0 a3 true _ A22.out).mono ?_); rintro e w' ⟨rfl, ⟨nd, rfl⟩⟩))
                      go_meet
                      case rel => exact ⟨_, (false), (by first | rfl | (simp; done) | (simp [*]; done)), H', ⟨by have := HJ8.out; first | omega | exact Nat.le_refl _⟩, ⟨by repeat (first | (with_reducible first | exact HB.out | apply below_alloc | apply pw_below_drewN | apply below_drew1) | exact HB.out)⟩⟩
                    · replace c23 := Bool.eq_false_iff.mpr c23
                      subst c23
                      have H1 : (assessorref11_Binary.j1 kj8 a0 a1 a2 a3 (!true)) = some (r1, r2, r3) := by rw [if_neg (show ¬ (false = true) by decide)] at H; exact H
                      clear H
                      have H := H1
                      clear H1
                      have H' := Aside0.mk H
                      clear H
                      go_wp2_with (first | (go_at_call 39; (with_reducible refine (assessorref11_isBit.calls a2 true _ A16.out).mono ?_); rintro e w' ⟨rfl, ⟨nd, rfl⟩⟩) | (go_at_call 39; (with_reducible refine (assessorref11_isBit.calls a3 true _ A18.out).mono ?_); rintro e w' ⟨rfl, ⟨nd, rfl⟩⟩) | (go_at_call 40; (with_reducible refine (assessorref11_isInt.calls kj8 a0 a2 true _ A20.out).mono ?_); rintro e w' ⟨rfl, ⟨nd, rfl⟩⟩) | (go_at_call 40; (with_reducible refine (assessorref11_isInt.calls kj8 a0 a3 false _ A22.out).mono ?_); rintro e w' ⟨rfl, ⟨nd, rfl⟩⟩))
                      go_meet
                      case rel => exact ⟨_, (!true), (by first | rfl | (simp; done) | (simp [*]; done)), H', ⟨by have := HJ8.out; first | omega | exact Nat.le_refl _⟩, ⟨by repeat (first | (with_reducible first | exact HB.out | apply below_alloc | apply pw_below_drewN | apply below_drew1) | exact HB.out)⟩⟩
                  · replace c21 := Bool.eq_false_iff.mpr c21
                    subst c21
                    have H1 : ((assessorref11_isInt.f kj8 a0 a3).bind fun t204 => (if t204 = true then (assessorref11_Binary.j1 kj8 a0 a1 a2 a3 false) else (assessorref11_Binary.j1 kj8 a0 a1 a2 a3 (!true)))) = some (r1, r2, r3) := by rw [if_neg (show ¬ (false = true) by decide)] at H; exact H
                    clear H
                    have H := H1
                    clear H1
                    replace H := Option.bind_eq_some_iff.mp H
                    obtain ⟨t204, A240, H⟩ := H
                    replace H : (if t204 = true then (assessorref11_Binary.j1 kj8 a0 a1 a2 a3 false) else (assessorref11_Binary.j1 kj8 a0 a1 a2 a3 (!true))) = some (r1, r2, r3) := H
                    have A24 := Aside0.mk A240
                    clear A240
                    by_cases c25 : t204 = true
                    · subst c25
                      have H1 : (assessorref11_Binary.j1 kj8 a0 a1 a2 a3 false) = some (r1, r2, r3) := by rw [if_pos rfl] at H; exact H
                      clear H
                      have H := H1
                      clear H1
                      have H' := Aside0.mk H
                      clear H
                      go_wp2_with (first | (go_at_call 39; (with_reducible refine (assessorref11_isBit.calls a2 true _ A16.out).mono ?_); rintro e w' ⟨rfl, ⟨nd, rfl⟩⟩) | (go_at_call 39; (with_reducible refine (assessorref11_isBit.calls a3 true _ A18.out).mono ?_); rintro e w' ⟨rfl, ⟨nd, rfl⟩⟩) | (go_at_call 40; (with_reducible refine (assessorref11_isInt.calls kj8 a0 a2 false _ A20.out).mono ?_); rintro e w' ⟨rfl, ⟨nd, rfl⟩⟩) | (go_at_call 40; (with_reducible refine (assessorref11_isInt.calls kj8 a0 a3 true _ A24.out).mono ?_); rintro e w' ⟨rfl, ⟨nd, rfl⟩⟩))
                      go_meet
                      case rel => exact ⟨_, (false), (by first | rfl | (simp; done) | (simp [*]; done)), H', ⟨by have := HJ8.out; first | omega | exact Nat.le_refl _⟩, ⟨by repeat (first | (with_reducible first | exact HB.out | apply below_alloc | apply pw_below_drewN | apply below_drew1) | exact HB.out)⟩⟩
                    · replace c25 := Bool.eq_false_iff.mpr c25
                      subst c25
                      have H1 : (assessorref11_Binary.j1 kj8 a0 a1 a2 a3 (!true)) = some (r1, r2, r3) := by rw [if_neg (show ¬ (false = true) by decide)] at H; exact H
                      clear H
                      have H := H1
                      clear H1
                      have H' := Aside0.mk H
                      clear H
                      go_wp2_with (first | (go_at_call 39; (with_reducible refine (assessorref11_isBit.calls a2 true _ A16.out).mono ?_); rintro e w' ⟨rfl, ⟨nd, rfl⟩⟩) | (go_at_call 39; (with_reducible refine (assessorref11_isBit.calls a3 true _ A18.out).mono ?_); rintro e w' ⟨rfl, ⟨nd, rfl⟩⟩) | (go_at_call 40; (with_reducible refine (assessorref11_isInt.calls kj8 a0 a2 false _ A20.out).mono ?_); rintro e w' ⟨rfl, ⟨nd, rfl⟩⟩) | (go_at_call 40; (with_reducible refine (assessorref11_isInt.calls kj8 a0 a3 false _ A24.out).mono ?_); rintro e w' ⟨rfl, ⟨nd, rfl⟩⟩))
                      go_meet
                      case rel => exact ⟨_, (!true), (by first | rfl | (simp; done) | (simp [*]; done)), H', ⟨by have := HJ8.out; first | omega | exact Nat.le_refl _⟩, ⟨by repeat (first | (with_reducible first | exact HB.out | apply below_alloc | apply pw_below_drewN | apply below_drew1) | exact HB.out)⟩⟩
                · replace c19 := Bool.eq_false_iff.mpr c19
                  subst c19
                  have H1 : (assessorref11_Binary.j1 kj8 a0 a1 a2 a3 true) = some (r1, r2, r3) := by rw [if_neg (show ¬ (false = true) by decide)] at H; exact H
                  clear H
                  have H := H1
                  clear H1
                  have H' := Aside0.mk H
                  clear H
                  go_wp2_with (first | (go_at_call 39; (with_reducible refine (assessorref11_isBit.calls a2 true _ A16.out).mono ?_); rintro e w' ⟨rfl, ⟨nd, rfl⟩⟩) | (go_at_call 39; (with_reducible refine (assessorref11_isBit.calls a3 false _ A18.out).mono ?_); rintro e w' ⟨rfl, ⟨nd, rfl⟩⟩))
                  go_meet
                  case rel => exact ⟨_, (true), (by first | rfl | (simp; done) | (simp [*]; done)), H', ⟨by have := HJ8.out; first | omega | exact Nat.le_refl _⟩, ⟨by repeat (first | (with_reducible first | exact HB.out | apply below_alloc | apply pw_below_drewN | apply below_drew1) | exact HB.out)⟩⟩
              · replace c17 := Bool.eq_false_iff.mpr c17
                subst c17
                have H1 : (assessorref11_Binary.j1 kj8 a0 a1 a2 a3 true) = some (r1, r2, r3) := by rw [if_neg (show ¬ (false = true) by decide)] at H; exact H
                clear H
                have H := H1
                clear H1
                have H' := Aside0.mk H
                clear H
                go_wp2_with (first | (go_at_call 39; (with_reducible refine (assessorref11_isBit.calls a2 false _ A16.out).mono ?_); rintro e w' ⟨rfl, ⟨nd, rfl⟩⟩))
                go_meet
                case rel => exact ⟨_, (true), (by first | rfl | (simp; done) | (simp [*]; done)), H', ⟨by have := HJ8.out; first | omega | exact Nat.le_refl _⟩, ⟨by repeat (first | (with_reducible first | exact HB.out | apply below_alloc | apply pw_below_drewN | apply below_drew1) | exact HB.out)⟩⟩
            · replace c15 := Bool.eq_false_iff.mpr c15
              subst c15
              have H1 : ((assessorref11_isInt.f kj8 a0 a2).bind fun t205 => (if t205 = true then ((assessorref11_isInt.f kj8 a0 a3).bind fun t206 => (if t206 = true then (assessorref11_Binary.j1 kj8 a0 a1 a2 a3 false) else (assessorref11_Binary.j1 kj8 a0 a1 a2 a3 (!false)))) else (assessorref11_Binary.j1 kj8 a0 a1 a2 a3 true))) = some (r1, r2, r3) := by rw [if_neg (show ¬ (false = true) by decide)] at H; exact H
              clear H
              have H := H1
              clear H1
              replace H := Option.bind_eq_some_iff.mp H
              obtain ⟨t205, A260, H⟩ := H
              replace H : (if t205 = true then ((assessorref11_isInt.f kj8 a0 a3).bind fun t206 => (if t206 = true then (assessorref11_Binary.j1 kj8 a0 a1 a2 a3 false) else (assessorref11_Binary.j1 kj8 a0 a1 a2 a3 (!false)))) else (assessorref11_Binary.j1 kj8 a0 a1 a2 a3 true)) = some (r1, r2, r3) := H
              have A26 := Aside0.mk A260
              clear A260
              by_cases c27 : t205 = true
              · subst c27
                have H1 : ((assessorref11_isInt.f kj8 a0 a3).bind fun t206 => (if t206 = true then (assessorref11_Binary.j1 kj8 a0 a1 a2 a3 false) else (assessorref11_Binary.j1 kj8 a0 a1 a2 a3 (!false)))) = some (r1, r2, r3) := by rw [if_pos rfl] at H; exact H
                clear H
                have H := H1
                clear H1
                replace H := Option.bind_eq_some_iff.mp H
                obtain ⟨t206, A280, H⟩ := H
                replace H : (if t206 = true then (assessorref11_Binary.j1 kj8 a0 a1 a2 a3 false) else (assessorref11_Binary.j1 kj8 a0 a1 a2 a3 (!false))) = some (r1, r2, r3) := H
                have A28 := Aside0.mk A280
                clear A280
                by_cases c29 : t206 = true
                · subst c29
                  have H1 : (assessorref11_Binary.j1 kj8 a0 a1 a2 a3 false) = some (r1, r2, r3) := by rw [if_pos rfl] at H; exact H
                  clear H
                  have H := H1
                  clear H1
                  have H' := Aside0.mk H
                  clear H
                  go_wp2_with (first | (go_at_call 40; (with_reducible refine (assessorref11_isInt.calls kj8 a0 a2 true _ A26.out).mono ?_); rintro e w' ⟨rfl, ⟨nd, rfl⟩⟩) | (go_at_call 40; (with_reducible refine (assessorref11_isInt.calls kj8 a0 a3 true _ A28.out).mono ?_); rintro e w' ⟨rfl, ⟨nd, rfl⟩⟩))
                  go_meet
                  case rel => exact ⟨_, (false), (by first | rfl | (simp; done) | (simp [*]; done)), H', ⟨by have := HJ8.out; first | omega | exact Nat.le_refl _⟩, ⟨by repeat (first | (with_reducible first | exact HB.out | apply below_alloc | apply pw_below_drewN | apply below_drew1) | exact HB.out)⟩⟩
                · replace c29 := Bool.eq_false_iff.mpr c29
                  subst c29
                  have H1 : (assessorref11_Binary.j1 kj8 a0 a1 a2 a3 (!false)) = some (r1, r2, r3) := by rw [if_neg (show ¬ (false = true) by decide)] at H; exact H
                  clear H
                  have H := H1
                  clear H1
                  have H' := Aside0.mk H
                  clear H
                  go_wp2_with (first | (go_at_call 40; (with_reducible refine (assessorref11_isInt.calls kj8 a0 a2 true _ A26.out).mono ?_); rintro e w' ⟨rfl, ⟨nd, rfl⟩⟩) | (go_at_call 40; (with_reducible refine (assessorref11_isInt.calls kj8 a0 a3 false _ A28.out).mono ?_); rintro e w' ⟨rfl, ⟨nd, rfl⟩⟩))
                  go_meet
                  case rel => exact ⟨_, (!false), (by first | rfl | (simp; done) | (simp [*]; done)), H', ⟨by have := HJ8.out; first | omega | exact Nat.le_refl _⟩, ⟨by repeat (first | (with_reducible first | exact HB.out | apply below_alloc | apply pw_below_drewN | apply below_drew1) | exact HB.out)⟩⟩
              · replace c27 := Bool.eq_false_iff.mpr c27
                subst c27
                have H1 : (assessorref11_Binary.j1 kj8 a0 a1 a2 a3 true) = some (r1, r2, r3) := by rw [if_neg (show ¬ (false = true) by decide)] at H; exact H
                clear H
                have H := H1
                clear H1
                have H' := Aside0.mk H
                clear H
                go_wp2_with (first | (go_at_call 40; (with_reducible refine (assessorref11_isInt.calls kj8 a0 a2 false _ A26.out).mono ?_); rintro e w' ⟨rfl, ⟨nd, rfl⟩⟩))
                go_meet
                case rel => exact ⟨_, (true), (by first | rfl | (simp; done) | (simp [*]; done)), H', ⟨by have := HJ8.out; first | omega | exact Nat.le_refl _⟩, ⟨by repeat (first | (with_reducible first | exact HB.out | apply below_alloc | apply pw_below_drewN | apply below_drew1) | exact HB.out)⟩⟩
          case rest =>
            clear HC14
            try clear c1
            try clear c2
            try clear p2
            try clear c3
            try clear c6
            try clear c8
            try clear c13
            try clear c13b0
            try clear c13b1
            try clear c15
            try clear c17
            try clear c19
            try clear c21
            try clear c23
            try clear c25
            try clear c27
            try clear c29
            try clear p2
            obtain ⟨kq, x56_13, rfl, HA, HJ13, HB⟩ := hcut
            cases kq with
            | zero => exact absurd HA.out (by simp [assessorref11_Binary.j1])
            | succ kj13 =>
              have H := HA.out
              clear HA
              simp only [assessorref11_Binary.j1] at H
              by_cases c30 : x56_13 = true
              · subst c30
                have H1 : (some (0, 0, 2)) = some (r1, r2, r3) := by rw [if_pos rfl] at H; exact H
                clear H
                have H := H1
                clear H1
                simp only [Option.some.injEq, Prod.mk.injEq] at H
                obtain ⟨rfl, rfl, rfl⟩ := H
                go_wp2
                go_ret3
                exact ⟨by first | rfl | (simp [errW_none, errW_some] <;> rfl) | (simp [*, errW_none, errW_some] <;> rfl), by repeat (first | (with_reducible first | exact HB.out | apply below_alloc | apply pw_below_drewN | apply below_drew1) | exact HB.out)⟩
              · replace c30 := Bool.eq_false_iff.mpr c30
                subst c30
                have H1 : (if a1.toList = ([47] : List UInt8) then (assessorref11_Binary.j2 kj13 a0 a1 a2 a3 (a3 == 0)) else (if a1.toList = ([37] : List UInt8) then (assessorref11_Binary.j2 kj13 a0 a1 a2 a3 (a3 == 0)) else (assessorref11_Binary.j2 kj13 a0 a1 a2 a3 false))) = some (r1, r2, r3) := by rw [if_neg (show ¬ (false = true) by decide)] at H; exact H
                clear H
                have H := H1
                clear H1
                have HC31 := Aside0.mk H
                clear H
                go_upto_region 8 with (fail)
                go_cut [66] (fun v66 wc => ∃ (kq : Nat) (x66_30 : Bool), v66 = .bool x66_30 ∧ Aside0 (assessorref11_Binary.j2 kq a0 a1 a2 a3 x66_30 = some (r1, r2, r3)) ∧ Aside0 (kq ≤ kj13) ∧ Aside0 (Below w.heap.size w wc))
                case first =>
                  have H := HC31.out
                  clear HC31
                  by_cases c32 : a1.toList = ([47] : List UInt8)
                  · rw [if_pos c32] at H
                    have c32b0 : (a1.toList == ([47] : List UInt8)) = true := beq_iff_eq.mpr c32
                    have c32b1 : (a1.toList != ([47] : List UInt8)) = false := bne_eq_false_iff_eq.mpr c32
                    clear c32
                    (first | rw [c32b0] | (simp only [i64_w, i32_w]; rw [c32b0]) | skip)
                    have H' := Aside0.mk H
                    clear H
                    go_wp2
                    go_meet
                    case rel => exact ⟨_, ((a3 == 0)), (by first | rfl | (simp; done) | (simp [*]; done)), H', ⟨by have := HJ8.out; have := HJ13.out; first | omega | exact Nat.le_refl _⟩, ⟨by repeat (first | (with_reducible first | exact HB.out | apply below_alloc | apply pw_below_drewN | apply below_drew1) | exact HB.out)⟩⟩
                  · rw [if_neg c32] at H
                    have c32b0 : (a1.toList == ([47] : List UInt8)) = false := beq_eq_false_iff_ne.mpr c32
                    have c32b1 : (a1.toList != ([47] : List UInt8)) = true := bne_iff_ne.mpr c32
                    (first | rw [c32b0] | (simp only [i64_w, i32_w]; rw [c32b0]) | skip)
                    by_cases c33 : a1.toList = ([37] : List UInt8)
                    · rw [if_pos c33] at H
                      have c33b0 : (a1.toList == ([37] : List UInt8)) = true := beq_iff_eq.mpr c33
                      have c33b1 : (a1.toList != ([37] : List UInt8)) = false := bne_eq_false_iff_eq.mpr c33
                      clear c33
                      have H' := Aside0.mk H
                      clear H
                      go_wp2
                      go_meet
                      case rel => exact ⟨_, ((a3 == 0)), (by first | rfl | (simp; done) | (simp [*]; done)), H', ⟨by have := HJ8.out; have := HJ13.out; first | omega | exact Nat.le_refl _⟩, ⟨by repeat (first | (with_reducible first | exact HB.out | apply below_alloc | apply pw_below_drewN | apply below_drew1) | exact HB.out)⟩⟩
                    · rw [if_neg c33] at H
                      have c33b0 : (a1.toList == ([37] : List UInt8)) = false := beq_eq_false_iff_ne.mpr c33
                      have c33b1 : (a1.toList != ([37] : List UInt8)) = true := bne_iff_ne.mpr c33
                      have H' := Aside0.mk H
                      clear H
                      go_wp2
                      go_meet
                      case rel => exact ⟨_, (false), (by first | rfl | (simp; done) | (simp [*]; done)), H', ⟨by have := HJ8.out; have := HJ13.out; first | omega | exact Nat.le_refl _⟩, ⟨by repeat (first | (with_reducible first | exact HB.out | apply below_alloc | apply pw_below_drewN | apply below_drew1) | exact HB.out)⟩⟩
                case rest =>
                  clear HC31
                  try clear c1
                  try clear c2
                  try clear p2
                  try clear c3
                  try clear c6
                  try clear c8
                  try clear c13
                  try clear c13b0
                  try clear c13b1
                  try clear c15
                  try clear c17
                  try clear c19
                  try clear c21
                  try clear c23
                  try clear c25
                  try clear c27
                  try clear c29
                  try clear c30
                  try clear c32
                  try clear c32b0
                  try clear c32b1
                  try clear c33
                  try clear c33b0
                  try clear c33b1
                  try clear p2
                  obtain ⟨kq, x66_30, rfl, HA, HJ30, HB⟩ := hcut
                  cases kq with
                  | zero => exact absurd HA.out (by simp [assessorref11_Binary.j2])
                  | succ kj30 =>
                    have H := HA.out
                    clear HA
                    simp only [assessorref11_Binary.j2] at H
                    by_cases c34 : x66_30 = true
                    · subst c34
                      have H1 : (some (0, 1, 0)) = some (r1, r2, r3) := by rw [if_pos rfl] at H; exact H
                      clear H
                      have H := H1
                      clear H1
                      simp only [Option.some.injEq, Prod.mk.injEq] at H
                      obtain ⟨rfl, rfl, rfl⟩ := H
                      go_wp2
                      go_ret3
                      exact ⟨by first | rfl | (simp [errW_none, errW_some] <;> rfl) | (simp [*, errW_none, errW_some] <;> rfl), by repeat (first | (with_reducible first | exact HB.out | apply below_alloc | apply pw_below_drewN | apply below_drew1) | exact HB.out)⟩
                    · replace c34 := Bool.eq_false_iff.mpr c34
                      subst c34
                      have H1 : (if a1.toList = ([43] : List UInt8) then ((assessorref11_Wrap.f kj30 a0 (wrap64 (a2 + a3))).bind fun t207 => (some (t207, 0, 0))) else (if a1.toList = ([45] : List UInt8) then ((assessorref11_Wrap.f kj30 a0 (wrap64 (a2 - a3))).bind fun t208 => (some (t208, 0, 0))) else (if a1.toList = ([42] : List UInt8) then ((assessorref11_Wrap.f kj30 a0 (wrap64 (a2 * a3))).bind fun t209 => (some (t209, 0, 0))) else (if a1.toList = ([47] : List UInt8) then (if a3 = 0 then (none) else ((assessorref11_Wrap.f kj30 a0 (wrap64 (Int.tdiv a2 a3))).bind fun t210 => (some (t210, 0, 0)))) else (if a1.toList = ([37] : List UInt8) then (if a3 = 0 then (none) else (some (Int.tmod a2 a3, 0, 0))) else (if a1.toList = ([61, 61] : List UInt8) then ((assessorref11_bit.f (a2 == a3)).bind fun t211 => (some (t211, 0, 0))) else (if a1.toList = ([33, 61] : List UInt8) then ((assessorref11_bit.f (a2 != a3)).bind fun t212 => (some (t212, 0, 0))) else (if a1.toList = ([60] : List UInt8) then ((assessorref11_bit.f (decide (a2 < a3))).bind fun t213 => (some (t213, 0, 0))) else (if a1.toList = ([60, 61] : List UInt8) then ((assessorref11_bit.f (decide (a2 ≤ a3))).bind fun t214 => (some (t214, 0, 0))) else (if a1.toList = ([62] : List UInt8) then ((assessorref11_bit.f (decide (a2 > a3))).bind fun t215 => (some (t215, 0, 0))) else (if a1.toList = ([62, 61] : List UInt8) then ((assessorref11_bit.f (decide (a2 ≥ a3))).bind fun t216 => (some (t216, 0, 0))) else (if a1.toList = ([97, 110, 100] : List UInt8) then (some (mn a2 a3, 0, 0)) else (if a1.toList = ([111, 114] : List UInt8) then (some (mx a2 a3, 0, 0)) else (some (0, 0, 0))))))))))))))) = some (r1, r2, r3) := by rw [if_neg (show ¬ (false = true) by decide)] at H; exact H
                      clear H
                      have H := H1
                      clear H1
                      by_cases c35 : a1.toList = ([43] : List UInt8)
                      · rw [if_pos c35] at H
                        have c35b0 : (a1.toList == ([43] : List UInt8)) = true := beq_iff_eq.mpr c35
                        have c35b1 : (a1.toList != ([43] : List UInt8)) = false := bne_eq_false_iff_eq.mpr c35
                        clear c35
                        replace H := Option.bind_eq_some_iff.mp H
                        obtain ⟨t207, A360, H⟩ := H
                        replace H : (some (t207, 0, 0)) = some (r1, r2, r3) := H
                        have A36 := Aside0.mk A360
                        clear A360
                        simp only [Option.some.injEq, Prod.mk.injEq] at H
                        obtain ⟨rfl, rfl, rfl⟩ := H
                        go_wp2_with (first | ((with_reducible refine gate_callee (f := 18) rfl ?_); refine goesL_ (some 74) rfl rfl Try.func18 (by kernel_rfl) rfl #[.int .i64 a0, .int .i64 (wrap64 (a2 + a3))] rfl (by (try simp only [List.map_toArray, List.map_cons, List.map_nil]); first | done | rfl | (simp only [List.length_drop, List.length_take]; rfl)) ?_; (with_reducible refine (assessorref11_Wrap.calls kj30 a0 (wrap64 (a2 + a3)) t207 _ A36.out).mono ?_); rintro e w' ⟨rfl, ⟨nd, rfl⟩⟩; refine ⟨_, rfl, ?_⟩))
                        go_ret3
                        exact ⟨by first | rfl | (simp [errW_none, errW_some] <;> rfl) | (simp [*, errW_none, errW_some] <;> rfl), by repeat (first | (with_reducible first | exact HB.out | apply below_alloc | apply pw_below_drewN | apply below_drew1) | exact HB.out)⟩
                      · rw [if_neg c35] at H
                        have c35b0 : (a1.toList == ([43] : List UInt8)) = false := beq_eq_false_iff_ne.mpr c35
                        have c35b1 : (a1.toList != ([43] : List UInt8)) = true := bne_iff_ne.mpr c35
                        by_cases c37 : a1.toList = ([45] : List UInt8)
                        · rw [if_pos c37] at H
                          have c37b0 : (a1.toList == ([45] : List UInt8)) = true := beq_iff_eq.mpr c37
                          have c37b1 : (a1.toList != ([45] : List UInt8)) = false := bne_eq_false_iff_eq.mpr c37
                          clear c37
                          replace H := Option.bind_eq_some_iff.mp H
                          obtain ⟨t208, A380, H⟩ := H
                          replace H : (some (t208, 0, 0)) = some (r1, r2, r3) := H
                          have A38 := Aside0.mk A380
                          clear A380
                          simp only [Option.some.injEq, Prod.mk.injEq] at H
                          obtain ⟨rfl, rfl, rfl⟩ := H
                          go_wp2_with (first | ((with_reducible refine gate_callee (f := 18) rfl ?_); refine goesL_ (some 81) rfl rfl Try.func18 (by kernel_rfl) rfl #[.int .i64 a0, .int .i64 (wrap64 (a2 - a3))] rfl (by (try simp only [List.map_toArray, List.map_cons, List.map_nil]); first | done | rfl | (simp only [List.length_drop, List.length_take]; rfl)) ?_; (with_reducible refine (assessorref11_Wrap.calls kj30 a0 (wrap64 (a2 - a3)) t208 _ A38.out).mono ?_); rintro e w' ⟨rfl, ⟨nd, rfl⟩⟩; refine ⟨_, rfl, ?_⟩))
                          go_ret3
                          exact ⟨by first | rfl | (simp [errW_none, errW_some] <;> rfl) | (simp [*, errW_none, errW_some] <;> rfl), by repeat (first | (with_reducible first | exact HB.out | apply below_alloc | apply pw_below_drewN | apply below_drew1) | exact HB.out)⟩
                        · rw [if_neg c37] at H
                          have c37b0 : (a1.toList == ([45] : List UInt8)) = false := beq_eq_false_iff_ne.mpr c37
                          have c37b1 : (a1.toList != ([45] : List UInt8)) = true := bne_iff_ne.mpr c37
                          by_cases c39 : a1.toList = ([42] : List UInt8)
                          · rw [if_pos c39] at H
                            have c39b0 : (a1.toList == ([42] : List UInt8)) = true := beq_iff_eq.mpr c39
                            have c39b1 : (a1.toList != ([42] : List UInt8)) = false := bne_eq_false_iff_eq.mpr c39
                            clear c39
                            replace H := Option.bind_eq_some_iff.mp H
                            obtain ⟨t209, A400, H⟩ := H
                            replace H : (some (t209, 0, 0)) = some (r1, r2, r3) := H
                            have A40 := Aside0.mk A400
                            clear A400
                            simp only [Option.some.injEq, Prod.mk.injEq] at H
                            obtain ⟨rfl, rfl, rfl⟩ := H
                            go_wp2_with (first | ((with_reducible refine gate_callee (f := 18) rfl ?_); refine goesL_ (some 88) rfl rfl Try.func18 (by kernel_rfl) rfl #[.int .i64 a0, .int .i64 (wrap64 (a2 * a3))] rfl (by (try simp only [List.map_toArray, List.map_cons, List.map_nil]); first | done | rfl | (simp only [List.length_drop, List.length_take]; rfl)) ?_; (with_reducible refine (assessorref11_Wrap.calls kj30 a0 (wrap64 (a2 * a3)) t209 _ A40.out).mono ?_); rintro e w' ⟨rfl, ⟨nd, rfl⟩⟩; refine ⟨_, rfl, ?_⟩))
                            go_ret3
                            exact ⟨by first | rfl | (simp [errW_none, errW_some] <;> rfl) | (simp [*, errW_none, errW_some] <;> rfl), by repeat (first | (with_reducible first | exact HB.out | apply below_alloc | apply pw_below_drewN | apply below_drew1) | exact HB.out)⟩
                          · rw [if_neg c39] at H
                            have c39b0 : (a1.toList == ([42] : List UInt8)) = false := beq_eq_false_iff_ne.mpr c39
                            have c39b1 : (a1.toList != ([42] : List UInt8)) = true := bne_iff_ne.mpr c39
                            by_cases c41 : a1.toList = ([47] : List UInt8)
                            · rw [if_pos c41] at H
                              have c41b0 : (a1.toList == ([47] : List UInt8)) = true := beq_iff_eq.mpr c41
                              have c41b1 : (a1.toList != ([47] : List UInt8)) = false := bne_eq_false_iff_eq.mpr c41
                              clear c41
                              by_cases c42 : a3 = 0
                              · rw [if_pos c42] at H
                                exact absurd H (by simp)
                              · rw [if_neg c42] at H
                                have c42b0 : (a3 == 0) = false := beq_eq_false_iff_ne.mpr c42
                                have c42b1 : (a3 != 0) = true := bne_iff_ne.mpr c42
                                replace H := Option.bind_eq_some_iff.mp H
                                obtain ⟨t210, A430, H⟩ := H
                                replace H : (some (t210, 0, 0)) = some (r1, r2, r3) := H
                                have A43 := Aside0.mk A430
                                clear A430
                                simp only [Option.some.injEq, Prod.mk.injEq] at H
                                obtain ⟨rfl, rfl, rfl⟩ := H
                                go_wp2_with (first | ((with_reducible refine gate_callee (f := 18) rfl ?_); refine goesL_ (some 95) rfl rfl Try.func18 (by kernel_rfl) rfl #[.int .i64 a0, .int .i64 (wrap64 (Int.tdiv a2 a3))] rfl (by (try simp only [List.map_toArray, List.map_cons, List.map_nil]); first | done | rfl | (simp only [List.length_drop, List.length_take]; rfl)) ?_; (with_reducible refine (assessorref11_Wrap.calls kj30 a0 (wrap64 (Int.tdiv a2 a3)) t210 _ A43.out).mono ?_); rintro e w' ⟨rfl, ⟨nd, rfl⟩⟩; refine ⟨_, rfl, ?_⟩))
                                go_ret3
                                exact ⟨by first | rfl | (simp [errW_none, errW_some] <;> rfl) | (simp [*, errW_none, errW_some] <;> rfl), by repeat (first | (with_reducible first | exact HB.out | apply below_alloc | apply pw_below_drewN | apply below_drew1) | exact HB.out)⟩
                            · rw [if_neg c41] at H
                              have c41b0 : (a1.toList == ([47] : List UInt8)) = false := beq_eq_false_iff_ne.mpr c41
                              have c41b1 : (a1.toList != ([47] : List UInt8)) = true := bne_iff_ne.mpr c41
                              by_cases c44 : a1.toList = ([37] : List UInt8)
                              · rw [if_pos c44] at H
                                have c44b0 : (a1.toList == ([37] : List UInt8)) = true := beq_iff_eq.mpr c44
                                have c44b1 : (a1.toList != ([37] : List UInt8)) = false := bne_eq_false_iff_eq.mpr c44
                                clear c44
                                by_cases c45 : a3 = 0
                                · rw [if_pos c45] at H
                                  exact absurd H (by simp)
                                · rw [if_neg c45] at H
                                  have c45b0 : (a3 == 0) = false := beq_eq_false_iff_ne.mpr c45
                                  have c45b1 : (a3 != 0) = true := bne_iff_ne.mpr c45
                                  simp only [Option.some.injEq, Prod.mk.injEq] at H
                                  obtain ⟨rfl, rfl, rfl⟩ := H
                                  go_wp2
                                  go_ret3
                                  exact ⟨by first | rfl | (simp [errW_none, errW_some] <;> rfl) | (simp [*, errW_none, errW_some] <;> rfl), by repeat (first | (with_reducible first | exact HB.out | apply below_alloc | apply pw_below_drewN | apply below_drew1) | exact HB.out)⟩
                              · rw [if_neg c44] at H
                                have c44b0 : (a1.toList == ([37] : List UInt8)) = false := beq_eq_false_iff_ne.mpr c44
                                have c44b1 : (a1.toList != ([37] : List UInt8)) = true := bne_iff_ne.mpr c44
                                by_cases c46 : a1.toList = ([61, 61] : List UInt8)
                                · rw [if_pos c46] at H
                                  have c46b0 : (a1.toList == ([61, 61] : List UInt8)) = true := beq_iff_eq.mpr c46
                                  have c46b1 : (a1.toList != ([61, 61] : List UInt8)) = false := bne_eq_false_iff_eq.mpr c46
                                  clear c46
                                  replace H := Option.bind_eq_some_iff.mp H
                                  obtain ⟨t211, A470, H⟩ := H
                                  replace H : (some (t211, 0, 0)) = some (r1, r2, r3) := H
                                  have A47 := Aside0.mk A470
                                  clear A470
                                  simp only [Option.some.injEq, Prod.mk.injEq] at H
                                  obtain ⟨rfl, rfl, rfl⟩ := H
                                  go_wp2_with (first | ((with_reducible refine gate_callee (f := 41) rfl ?_); refine goesL_ (some 106) rfl rfl Try.func41 (by kernel_rfl) rfl #[.bool (a2 == a3)] rfl (by (try simp only [List.map_toArray, List.map_cons, List.map_nil]); first | done | rfl | (simp only [List.length_drop, List.length_take]; rfl)) ?_; (with_reducible refine (assessorref11_bit.calls (a2 == a3) t211 _ A47.out).mono ?_); rintro e w' ⟨rfl, ⟨nd, rfl⟩⟩; refine ⟨_, rfl, ?_⟩))
                                  go_ret3
                                  exact ⟨by first | rfl | (simp [errW_none, errW_some] <;> rfl) | (simp [*, errW_none, errW_some] <;> rfl), by repeat (first | (with_reducible first | exact HB.out | apply below_alloc | apply pw_below_drewN | apply below_drew1) | exact HB.out)⟩
                                · rw [if_neg c46] at H
                                  have c46b0 : (a1.toList == ([61, 61] : List UInt8)) = false := beq_eq_false_iff_ne.mpr c46
                                  have c46b1 : (a1.toList != ([61, 61] : List UInt8)) = true := bne_iff_ne.mpr c46
                                  by_cases c48 : a1.toList = ([33, 61] : List UInt8)
                                  · rw [if_pos c48] at H
                                    have c48b0 : (a1.toList == ([33, 61] : List UInt8)) = true := beq_iff_eq.mpr c48
                                    have c48b1 : (a1.toList != ([33, 61] : List UInt8)) = false := bne_eq_false_iff_eq.mpr c48
                                    clear c48
                                    replace H := Option.bind_eq_some_iff.mp H
                                    obtain ⟨t212, A490, H⟩ := H
                                    replace H : (some (t212, 0, 0)) = some (r1, r2, r3) := H
                                    have A49 := Aside0.mk A490
                                    clear A490
                                    simp only [Option.some.injEq, Prod.mk.injEq] at H
                                    obtain ⟨rfl, rfl, rfl⟩ := H
                                    go_wp2_with (first | ((with_reducible refine gate_callee (f := 41) rfl ?_); refine goesL_ (some 112) rfl rfl Try.func41 (by kernel_rfl) rfl #[.bool (a2 != a3)] rfl (by (try simp only [List.map_toArray, List.map_cons, List.map_nil]); first | done | rfl | (simp only [List.length_drop, List.length_take]; rfl)) ?_; (with_reducible refine (assessorref11_bit.calls (a2 != a3) t212 _ A49.out).mono ?_); rintro e w' ⟨rfl, ⟨nd, rfl⟩⟩; refine ⟨_, rfl, ?_⟩))
                                    go_ret3
                                    exact ⟨by first | rfl | (simp [errW_none, errW_some] <;> rfl) | (simp [*, errW_none, errW_some] <;> rfl), by repeat (first | (with_reducible first | exact HB.out | apply below_alloc | apply pw_below_drewN | apply below_drew1) | exact HB.out)⟩
                                  · rw [if_neg c48] at H
                                    have c48b0 : (a1.toList == ([33, 61] : List UInt8)) = false := beq_eq_false_iff_ne.mpr c48
                                    have c48b1 : (a1.toList != ([33, 61] : List UInt8)) = true := bne_iff_ne.mpr c48
                                    by_cases c50 : a1.toList = ([60] : List UInt8)
                                    · rw [if_pos c50] at H
                                      have c50b0 : (a1.toList == ([60] : List UInt8)) = true := beq_iff_eq.mpr c50
                                      have c50b1 : (a1.toList != ([60] : List UInt8)) = false := bne_eq_false_iff_eq.mpr c50
                                      clear c50
                                      replace H := Option.bind_eq_some_iff.mp H
                                      obtain ⟨t213, A510, H⟩ := H
                                      replace H : (some (t213, 0, 0)) = some (r1, r2, r3) := H
                                      have A51 := Aside0.mk A510
                                      clear A510
                                      simp only [Option.some.injEq, Prod.mk.injEq] at H
                                      obtain ⟨rfl, rfl, rfl⟩ := H
                                      go_wp2_with (first | ((with_reducible refine gate_callee (f := 41) rfl ?_); refine goesL_ (some 118) rfl rfl Try.func41 (by kernel_rfl) rfl #[.bool (decide (a2 < a3))] rfl (by (try simp only [List.map_toArray, List.map_cons, List.map_nil]); first | done | rfl | (simp only [List.length_drop, List.length_take]; rfl)) ?_; (with_reducible refine (assessorref11_bit.calls (decide (a2 < a3)) t213 _ A51.out).mono ?_); rintro e w' ⟨rfl, ⟨nd, rfl⟩⟩; refine ⟨_, rfl, ?_⟩))
                                      go_ret3
                                      exact ⟨by first | rfl | (simp [errW_none, errW_some] <;> rfl) | (simp [*, errW_none, errW_some] <;> rfl), by repeat (first | (with_reducible first | exact HB.out | apply below_alloc | apply pw_below_drewN | apply below_drew1) | exact HB.out)⟩
                                    · rw [if_neg c50] at H
                                      have c50b0 : (a1.toList == ([60] : List UInt8)) = false := beq_eq_false_iff_ne.mpr c50
                                      have c50b1 : (a1.toList != ([60] : List UInt8)) = true := bne_iff_ne.mpr c50
                                      by_cases c52 : a1.toList = ([60, 61] : List UInt8)
                                      · rw [if_pos c52] at H
                                        have c52b0 : (a1.toList == ([60, 61] : List UInt8)) = true := beq_iff_eq.mpr c52
                                        have c52b1 : (a1.toList != ([60, 61] : List UInt8)) = false := bne_eq_false_iff_eq.mpr c52
                                        clear c52
                                        replace H := Option.bind_eq_some_iff.mp H
                                        obtain ⟨t214, A530, H⟩ := H
                                        replace H : (some (t214, 0, 0)) = some (r1, r2, r3) := H
                                        have A53 := Aside0.mk A530
                                        clear A530
                                        simp only [Option.some.injEq, Prod.mk.injEq] at H
                                        obtain ⟨rfl, rfl, rfl⟩ := H
                                        go_wp2_with (first | ((with_reducible refine gate_callee (f := 41) rfl ?_); refine goesL_ (some 124) rfl rfl Try.func41 (by kernel_rfl) rfl #[.bool (decide (a2 ≤ a3))] rfl (by (try simp only [List.map_toArray, List.map_cons, List.map_nil]); first | done | rfl | (simp only [List.length_drop, List.length_take]; rfl)) ?_; (with_reducible refine (assessorref11_bit.calls (decide (a2 ≤ a3)) t214 _ A53.out).mono ?_); rintro e w' ⟨rfl, ⟨nd, rfl⟩⟩; refine ⟨_, rfl, ?_⟩))
                                        go_ret3
                                        exact ⟨by first | rfl | (simp [errW_none, errW_some] <;> rfl) | (simp [*, errW_none, errW_some] <;> rfl), by repeat (first | (with_reducible first | exact HB.out | apply below_alloc | apply pw_below_drewN | apply below_drew1) | exact HB.out)⟩
                                      · rw [if_neg c52] at H
                                        have c52b0 : (a1.toList == ([60, 61] : List UInt8)) = false := beq_eq_false_iff_ne.mpr c52
                                        have c52b1 : (a1.toList != ([60, 61] : List UInt8)) = true := bne_iff_ne.mpr c52
                                        by_cases c54 : a1.toList = ([62] : List UInt8)
                                        · rw [if_pos c54] at H
                                          have c54b0 : (a1.toList == ([62] : List UInt8)) = true := beq_iff_eq.mpr c54
                                          have c54b1 : (a1.toList != ([62] : List UInt8)) = false := bne_eq_false_iff_eq.mpr c54
                                          clear c54
                                          replace H := Option.bind_eq_some_iff.mp H
                                          obtain ⟨t215, A550, H⟩ := H
                                          replace H : (some (t215, 0, 0)) = some (r1, r2, r3) := H
                                          have A55 := Aside0.mk A550
                                          clear A550
                                          simp only [Option.some.injEq, Prod.mk.injEq] at H
                                          obtain ⟨rfl, rfl, rfl⟩ := H
                                          go_wp2_with (first | ((with_reducible refine gate_callee (f := 41) rfl ?_); refine goesL_ (some 130) rfl rfl Try.func41 (by kernel_rfl) rfl #[.bool (decide (a2 > a3))] rfl (by (try simp only [List.map_toArray, List.map_cons, List.map_nil]); first | done | rfl | (simp only [List.length_drop, List.length_take]; rfl)) ?_; (with_reducible refine (assessorref11_bit.calls (decide (a2 > a3)) t215 _ A55.out).mono ?_); rintro e w' ⟨rfl, ⟨nd, rfl⟩⟩; refine ⟨_, rfl, ?_⟩))
                                          go_ret3
                                          exact ⟨by first | rfl | (simp [errW_none, errW_some] <;> rfl) | (simp [*, errW_none, errW_some] <;> rfl), by repeat (first | (with_reducible first | exact HB.out | apply below_alloc | apply pw_below_drewN | apply below_drew1) | exact HB.out)⟩
                                        · rw [if_neg c54] at H
                                          have c54b0 : (a1.toList == ([62] : List UInt8)) = false := beq_eq_false_iff_ne.mpr c54
                                          have c54b1 : (a1.toList != ([62] : List UInt8)) = true := bne_iff_ne.mpr c54
                                          by_cases c56 : a1.toList = ([62, 61] : List UInt8)
                                          · rw [if_pos c56] at H
                                            have c56b0 : (a1.toList == ([62, 61] : List UInt8)) = true := beq_iff_eq.mpr c56
                                            have c56b1 : (a1.toList != ([62, 61] : List UInt8)) = false := bne_eq_false_iff_eq.mpr c56
                                            clear c56
                                            replace H := Option.bind_eq_some_iff.mp H
                                            obtain ⟨t216, A570, H⟩ := H
                                            replace H : (some (t216, 0, 0)) = some (r1, r2, r3) := H
                                            have A57 := Aside0.mk A570
                                            clear A570
                                            simp only [Option.some.injEq, Prod.mk.injEq] at H
                                            obtain ⟨rfl, rfl, rfl⟩ := H
                                            go_wp2_with (first | ((with_reducible refine gate_callee (f := 41) rfl ?_); refine goesL_ (some 136) rfl rfl Try.func41 (by kernel_rfl) rfl #[.bool (decide (a2 ≥ a3))] rfl (by (try simp only [List.map_toArray, List.map_cons, List.map_nil]); first | done | rfl | (simp only [List.length_drop, List.length_take]; rfl)) ?_; (with_reducible refine (assessorref11_bit.calls (decide (a2 ≥ a3)) t216 _ A57.out).mono ?_); rintro e w' ⟨rfl, ⟨nd, rfl⟩⟩; refine ⟨_, rfl, ?_⟩))
                                            go_ret3
                                            exact ⟨by first | rfl | (simp [errW_none, errW_some] <;> rfl) | (simp [*, errW_none, errW_some] <;> rfl), by repeat (first | (with_reducible first | exact HB.out | apply below_alloc | apply pw_below_drewN | apply below_drew1) | exact HB.out)⟩
                                          · rw [if_neg c56] at H
                                            have c56b0 : (a1.toList == ([62, 61] : List UInt8)) = false := beq_eq_false_iff_ne.mpr c56
                                            have c56b1 : (a1.toList != ([62, 61] : List UInt8)) = true := bne_iff_ne.mpr c56
                                            by_cases c58 : a1.toList = ([97, 110, 100] : List UInt8)
                                            · rw [if_pos c58] at H
                                              have c58b0 : (a1.toList == ([97, 110, 100] : List UInt8)) = true := beq_iff_eq.mpr c58
                                              have c58b1 : (a1.toList != ([97, 110, 100] : List UInt8)) = false := bne_eq_false_iff_eq.mpr c58
                                              clear c58
                                              obtain ⟨ji59, hji59⟩ : ∃ j_ : Int, (mn a2 a3) = j_ := ⟨_, rfl⟩
                                              replace H : (some (ji59, 0, 0)) = some (r1, r2, r3) := by first | (rw [hji59] at H; exact H) | (simp only [hji59] at H ⊢; exact H)
                                              have hji59_ : (if a3 < a2 then a3 else a2) = ji59 := hji59
                                              simp only [Option.some.injEq, Prod.mk.injEq] at H
                                              obtain ⟨rfl, rfl, rfl⟩ := H
                                              go_wp2
                                              go_ret3
                                              exact ⟨by first | rfl | (simp [errW_none, errW_some] <;> rfl) | (simp only [← hji59]; first | rfl | (simp [errW_none, errW_some] <;> rfl)) | (simp [*, errW_none, errW_some] <;> rfl), by repeat (first | (with_reducible first | exact HB.out | apply below_alloc | apply pw_below_drewN | apply below_drew1) | exact HB.out)⟩
                                            · rw [if_neg c58] at H
                                              have c58b0 : (a1.toList == ([97, 110, 100] : List UInt8)) = false := beq_eq_false_iff_ne.mpr c58
                                              have c58b1 : (a1.toList != ([97, 110, 100] : List UInt8)) = true := bne_iff_ne.mpr c58
                                              by_cases c60 : a1.toList = ([111, 114] : List UInt8)
                                              · rw [if_pos c60] at H
                                                have c60b0 : (a1.toList == ([111, 114] : List UInt8)) = true := beq_iff_eq.mpr c60
                                                have c60b1 : (a1.toList != ([111, 114] : List UInt8)) = false := bne_eq_false_iff_eq.mpr c60
                                                clear c60
                                                obtain ⟨ji61, hji61⟩ : ∃ j_ : Int, (mx a2 a3) = j_ := ⟨_, rfl⟩
                                                replace H : (some (ji61, 0, 0)) = some (r1, r2, r3) := by first | (rw [hji61] at H; exact H) | (simp only [hji61] at H ⊢; exact H)
                                                have hji61_ : (if a2 < a3 then a3 else a2) = ji61 := hji61
                                                simp only [Option.some.injEq, Prod.mk.injEq] at H
                                                obtain ⟨rfl, rfl, rfl⟩ := H
                                                go_wp2
                                                go_ret3
                                                exact ⟨by first | rfl | (simp [errW_none, errW_some] <;> rfl) | (simp only [← hji61]; first | rfl | (simp [errW_none, errW_some] <;> rfl)) | (simp [*, errW_none, errW_some] <;> rfl), by repeat (first | (with_reducible first | exact HB.out | apply below_alloc | apply pw_below_drewN | apply below_drew1) | exact HB.out)⟩
                                              · rw [if_neg c60] at H
                                                have c60b0 : (a1.toList == ([111, 114] : List UInt8)) = false := beq_eq_false_iff_ne.mpr c60
                                                have c60b1 : (a1.toList != ([111, 114] : List UInt8)) = true := bne_iff_ne.mpr c60
                                                simp only [Option.some.injEq, Prod.mk.injEq] at H
                                                obtain ⟨rfl, rfl, rfl⟩ := H
                                                go_wp2
                                                go_ret3
                                                exact ⟨by first | rfl | (simp [errW_none, errW_some] <;> rfl) | (simp [*, errW_none, errW_some] <;> rfl), by repeat (first | (with_reducible first | exact HB.out | apply below_alloc | apply pw_below_drewN | apply below_drew1) | exact HB.out)⟩
    · replace c8 := Bool.eq_false_iff.mpr c8
      subst c8
      have H1 : (some (0, 0, 1)) = some (r1, r2, r3) := by rw [if_neg (show ¬ (false = true) by decide)] at H; exact H
      clear H
      have H := H1
      clear H1
      simp only [Option.some.injEq, Prod.mk.injEq] at H
      obtain ⟨rfl, rfl, rfl⟩ := H
      go_enter Try.func15, Try.ntmps15
      go_wp2_with (first | ((with_reducible refine gate_callee (f := 37) rfl ?_); refine goesL_ (some 14) rfl rfl Try.func37 (by kernel_rfl) rfl #[.int .i64 a0] rfl (by (try simp only [List.map_toArray, List.map_cons, List.map_nil]); first | done | rfl | (simp only [List.length_drop, List.length_take]; rfl)) ?_; (with_reducible refine (assessorref11_Width.calls a0 true _ A5.out).mono ?_); rintro e w' ⟨rfl, ⟨nd, rfl⟩⟩; refine ⟨_, rfl, ?_⟩) | ((with_reducible refine gate_dst (N := 16) rfl ?_); refine Kd.R_lit Kd.string _ 9 ?hg (N := 16) ?hd (xs := ([(⟨#[43]⟩ : ByteArray), (⟨#[45]⟩ : ByteArray), (⟨#[42]⟩ : ByteArray), (⟨#[47]⟩ : ByteArray), (⟨#[37]⟩ : ByteArray), (⟨#[61, 61]⟩ : ByteArray), (⟨#[33, 61]⟩ : ByteArray), (⟨#[60]⟩ : ByteArray), (⟨#[60, 61]⟩ : ByteArray), (⟨#[62]⟩ : ByteArray), (⟨#[62, 61]⟩ : ByteArray), (⟨#[97, 110, 100]⟩ : ByteArray), (⟨#[111, 114]⟩ : ByteArray)] : List ByteArray)) (inner := [.string (⟨#[43]⟩ : ByteArray), .string (⟨#[45]⟩ : ByteArray), .string (⟨#[42]⟩ : ByteArray), .string (⟨#[47]⟩ : ByteArray), .string (⟨#[37]⟩ : ByteArray), .string (⟨#[61, 61]⟩ : ByteArray), .string (⟨#[33, 61]⟩ : ByteArray), .string (⟨#[60]⟩ : ByteArray), .string (⟨#[60, 61]⟩ : ByteArray), .string (⟨#[62]⟩ : ByteArray), .string (⟨#[62, 61]⟩ : ByteArray), .string (⟨#[97, 110, 100]⟩ : ByteArray), .string (⟨#[111, 114]⟩ : ByteArray)]) (ok := fun _ => True) (okp := fun _ => True) ?hr ?hp (fun _ hk => hk) trivial (Below.refl _ _) (Nat.le_refl _) (by simp) ?_; (case hd => rfl); (case hg => rfl); (case hr => first | (go_simp; done) | (go_simp; rfl)); (case hp => exact (Reps.one (show Kd.M Kd.string _ _ _ (⟨#[43]⟩ : ByteArray) [.string (⟨#[43]⟩ : ByteArray)] from rfl) (Reps.one (show Kd.M Kd.string _ _ _ (⟨#[45]⟩ : ByteArray) [.string (⟨#[45]⟩ : ByteArray)] from rfl) (Reps.one (show Kd.M Kd.string _ _ _ (⟨#[42]⟩ : ByteArray) [.string (⟨#[42]⟩ : ByteArray)] from rfl) (Reps.one (show Kd.M Kd.string _ _ _ (⟨#[47]⟩ : ByteArray) [.string (⟨#[47]⟩ : ByteArray)] from rfl) (Reps.one (show Kd.M Kd.string _ _ _ (⟨#[37]⟩ : ByteArray) [.string (⟨#[37]⟩ : ByteArray)] from rfl) (Reps.one (show Kd.M Kd.string _ _ _ (⟨#[61, 61]⟩ : ByteArray) [.string (⟨#[61, 61]⟩ : ByteArray)] from rfl) (Reps.one (show Kd.M Kd.string _ _ _ (⟨#[33, 61]⟩ : ByteArray) [.string (⟨#[33, 61]⟩ : ByteArray)] from rfl) (Reps.one (show Kd.M Kd.string _ _ _ (⟨#[60]⟩ : ByteArray) [.string (⟨#[60]⟩ : ByteArray)] from rfl) (Reps.one (show Kd.M Kd.string _ _ _ (⟨#[60, 61]⟩ : ByteArray) [.string (⟨#[60, 61]⟩ : ByteArray)] from rfl) (Reps.one (show Kd.M Kd.string _ _ _ (⟨#[62]⟩ : ByteArray) [.string (⟨#[62]⟩ : ByteArray)] from rfl) (Reps.one (show Kd.M Kd.string _ _ _ (⟨#[62, 61]⟩ : ByteArray) [.string (⟨#[62, 61]⟩ : ByteArray)] from rfl) (Reps.one (show Kd.M Kd.string _ _ _ (⟨#[97, 110, 100]⟩ : ByteArray) [.string (⟨#[97, 110, 100]⟩ : ByteArray)] from rfl) (Reps.one (show Kd.M Kd.string _ _ _ (⟨#[111, 114]⟩ : ByteArray) [.string (⟨#[111, 114]⟩ : ByteArray)] from rfl) (Reps.none _ _))))))))))))))); intro v197 w62 ho63 hb hg_ hnew_; clear hg_ hnew_; (first | rw [← Ny196.out] at ho63 | (simp only [Int.reduceToNat] at ho63; rw [← Ny196.out] at ho63)); have n0_ := Aside0.mk (Kd.R_lower ho63 (below_size (by repeat (first | (with_reducible first | exact HB.out | apply below_alloc | apply pw_below_drewN | apply below_drew1) | exact HB.out)))); have n1_ := Aside0.mk (below_step (by repeat (first | (with_reducible first | exact HB.out | apply below_alloc | apply pw_below_drewN | apply below_drew1) | exact HB.out)) hb); clear HB; have HO198 := n0_; have HB := n1_; clear n0_ n1_; clear hb ho63; obtain ⟨Ao64, co64, eo64⟩ := Kd.R_slice HO198.out; subst eo64) | ((with_reducible refine gate_callee (f := 38) rfl ?_); refine goesL_ (some 18) rfl rfl Try.func38 (by kernel_rfl) rfl #[.slice Ao64 y196.length co64, .string a1] rfl (by (try simp only [List.map_toArray, List.map_cons, List.map_nil]); first | done | rfl | (simp only [List.length_drop, List.length_take]; rfl)) ?_; (with_reducible refine (assessorref02_Has.calls k _ _ y196 a1 false _ ?side1 ?side2 A7.out).mono ?_); (case side1 => repeat (first | exact (Kd.R_reads' HO198.out).2.2 | (with_reducible refine Kd.C_alloc ?_ _) | (with_reducible refine Kd.C_drewN ?_ _) | (with_reducible refine Kd.C_drew ?_))); (case side2 => exact (Kd.R_reads' HO198.out).2.1); rintro e w' ⟨rfl, ⟨nd, rfl⟩⟩; refine ⟨_, rfl, ?_⟩))
      go_ret3
      exact ⟨by first | rfl | (simp [errW_none, errW_some] <;> rfl) | (simp [*, errW_none, errW_some] <;> rfl), by repeat (first | (with_reducible first | exact HB.out | apply below_alloc | apply pw_below_drewN | apply below_drew1) | exact HB.out)⟩
  · replace c6 := Bool.eq_false_iff.mpr c6
    subst c6
    have H1 : (some (0, 0, 2)) = some (r1, r2, r3) := by rw [if_neg (show ¬ (false = true) by decide)] at H; exact H
    clear H
    have H := H1
    clear H1
    simp only [Option.some.injEq, Prod.mk.injEq] at H
    obtain ⟨rfl, rfl, rfl⟩ := H
    go_enter Try.func15, Try.ntmps15
    go_wp2_with (first | ((with_reducible refine gate_callee (f := 37) rfl ?_); refine goesL_ (some 14) rfl rfl Try.func37 (by kernel_rfl) rfl #[.int .i64 a0] rfl (by (try simp only [List.map_toArray, List.map_cons, List.map_nil]); first | done | rfl | (simp only [List.length_drop, List.length_take]; rfl)) ?_; (with_reducible refine (assessorref11_Width.calls a0 false _ A5.out).mono ?_); rintro e w' ⟨rfl, ⟨nd, rfl⟩⟩; refine ⟨_, rfl, ?_⟩))
    go_ret3
    exact ⟨by first | rfl | (simp [errW_none, errW_some] <;> rfl) | (simp [*, errW_none, errW_some] <;> rfl), by repeat (first | (with_reducible first | exact HB.out | apply below_alloc | apply pw_below_drewN | apply below_drew1) | exact HB.out)⟩

end Go.Proofs.Ytogknojocodhgaa.P
