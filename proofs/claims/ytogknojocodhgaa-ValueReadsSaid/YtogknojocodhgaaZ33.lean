-- Texts of this claim, put together and cut down to what is used (trim.py, a program of this session).
import Derived.Lib.Strings
import Derived.Test.YtogknojocodhgaaZ1
section
namespace Go.Proofs.Ytogknojocodhgaa.P
open Go.RowKit Go.Proofs.YtogknojocodhgaaW.PrintWords
theorem ev_ifp {α : Type} {c : Prop} [Decidable c] {A B : Nat → Option α} {r : α} (h : c) (e : Ev A r) : Ev (fun k => if c then A k else B k) r := Ev.congr (fun _ => if_pos h) e
theorem ev_ifn {α : Type} {c : Prop} [Decidable c] {A B : Nat → Option α} {r : α} (h : ¬ c) (e : Ev B r) : Ev (fun k => if c then A k else B k) r := Ev.congr (fun _ => if_neg h) e
theorem ev_bs {α β : Type} {a : α} {f : Nat → α → Option β} {r : β} (e : Ev (fun k => f k a) r) : Ev (fun k => (some a).bind (f k)) r := Ev.congr (fun _ => Option.bind_some _ _) e
theorem ev_some {α : Type} {a r : α} (h : a = r) : Ev (fun _ => some a) r := by subst h; exact Ev.now _
theorem w1 {i : Int} (h0 : 0 ≤ i) (h : i ≤ 4611686018427387904) : wrap64 (i + 1) = i + 1 := by unfold wrap64; omega
theorem w2 {i : Int} (h0 : 0 ≤ i) (h : i ≤ 4611686018427387904) : wrap64 (i + 2) = i + 2 := by unfold wrap64; omega
theorem wr {i : Int} (h0 : -4611686018427387904 ≤ i) (h : i ≤ 4611686018427387904) : wrap64 i = i := by unfold wrap64; omega
theorem data_ext {a b : ByteArray} (h : a.toList = b.toList) : a = b := by
  rw [Lib.toList_data, Lib.toList_data] at h
  cases a with | mk x => cases b with | mk y => simp at h; rw [h]
theorem data_ext' {a b : ByteArray} (h : a.data.toList = b.data.toList) : a = b := data_ext (by rw [Lib.toList_data, Lib.toList_data]; exact h)
theorem bt_nat (s : ByteArray) (i : Nat) (h : i < s.size) : bt s i = (s[i].toNat : Int) := by simp [bt, h]
end Go.Proofs.Ytogknojocodhgaa.P
end
