-- Texts of this claim, put together and cut down to what is used (trim.py, a program of this session).
import Derived.Maps.Views
import Derived.Maps.OwnOps
import Derived.WalkKit
section
namespace Go.Proofs.Ytogknojocodhgaa.M
open Go Go.Maps
theorem wpList_insert_own {H : Type} {P : Program} (w : World) {ops : Array Oper} {rest : List Oper} {o : Oper} {a : Act} {Q : Exit → Act → World → Prop}
    (hg : o.guard = none) (m x v : Operand) (t : TypeId) (hop : o.op = Op.insert t m x v)
    (k e : TypeId) (K : Keyed P k) (ht : P.underlying t = some (.map k e)) (R : Value → Option (DataW H × List MemPlace)) (b n : Nat) (D : DataW H)
    (hm : a.eval m = .map (some b)) (hown : w.ownsMap P k R b n D) (hn : n < maxLen) (key val : Value) (kl : Lit) (hx : a.eval x = key) (hv : a.eval v = val) (hkey : keyOf P k key = some kl)
    (d : DataW H) (ps : List MemPlace) (hval : R val = some (d, ps))
    (hK : ∀ w', w'.ownsMap P k R b (n + 1) (D.put kl d) → w.grownBy w' (some b) → wpList P ops Q rest (a.put o.dst undef) w') :
    wpList P ops Q (o :: rest) a w := by
  refine wpList_plain hg fun K' hK' => ?_
  obtain ⟨w', hrun, r1, r2⟩ := hown.update K ht hn hkey hval
  unfold Oper.wp
  simp [execOp, hop, hm, hx, hv, hrun, Result.andThen]
  exact hK' _ _ (hK w' r1 r2)
theorem wpList_lookup_own_any {H : Type} {P : Program} (w : World) {ops : Array Oper} {rest : List Oper} {o : Oper} {a : Act} {Q : Exit → Act → World → Prop}
    (hg : o.guard = none) (m x : Operand) (t : TypeId) (hop : o.op = Op.lookup t m x false)
    (k e : TypeId) (K : Keyed P k) (ht : P.underlying t = some (.map k e)) (R : Value → Option (DataW H × List MemPlace)) (z : Value) (hz : (zeroValue e).run P w = .ok z w) (zd : DataW H) (zp : List MemPlace) (hzd : R z = some (zd, zp))
    (b n : Nat) (D : DataW H) (hm : a.eval m = .map (some b)) (hown : w.ownsMap P k R b n D) (key : Value) (kl : Lit) (hx : a.eval x = key) (hkey : keyOf P k key = some kl)
    (hK : ∀ v ps, R v = some (D.atKey kl zd, ps) → wpList P ops Q rest (a.put o.dst v) w) :
    wpList P ops Q (o :: rest) a w := by
  refine wpList_plain hg fun K' hK' => ?_
  obtain ⟨v, ps, hrun, hv⟩ := hown.lookup K ht hz hzd hkey
  unfold Oper.wp
  simp [execOp, hop, hm, hx, hrun, Result.andThen]
  exact hK' _ _ (hK v ps hv)
def putAll {H : Type} (l : List (List UInt8 × Lit)) (D : DataW H) : DataW H := l.foldl (fun D p => D.put (.string p.1) (.lit p.2)) D
def lastOf : List (List UInt8 × Lit) → List UInt8 → Lit → Lit
  | [], _, z => z
  | p :: r, s, z => lastOf r s (if p.1 = s then p.2 else z)
theorem isKey_string (s : List UInt8) : WideAt.IsKeyLit (.string s) := by simp [WideAt.IsKeyLit]
theorem atKey_putAll {H : Type} (s : List UInt8) (z : Lit) : ∀ (l : List (List UInt8 × Lit)) (D : DataW H) (y : Lit), IsMap D → D.atKey (.string s) (.lit z) = .lit y → (putAll l D).atKey (.string s) (.lit z) = .lit (lastOf l s y)
  | [], _, _, _, h => h
  | p :: r, D, y, hm, h => by
    refine atKey_putAll s z r (D.put (.string p.1) (.lit p.2)) _ (hm.put _ _) ?_
    by_cases e : p.1 = s
    · rw [if_pos e, e]
      exact atKey_put_same hm (isKey_string s) _ _
    · rw [if_neg e, atKey_put_other (by intro h2; apply e; injection h2 with h3; exact h3.symm)]
      exact h
theorem plainElem_bool_inv {H : Type} {P : Program} {e : TypeId} (he : P.underlying e = some .bool) {v : Value} {z : DataW H × List MemPlace} (h : plainElem P e v = some z) : ∃ a, v = .bool a ∧ z = (.lit (.bool a), []) := by
  unfold plainElem at h
  rw [he] at h
  split at h
  · cases h; exact ⟨_, rfl, rfl⟩
  · rename_i h1; cases h1
  · rename_i h1; cases h1
  · cases h
end Go.Proofs.Ytogknojocodhgaa.M
end
