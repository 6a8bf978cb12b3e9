import Derived.Test.YtggcbcleocamlaaPx0
import Derived.Test.YtggcbcleocamlaaShelf
namespace Go.Proofs.Ytggcbcleocamlaa.P
open Go.RowKit Go.WideMaps Go.Proofs.YtggcbcleocamlaaW.PrintWords Go.Proofs.YtggcbcleocamlaaW.PrintLast Go.Proofs.YtggcbcleocamlaaW.PrintMore
set_option linter.unusedVariables false
set_option linter.unusedSimpArgs false

def strings_Count.f (a0 a1 : ByteArray) : Option Int := match a1 with
  | ⟨⟨[c]⟩⟩ => some (Lib.countByte a0.data.toList c)
  | _ => none
theorem strings_Count.calls (a0 a1 : ByteArray) (r : Int) (w : World) (h : strings_Count.f a0 a1 = some r) :
    Calls Try.prog 36 #[.string a0, .string a1] w fun e w' => e = .returned (.int .i64 r) ∧ Drawn0 w w' := by
  unfold strings_Count.f at h
  split at h
  · rename_i c
    obtain rfl := Option.some.inj h
    refine (Try.strings_Count_one a0 c w).mono ?_
    rintro e w' ⟨rfl, rfl⟩
    exact ⟨rfl, Drawn0.refl _⟩
  · cases h

def strings_Contains.f (a0 a1 : ByteArray) : Option Bool := match a1 with
  | ⟨⟨[c]⟩⟩ => some (decide (0 ≤ Lib.indexByte a0.data.toList c))
  | _ => none
theorem strings_Contains.calls (a0 a1 : ByteArray) (r : Bool) (w : World) (h : strings_Contains.f a0 a1 = some r) :
    Calls Try.prog 29 #[.string a0, .string a1] w fun e w' => e = .returned (.bool r) ∧ Drawn0 w w' := by
  unfold strings_Contains.f at h
  split at h
  · rename_i c
    obtain rfl := Option.some.inj h
    refine (Try.strings_Contains_one a0 c w).mono ?_
    rintro e w' ⟨rfl, rfl⟩
    exact ⟨rfl, Drawn0.refl _⟩
  · cases h

end Go.Proofs.Ytggcbcleocamlaa.P
