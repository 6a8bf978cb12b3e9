-- Written by a program of this session (jprint.py over the kit's print), for this claim. Lean checks it.
import Derived.Test.YtggcbcleocamlaaPx10
import Derived.Test.YtggcbcleocamlaaPrd
namespace Go.Proofs.Ytggcbcleocamlaa.P
/-- The one pure statement of assessorlaw01_TextMoves. -/
def assessorlaw01_TextMoves.Pure : Prop := ∀ (a0 : ByteArray) (l1 : List (S24)), a0.size ≤ 140737488351232 → (l1.length ≤ maxLen ∧ ∀ x_ ∈ l1, ok24 x_) → ∃ k, assessorlaw01_TextMoves.f k a0 l1 = some true
end Go.Proofs.Ytggcbcleocamlaa.P
