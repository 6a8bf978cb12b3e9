-- Written by a program of this session (jprint.py over the kit's print), for this claim. Lean checks it.
import Derived.Test.YtggcbcleocamlaaPx18
import Derived.Test.YtggcbcleocamlaaPrd
namespace Go.Proofs.Ytggcbcleocamlaa.P
/-- The one pure statement of assessorlaw01_TextReplaces. -/
def assessorlaw01_TextReplaces.Pure : Prop := ∀ (a0 : ByteArray) (l1 : List (S24)) (a2 : Int), a0.size ≤ 140737488351232 → (l1.length ≤ maxLen ∧ ∀ x_ ∈ l1, ok24 x_) → (Lit.int .i64 a2).wf = true → ∃ k, assessorlaw01_TextReplaces.f k a0 l1 a2 = some true
end Go.Proofs.Ytggcbcleocamlaa.P
