-- Texts of this claim, put together and cut down to what is used (trim.py, a program of this session).
import Derived.Test.YtogknojocodhgaaZ40
import Derived.Test.YtogknojocodhgaaZ42
section
namespace Go.Proofs.Ytogknojocodhgaa.P
def assessorlaw11_ValueReads.Pure : Prop := ∀ (a0 : Int) (s1 : S39) (l2 : List (S57)) (l3 : List Int), (Lit.int .i64 a0).wf = true → ok39 s1 → (l2.length ≤ maxLen ∧ ∀ x_ ∈ l2, ok57 x_) → (l3.length ≤ maxLen ∧ ∀ x_ ∈ l3, (Lit.int .i64 x_).wf = true) → ∃ k, assessorlaw11_ValueReads.f k a0 s1.f0 s1.f1 s1.f2 l2 l3 = some true
end Go.Proofs.Ytogknojocodhgaa.P
end
