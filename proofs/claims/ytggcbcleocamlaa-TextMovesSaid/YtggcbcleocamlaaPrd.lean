-- Written by a program of this session (jprint.py over the kit's print), for this claim. Lean checks it.
import Derived.Test.YtggcbcleocamlaaPx0
import Derived.Test.YtggcbcleocamlaaRd
namespace Go.Proofs.Ytggcbcleocamlaa.P
open Go.RowKit Go.Proofs.Ytggcbcleocamlaa Go.Proofs.YtggcbcleocamlaaW.PrintWords Go.Proofs.YtggcbcleocamlaaW.PrintLast Go.Proofs.YtggcbcleocamlaaW.PrintMore
set_option linter.unusedVariables false
def ok24 (x : S24) : Prop := (Lit.int .i64 x.f0).wf = true ∧ (Lit.int .i64 x.f1).wf = true ∧ x.f2.size ≤ maxLen
theorem rd24 : Rd.RdK Try.prog 24 k24 ok24 := Rd.rd_iso (fun x : S24 => (x.f0, x.f1, x.f2)) (fun p => ⟨p.1, p.2.1, p.2.2⟩) (fun _ => rfl) (Rd.rd_struct Try.underlying24 (by kernel_rfl) (Rd.rd_cons (oa := (fun n : Int => (Lit.int .i64 n).wf = true)) rfl (by kernel_rfl) (Rd.rd_int Try.underlying3) (Rd.rd_cons (oa := (fun n : Int => (Lit.int .i64 n).wf = true)) rfl (by kernel_rfl) (Rd.rd_int Try.underlying3) (Rd.rd_last (ok := (fun s : ByteArray => s.size ≤ maxLen)) rfl (by kernel_rfl) (Rd.rd_string Try.underlying9)))))
end Go.Proofs.Ytggcbcleocamlaa.P
