-- Texts of this claim, put together and cut down to what is used (trim.py, a program of this session).
import Derived.Test.YtogknojocodhgaaZ2
import Derived.Test.YtogknojocodhgaaZ41
section
namespace Go.Proofs.Ytogknojocodhgaa.P
open Go.RowKit Go.Proofs.Ytogknojocodhgaa Go.Proofs.YtogknojocodhgaaW.PrintWords Go.Proofs.YtogknojocodhgaaW.PrintLast Go.Proofs.YtogknojocodhgaaW.PrintMore
set_option linter.unusedVariables false
def ok39 (x : S39) : Prop := (Lit.int .i64 x.f0).wf = true ∧ (Lit.int .i64 x.f1).wf = true ∧ x.f2.size ≤ maxLen
theorem rd39 : Rd.RdK Try.prog 39 k39 ok39 := Rd.rd_iso (fun x : S39 => (x.f0, x.f1, x.f2)) (fun p => ⟨p.1, p.2.1, p.2.2⟩) (fun _ => rfl) (Rd.rd_struct Try.underlying39 (by kernel_rfl) (Rd.rd_cons (oa := (fun n : Int => (Lit.int .i64 n).wf = true)) rfl (by kernel_rfl) (Rd.rd_int Try.underlying3) (Rd.rd_cons (oa := (fun n : Int => (Lit.int .i64 n).wf = true)) rfl (by kernel_rfl) (Rd.rd_int Try.underlying3) (Rd.rd_last (ok := (fun s : ByteArray => s.size ≤ maxLen)) rfl (by kernel_rfl) (Rd.rd_string Try.underlying9)))))
def ok54 (x : S54) : Prop := x.f0.size ≤ maxLen ∧ ok39 x.f1
theorem rd54 : Rd.RdK Try.prog 54 k54 ok54 := Rd.rd_iso (fun x : S54 => (x.f0, x.f1)) (fun p => ⟨p.1, p.2⟩) (fun _ => rfl) (Rd.rd_struct Try.underlying54 (by kernel_rfl) (Rd.rd_cons (oa := (fun s : ByteArray => s.size ≤ maxLen)) rfl (by kernel_rfl) (Rd.rd_string Try.underlying9) (Rd.rd_last (ok := ok39) rfl (by kernel_rfl) rd39)))
def ok57 (x : S57) : Prop := x.f0.size ≤ maxLen ∧ (x.f1.length ≤ maxLen ∧ ∀ x_ ∈ x.f1, ok54 x_)
theorem rd57 : Rd.RdK Try.prog 57 k57 ok57 := Rd.rd_iso (fun x : S57 => (x.f0, x.f1)) (fun p => ⟨p.1, p.2⟩) (fun _ => rfl) (Rd.rd_struct Try.underlying57 (by kernel_rfl) (Rd.rd_cons (oa := (fun s : ByteArray => s.size ≤ maxLen)) rfl (by kernel_rfl) (Rd.rd_string Try.underlying9) (Rd.rd_last (ok := (fun xs : List (S54) => xs.length ≤ maxLen ∧ ∀ x ∈ xs, ok54 x)) rfl (by kernel_rfl) (Rd.rd_slice (ok := ok54) Try.underlying55 (by kernel_rfl) rd54))))
end Go.Proofs.Ytogknojocodhgaa.P
end
