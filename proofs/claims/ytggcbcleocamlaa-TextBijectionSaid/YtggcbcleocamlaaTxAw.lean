import Derived.Test.YtggcbcleocamlaaEvA
import Derived.Test.YtggcbcleocamlaaPx8
namespace Go.Proofs.Ytggcbcleocamlaa.P
open Go.RowKit Go.Proofs.YtggcbcleocamlaaW.PrintWords
theorem awake_ev : Ev (fun k => assessorlaw01_awake.f k) true := Ev.of (k := 60) (fun k => assessorlaw01_awake.mono k) (by decide +kernel)
theorem awake_some : Ev (fun k => (assessorlaw01_awake.f k).bind fun t => some t) true := Ev.bind (f := fun _ t => some t) awake_ev (ev_some rfl)
end Go.Proofs.Ytggcbcleocamlaa.P
