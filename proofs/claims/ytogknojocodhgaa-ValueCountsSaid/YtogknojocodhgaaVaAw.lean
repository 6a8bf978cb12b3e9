import Derived.Test.YtogknojocodhgaaEvA
import Derived.Test.YtogknojocodhgaaPx5
namespace Go.Proofs.Ytogknojocodhgaa.P
open Go.RowKit Go.Proofs.YtogknojocodhgaaW.PrintWords
theorem awake_ev : Ev (fun k => assessorlaw11_awake.f k) true := Ev.of (k := 60) (fun k => assessorlaw11_awake.mono k) (by decide +kernel)
theorem awake_some : Ev (fun k => (assessorlaw11_awake.f k).bind fun t => some t) true := Ev.bind (f := fun _ t => some t) awake_ev (ev_some rfl)
end Go.Proofs.Ytogknojocodhgaa.P
