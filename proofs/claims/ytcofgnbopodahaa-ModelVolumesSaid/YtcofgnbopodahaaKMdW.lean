import Derived.Test.YtcofgnbopodahaaKMdA
import Derived.Test.YtcofgnbopodahaaKQAx11
namespace Go.Proofs.Ytcofgnbopodahaa.Mp
open Go.RowKit Go.Proofs.Ytcofgnbopodahaa.QA Go.Proofs.YtcofgnbopodahaaW.PrintWords Go.Proofs.YtcofgnbopodahaaW.PrintLast Go.Proofs.YtcofgnbopodahaaW.PrintMore Go.Proofs.Ytcofgnbopodahaa.EvKit
theorem awake_ev : Ev (fun _ => w_awake.f) true := Ev.const rfl
end Go.Proofs.Ytcofgnbopodahaa.Mp
