import Derived.Test.YtmmdikhmlmoolaaZBx4
import Derived.Test.YtmmdikhmlmoolaaZQAx13
import Derived.Test.YtmmdikhmlmoolaaZBx1
import Derived.Test.YtmmdikhmlmoolaaZQAx3
import Derived.Test.YtmmdikhmlmoolaaZQAx0
import Derived.Test.YtmmdikhmlmoolaaZQAx16
import Derived.Test.YtmmdikhmlmoolaaZQAx18
namespace Go.Proofs.Ytmmdikhmlmoolaa.Bx
open Go.RowKit Go.Proofs.Ytmmdikhmlmoolaa.QA Go.Proofs.YtmmdikhmlmoolaaW.PrintWords Go.Proofs.YtmmdikhmlmoolaaW.PrintLast Go.Proofs.YtmmdikhmlmoolaaW.PrintMore Go.Proofs.Ytmmdikhmlmoolaa.EvKit
set_option linter.unusedVariables false
set_option linter.unusedSimpArgs false
def rintS (x y : S25) : Int × Int × Int × Int × Int × Int × Bool := if ovB x y = true then ((com x y).f0.f0, (com x y).f0.f1, (com x y).f0.f2, (com x y).f1.f0, (com x y).f1.f1, (com x y).f1.f2, true) else (0, 0, 0, 0, 0, 0, false)
theorem rint_ev (x y : S25) : Ev (fun k => r_Intersect.f k x.f0.f0 x.f0.f1 x.f0.f2 x.f1.f0 x.f1.f1 x.f1.f2 y.f0.f0 y.f0.f1 y.f0.f2 y.f1.f0 y.f1.f1 y.f1.f2) (rintS x y) := by
  unfold r_Intersect.f rintS
  exact Ev.cbind rfl (Ev.bind (full_ev _ _ _ _ _ _) (ifs (fun ho => Ev.now _) (fun ho => Ev.now _)))
end Go.Proofs.Ytmmdikhmlmoolaa.Bx
