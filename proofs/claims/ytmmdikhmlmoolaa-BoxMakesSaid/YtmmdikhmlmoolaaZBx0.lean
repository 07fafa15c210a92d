import Derived.Test.YtmmdikhmlmoolaaZEvKit
import Derived.Test.YtmmdikhmlmoolaaZQAx4
import Derived.Test.YtmmdikhmlmoolaaZQAx13
import Derived.Test.YtmmdikhmlmoolaaZQAx3
namespace Go.Proofs.Ytmmdikhmlmoolaa.Bx
open Go.RowKit Go.Proofs.Ytmmdikhmlmoolaa.QA Go.Proofs.YtmmdikhmlmoolaaW.PrintWords Go.Proofs.YtmmdikhmlmoolaaW.PrintLast Go.Proofs.YtmmdikhmlmoolaaW.PrintMore Go.Proofs.Ytmmdikhmlmoolaa.EvKit
set_option linter.unusedVariables false
set_option linter.unusedSimpArgs false
theorem w1 : wrap64 (0 + 1) = 1 := w64 (by omega) (by omega)
theorem w2 : wrap64 (1 + 1) = 2 := w64 (by omega) (by omega)
theorem w3 : wrap64 (2 + 1) = 3 := w64 (by omega) (by omega)
def ovB (x y : S25) : Bool := decide ((mx x.f0.f0 y.f0.f0) < (mn x.f1.f0 y.f1.f0)) && (decide ((mx x.f0.f1 y.f0.f1) < (mn x.f1.f1 y.f1.f1)) && decide ((mx x.f0.f2 y.f0.f2) < (mn x.f1.f2 y.f1.f2)))
end Go.Proofs.Ytmmdikhmlmoolaa.Bx
