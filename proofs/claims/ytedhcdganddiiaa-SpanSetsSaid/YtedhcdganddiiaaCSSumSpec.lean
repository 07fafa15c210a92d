import Derived.Test.YtedhcdganddiiaaCSAwake
import Derived.Test.YtedhcdganddiiaaCSQAx7
namespace Go.Proofs.Ytedhcdganddiiaa.QA
open Go.RowKit Go.Proofs.YtedhcdganddiiaaW.PrintWords Go.Proofs.Ytedhcdganddiiaa.EvKit
set_option linter.unusedVariables false
set_option linter.unusedSimpArgs false
theorem lst_nil (l : List S23) : lst [l, []] = lst [l] := by simp [lst]
end Go.Proofs.Ytedhcdganddiiaa.QA
