import Derived.Test.YtedhcdganddiiaaCMNF
namespace Go.Proofs.Ytedhcdganddiiaa.QA
open Go.RowKit Go.Proofs.YtedhcdganddiiaaW.PrintWords Go.Proofs.Ytedhcdganddiiaa.EvKit
set_option linter.unusedVariables false
set_option linter.unusedSimpArgs false

/-- The blocks of a list of ends. -/
def blk (p : Int → Bool) : List Int → Int → Prop
  | u :: v :: r, n => (u ≤ n ∧ n ≤ v - 1 ∧ p u = true) ∨ blk p (v :: r) n
  | _, _ => False
end Go.Proofs.Ytedhcdganddiiaa.QA
