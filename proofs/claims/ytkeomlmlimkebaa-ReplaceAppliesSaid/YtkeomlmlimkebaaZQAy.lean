import Derived.Test.YtkeomlmlimkebaaZQAx0
namespace Go.Proofs.Ytkeomlmlimkebaa.QA
open Go.RowKit Go.Proofs.YtkeomlmlimkebaaW.PrintWords Go.Proofs.YtkeomlmlimkebaaW.PrintLast Go.Proofs.YtkeomlmlimkebaaW.PrintMore
attribute [local go_sem] max2_int min2_int max_two min_two max_three min_three max_four min_four
set_option linter.unusedVariables false
set_option linter.unusedSimpArgs false

def okS69 (x : S69) : Prop := ((Lit.int .i64 x.f0).wf = true) ∧ ((Lit.int .i64 x.f1).wf = true) ∧ ((Lit.int .i64 x.f2).wf = true)
end Go.Proofs.Ytkeomlmlimkebaa.QA
