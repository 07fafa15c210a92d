import Derived.Test.YtcofgnbopodahaaJQAx0
import Derived.Test.YtcofgnbopodahaaJQAx1
namespace Go.Proofs.Ytcofgnbopodahaa.QA
open Go.RowKit Go.Proofs.YtcofgnbopodahaaW.PrintWords Go.Proofs.YtcofgnbopodahaaW.PrintLast Go.Proofs.YtcofgnbopodahaaW.PrintMore
attribute [local go_sem] max2_int min2_int max_two min_two max_three min_three max_four min_four
set_option linter.unusedVariables false
set_option linter.unusedSimpArgs false

theorem eqA43 (d : Nat) (w : World) (x0 y0 : Int) (x1 y1 : Int) (x2 y2 : Int) (x3 y3 : Int) (x4 y4 : Int) (x5 y5 : Int) :
  (Op.equalIn (d + 3) 43 (.agg #[.int .i64 x0, .int .i64 x1, .int .i64 x2, .int .i64 x3, .int .i64 x4, .int .i64 x5]) (.agg #[.int .i64 y0, .int .i64 y1, .int .i64 y2, .int .i64 y3, .int .i64 y4, .int .i64 y5])).run Try.prog w = .ok ((x0 == y0 && (x1 == y1 && (x2 == y2))) && ((x3 == y3 && (x4 == y4 && (x5 == y5))))) w := by
 refine eqA_of Try.underlying43 (by kernel_rfl) ?_
 refine eqf_cons (by rfl) (by go_simp) (by go_simp) (eqA24 (d + 0) w _ _ _ _ _ _) ?_
 exact eqf_last (by rfl) (by go_simp) (by go_simp) (eqA24 (d + 0) w _ _ _ _ _ _)
theorem eqA68 (d : Nat) (w : World) (x0 y0 : ByteArray) (x1 y1 : Int) (x2 y2 : Int) (x3 y3 : Int) (x4 y4 : Int) (x5 y5 : Int) (x6 y6 : Int) (x7 y7 : Int) :
  (Op.equalIn (d + 4) 68 (.agg #[.string x0, .int .i64 x1, .int .i64 x2, .int .i64 x3, .int .i64 x4, .int .i64 x5, .int .i64 x6, .int .i64 x7]) (.agg #[.string y0, .int .i64 y1, .int .i64 y2, .int .i64 y3, .int .i64 y4, .int .i64 y5, .int .i64 y6, .int .i64 y7])).run Try.prog w = .ok (x0.toList == y0.toList && (((x1 == y1 && (x2 == y2 && (x3 == y3))) && ((x4 == y4 && (x5 == y5 && (x6 == y6))))) && (x7 == y7))) w := by
 refine eqA_of Try.underlying68 (by kernel_rfl) ?_
 refine eqf_cons (by rfl) (by go_simp; rfl) (by go_simp; rfl) (by go_simp) ?_
 refine eqf_cons (by rfl) (by go_simp) (by go_simp) (eqA43 (d + 0) w _ _ _ _ _ _ _ _ _ _ _ _) ?_
 exact eqf_last (by rfl) (by go_simp; rfl) (by go_simp; rfl) (by go_simp)
end Go.Proofs.Ytcofgnbopodahaa.QA
