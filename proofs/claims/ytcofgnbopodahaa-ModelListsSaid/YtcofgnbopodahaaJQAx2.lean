import Derived.Test.YtcofgnbopodahaaJQAx0
namespace Go.Proofs.Ytcofgnbopodahaa.QA
open Go.RowKit Go.Proofs.YtcofgnbopodahaaW.PrintWords Go.Proofs.YtcofgnbopodahaaW.PrintLast Go.Proofs.YtcofgnbopodahaaW.PrintMore
attribute [local go_sem] max2_int min2_int max_two min_two max_three min_three max_four min_four
set_option linter.unusedVariables false
set_option linter.unusedSimpArgs false

theorem eqI3 (d : Nat) (w : World) (a b : Int) : (Op.equalIn (d + 1) 3 (.int .i64 a) (.int .i64 b)).run Try.prog w = .ok (a == b) w := by
 simp [Op.equalIn, run_underlying Try.underlying3]
set_option maxHeartbeats 1000000 in
theorem eqA65 (d : Nat) (w : World) (x0 y0 : Int) (x1 y1 : Int) :
  (Op.equalIn (d + 2) 65 (.agg #[.int .i64 x0, .int .i64 x1]) (.agg #[.int .i64 y0, .int .i64 y1])).run Try.prog w = .ok (x0 == y0 && (x1 == y1)) w := by
 have p0 : ∀ (a b : Int) (w : World), (part 3 #[Value.int IntKind.i64 a, Value.int IntKind.i64 b] 0).run Try.prog w = .ok (.int .i64 a) w := fun a b w => by kernel_rfl
 have p1 : ∀ (a b : Int) (w : World), (part 3 #[Value.int IntKind.i64 a, Value.int IntKind.i64 b] 1).run Try.prog w = .ok (.int .i64 b) w := fun a b w => by kernel_rfl
 have he := eqI3 d
 rw [Op.equalIn]
 generalize hq : Op.equalIn (d + 1) = q at he ⊢
 cases hx : (x0 == y0) <;> cases hy : (x1 == y1) <;> simp [run_underlying Try.underlying65, List.range', p0, p1, he, hx, hy]
end Go.Proofs.Ytcofgnbopodahaa.QA
