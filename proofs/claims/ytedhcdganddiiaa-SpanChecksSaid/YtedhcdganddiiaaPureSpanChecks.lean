/-
  The pure statement of SpanChecks: whatever two intervals of 64-bit numbers and whatever 64-bit number, Check, Contains, Within and Length are as the reference says.
-/
import Derived.Test.YtedhcdganddiiaaAwake
import Derived.Test.YtedhcdganddiiaaQAx6
import Derived.Test.YtedhcdganddiiaaQAx4
import Derived.Test.YtedhcdganddiiaaQAx5
namespace Go.Proofs.Ytedhcdganddiiaa.Pure
open Go.RowKit Go.Proofs.Ytedhcdganddiiaa.QA Go.Proofs.YtedhcdganddiiaaW.PrintWords Go.Proofs.YtedhcdganddiiaaW.PrintLast Go.Proofs.Ytedhcdganddiiaa.EvKit
set_option linter.unusedVariables false
set_option linter.unusedSimpArgs false

theorem within_same (a b c d : Int) : ∃ v, Ev (fun k => span_Within.f k a b c d) v ∧ Ev (fun k => gangsawref01_Within.f k a b c d) v := by
  have h1 : ∀ v, Ev (fun k => span_Within.j0 k v) v := fun v => Ev.succ (by simp only [span_Within.j0]; exact Ev.now v)
  have h2 : ∀ v, Ev (fun k => gangsawref01_Within.j0 k v) v := fun v => Ev.succ (by simp only [gangsawref01_Within.j0]; exact Ev.now v)
  unfold span_Within.f gangsawref01_Within.f
  by_cases ha : a > b
  · exact ⟨_, Ev.pos ha (h1 _), Ev.pos ha (h2 _)⟩
  · by_cases hb : c ≤ a
    · exact ⟨_, Ev.neg ha (Ev.pos hb (h1 _)), Ev.neg ha (Ev.pos hb (h2 _))⟩
    · exact ⟨_, Ev.neg ha (Ev.neg hb (h1 _)), Ev.neg ha (Ev.neg hb (h2 _))⟩
theorem contains_same (a b n : Int) : ∃ v, span_Contains.f a b n = some v ∧ gangsawref01_Contains.f a b n = some v := by
  unfold span_Contains.f gangsawref01_Contains.f
  by_cases h : a ≤ n
  · exact ⟨_, if_pos h, if_pos h⟩
  · exact ⟨_, if_neg h, if_neg h⟩
theorem SpanChecks : gangsawlaw01_SpanChecks.Pure := by
  intro a b c d n _ _ _ _ _
  obtain ⟨v, hv1, hv2⟩ := within_same a b c d
  obtain ⟨u, hu1, hu2⟩ := contains_same a b n
  refine Ev.rounds (r := true) ?_
  refine Ev.bind awake_is (Ev.pos rfl (Ev.bind (Check_is a b) (Ev.bind (rCheck_is a b) (Ev.pos rfl (Ev.cbind hu1 (Ev.cbind hu2 (Ev.pos (by simp) (Ev.bind hv1 (Ev.bind hv2 (Ev.pos (by simp) (Ev.bind (Length_is a b) (Ev.bind (rLength_is a b) ?_))))))))))))
  refine Ev.succ ?_
  simp only [gangsawlaw01_SpanChecks.j0]
  exact Ev.eq (Ev.now _) (by simp)
end Go.Proofs.Ytedhcdganddiiaa.Pure
