import Derived.Test.YtedhcdganddiiaaCPAwake
import Derived.Test.YtedhcdganddiiaaCPQAx7
namespace Go.Proofs.Ytedhcdganddiiaa.QA
open Go.RowKit Go.Proofs.YtedhcdganddiiaaW.PrintWords Go.Proofs.Ytedhcdganddiiaa.EvKit
set_option linter.unusedVariables false
set_option linter.unusedSimpArgs false
/-- The sums of the ends, wrapped as Go's are. -/
def sumL (s : Int × Int) (l : List S23) : Int × Int := l.foldl (fun s x => (wrap64 (s.1 + x.f0), wrap64 (s.2 + x.f1))) s
theorem rSum_l0 (x : List S23) (hx : x.length ≤ 1000000) : ∀ i, i ≤ x.length → ∀ a b, Ev (fun k => gangsawref01_Sum.l0 k x (i : Int) a b) (madeR (sumL (a, b) (x.drop i)).1 (sumL (a, b) (x.drop i)).2) := by
  refine up_to x.length ?_
  intro i hi ih a b
  refine Ev.succ ?_
  simp only [gangsawref01_Sum.l0]
  by_cases h : i < x.length
  · refine Ev.pos (by omega) (Ev.pos (by omega) ?_)
    rw [w64 (n := (i : Int) + 1) (by omega) (by omega), rd_at x i h]
    exact ih h _ _
  · refine Ev.neg (by omega) ?_
    rw [List.drop_of_length_le (show x.length ≤ i by omega)]
    exact Ev.bind (result_is _ _) (Ev.now _)
def sumR (l : List S23) : Int × Int × Int := if lst [l] = 0 then madeR (sumL (0, 0) l).1 (sumL (0, 0) l).2 else (0, 0, lst [l])
theorem lst_nil (l : List S23) : lst [l, []] = lst [l] := by simp [lst]
theorem rSum_is (l : List S23) (hl : l.length ≤ 1000000) : Ev (fun k => gangsawref01_Sum.f k l) (sumR l) := by
  refine Ev.bind (rLists_is l [] (by omega) (by simp)) ?_
  rw [lst_nil]
  unfold sumR
  refine Ev.ite (fun h => ?_) (fun h => ?_)
  · rw [if_pos h]; exact rSum_l0 l hl 0 (Nat.zero_le _) 0 0
  · rw [if_neg h]; exact Ev.now _
end Go.Proofs.Ytedhcdganddiiaa.QA
