import Derived.Test.YtedhcdganddiiaaCMSetW
import Derived.Test.YtedhcdganddiiaaCMQAx0
import Derived.Test.YtedhcdganddiiaaCMQAx3
import Derived.Test.YtedhcdganddiiaaCMQAx4
import Derived.Test.YtedhcdganddiiaaCMQAx1
import Derived.Test.YtedhcdganddiiaaCMQAx2
import Derived.Test.YtedhcdganddiiaaCMQAx5
import Derived.Test.YtedhcdganddiiaaCMQAx11
import Derived.Test.YtedhcdganddiiaaCMQAx12
import Derived.Test.YtedhcdganddiiaaCMQAx17
namespace Go.Proofs.Ytedhcdganddiiaa.QA
open Go.RowKit Go.Proofs.YtedhcdganddiiaaW.PrintWords Go.Proofs.Ytedhcdganddiiaa.EvKit
set_option linter.unusedVariables false
set_option linter.unusedSimpArgs false

theorem isNF_l0 (x : List S23) (hx : x.length ≤ 1000000000) (ho : ∀ y ∈ x, okI y) : ∀ i, i ≤ x.length → (∃ c, NF c (x.drop i) ∧ (0 < i → (rd_T23 x ((i : Int) - 1)).f1 + 2 ≤ c)) → Ev (fun k => gangsawlaw01_normal.l0 k x (i : Int)) true := by
  have rdm : ∀ i : Nat, i < x.length → rd_T23 x (i : Int) ∈ x := by
    intro i h
    have : rd_T23 x (i : Int) = x[i] := by simp [rd_T23, List.getD_eq_getElem?_getD, List.getElem?_eq_getElem h]
    rw [this]; exact List.getElem_mem h
  refine up_to x.length ?_
  intro i hi ih hN
  refine Ev.succ ?_
  simp only [gangsawlaw01_normal.l0]
  by_cases h : i < x.length
  · refine Ev.pos (by omega) (Ev.pos (by omega) ?_)
    obtain ⟨c, hN, hc⟩ := hN
    have hy := ho _ (rdm i h)
    rw [rd_at x i h] at hN
    obtain ⟨n1, n2, n3⟩ := hN
    have hj : Ev (fun k => gangsawlaw01_normal.j1 k x (i : Int) false) true := by
      refine Ev.succ ?_
      simp only [gangsawlaw01_normal.j1]
      refine Ev.neg (by simp) ?_
      rw [w64 (by omega) (by omega)]
      refine ih h ⟨_, n3, fun _ => ?_⟩
      rw [show ((i + 1 : Nat) : Int) - 1 = (i : Int) by omega]
      exact Int.le_refl _
    refine Ev.neg (by omega) (Ev.ite (fun h0 => ?_) (fun h0 => hj))
    rw [w64 (n := (i : Int) - 1) (by omega) (by omega)]
    refine Ev.pos (by omega) (Ev.pos (by omega) ?_)
    have hp := hc (by omega)
    have hq := ho _ (rdm (i - 1) (by omega))
    rw [show ((i - 1 : Nat) : Int) = (i : Int) - 1 by omega] at hq
    rw [w64 (n := (rd_T23 x ((i : Int) - 1)).f1 + 2) (by omega) (by omega), decide_eq_false (by omega)]
    exact hj
  · exact Ev.neg (by omega) (Ev.now _)
theorem isNF_is (x : List S23) (hx : x.length ≤ 1000000000) (ho : ∀ y ∈ x, okI y) {b : Int} (h : NF b x) : Ev (fun k => gangsawlaw01_normal.f k x) true := isNF_l0 x hx ho 0 (Nat.zero_le _) ⟨b, h, fun q => absurd q (Nat.lt_irrefl 0)⟩
theorem min_length (a b : List S23) (ha : a.length ≤ 30) (hb : b.length ≤ 30) : (minL a b).length ≤ 61 := by
  have l1 := nrm_length a
  have l2 := nrm_length b
  have l3 := gapL_length (nrm b) (-1000000000000)
  exact Nat.le_trans (comL_length _ _ _ (Nat.le_refl _)) (by omega)
theorem cmn_length (a b : List S23) (ha : a.length ≤ 30) (hb : b.length ≤ 30) : (cmnL a b).length ≤ 60 := by
  have l1 := nrm_length a
  have l2 := nrm_length b
  exact Nat.le_trans (nrm_length _) (Nat.le_trans (comL_length _ _ _ (Nat.le_refl _)) (by omega))
end Go.Proofs.Ytedhcdganddiiaa.QA
