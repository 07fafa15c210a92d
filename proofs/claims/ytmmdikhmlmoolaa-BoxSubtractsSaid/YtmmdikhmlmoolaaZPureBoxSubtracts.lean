/-
  BoxSubtracts: Subtract and Rest against the reference's.
-/
import Derived.Test.YtmmdikhmlmoolaaZBx5r
import Derived.Test.YtmmdikhmlmoolaaZQAx27
namespace Go.Proofs.Ytmmdikhmlmoolaa.Pure
open Go.RowKit Go.Proofs.Ytmmdikhmlmoolaa.QA Go.Proofs.YtmmdikhmlmoolaaW.PrintWords Go.Proofs.YtmmdikhmlmoolaaW.PrintLast Go.Proofs.YtmmdikhmlmoolaaW.PrintMore Go.Proofs.Ytmmdikhmlmoolaa.EvKit Go.Proofs.Ytmmdikhmlmoolaa.Bx
set_option linter.unusedVariables false
set_option linter.unusedSimpArgs false
theorem two_0 (x y : S25) : two x y = 0 ↔ V x ∧ V y := by
  unfold two
  by_cases h : chk x = 0
  · rw [if_pos h, chk0, ← chk0 x]; simp [h]
  · rw [if_neg h]
    constructor
    · intro h2; exact absurd h2 h
    · intro h2; exact absurd ((chk0 x).2 h2.1) h
theorem subs_j2 (x : S25) (l : List S25) (hl : l.length ≤ 256) : Ev (fun k => w_BoxSubtracts.j2 k l (restS x l).1 (restS x l).2 (if chk x = 0 then chkL l else chk x) x.f0.f0 x.f0.f1 x.f0.f2 x.f1.f0 x.f1.f1 x.f1.f2) true := by
  refine Ev.succ ?_
  simp only [w_BoxSubtracts.j2]
  have hm : manyS x l = if chk x = 0 then chkL l else chk x := by unfold manyS; rw [if_neg (by omega)]
  by_cases h : (if chk x = 0 then chkL l else chk x) = 0
  · refine Ev.pos h ?_
    have hv : V x := by
      by_cases hc : chk x = 0
      · exact (chk0 x).1 hc
      · rw [if_neg hc] at h; exact absurd h hc
    rw [if_pos ((chk0 x).2 hv)] at h
    have hs : restS x l = restL l [x] := by unfold restS; rw [if_pos (by rw [hm, if_pos ((chk0 x).2 hv)]; exact h)]
    rw [hs]
    refine Ev.bind (rrest_ev x l (by omega) hv ((chkL_0 l).1 h)) (Ev.pos rfl (Ev.bind (same_ev _ ?_) (Ev.now _)))
    have := restL_len l [x] (by simp)
    omega
  · refine Ev.neg h ?_
    have hs : restS x l = ([], manyS x l) := by unfold restS; rw [if_neg (by rw [hm]; exact h)]
    rw [hs]
    exact Ev.pos hm (Ev.eq (Ev.now _) rfl)
theorem subs_j1 (x : S25) (l : List S25) (hl : l.length ≤ 1000) : Ev (fun k => w_BoxSubtracts.j1 k l x.f0.f0 x.f0.f1 x.f0.f2 x.f1.f0 x.f1.f1 x.f1.f2) true := by
  refine Ev.succ ?_
  simp only [w_BoxSubtracts.j1]
  refine Ev.bind (rest_ev x l (by omega)) ?_
  by_cases h : l.length > 256
  · have hs : restS x l = ([], 7) := by
      have hm : manyS x l = 7 := by unfold manyS; rw [if_pos h]
      unfold restS
      rw [hm]
      rfl
    rw [hs]
    exact Ev.pos (by omega) (Ev.pos rfl (Ev.eq (Ev.now _) rfl))
  · refine Ev.neg (by omega) (Ev.bind (rcheck_ev x) ?_)
    have h2 := subs_j2 x l (by omega)
    by_cases hc : chk x = 0
    · rw [if_pos hc] at h2
      exact Ev.pos hc (Ev.bind (rall_ev l (by omega)) h2)
    · rw [if_neg hc] at h2
      exact Ev.neg hc h2
theorem subs_j0 (x y : S25) (l : List S25) (b : Bool) (hl : b = false → l.length ≤ 1000) : Ev (fun k => w_BoxSubtracts.j0 k l b x.f0.f0 x.f0.f1 x.f0.f2 x.f1.f0 x.f1.f1 x.f1.f2 y.f0.f0 y.f0.f1 y.f0.f2 y.f1.f0 y.f1.f1 y.f1.f2) true := by
  refine Ev.succ ?_
  simp only [w_BoxSubtracts.j0]
  cases b with
  | true => exact Ev.pos rfl (Ev.now _)
  | false =>
    refine Ev.neg (by decide) (Ev.bind (subtract_ev x y) (Ev.bind (both_ev x y) ?_))
    have h1 := subs_j1 x l (hl rfl)
    by_cases h : two x y = 0
    · rw [if_pos h]
      have := sub_len x y
      exact Ev.pos h (Ev.pos rfl (Ev.bind (rsub_ev x y ((two_0 x y).1 h).1) (Ev.bind (same_ev (sub x y) (by omega)) (Ev.pos rfl h1))))
    · rw [if_neg h]
      exact Ev.neg h (Ev.pos rfl (Ev.pos rfl h1))
theorem BoxSubtracts : w_BoxSubtracts.Pure := by
  intro a0 a1 a2 a3 a4 a5 b0 b1 b2 b3 b4 b5 l
  intros
  refine Ev.rounds ?_
  unfold w_BoxSubtracts.f
  refine Ev.cbind rfl (Ev.pos rfl (Ev.ite (fun h => Ev.ite (fun h2 => ?_) (fun h2 => ?_)) (fun h => ?_)))
  · exact subs_j0 ⟨⟨a0, a1, a2⟩, ⟨a3, a4, a5⟩⟩ ⟨⟨b0, b1, b2⟩, ⟨b3, b4, b5⟩⟩ l true (by simp)
  · exact subs_j0 ⟨⟨a0, a1, a2⟩, ⟨a3, a4, a5⟩⟩ ⟨⟨b0, b1, b2⟩, ⟨b3, b4, b5⟩⟩ l _ (fun h => by have := of_decide_eq_false h; omega)
  · exact subs_j0 ⟨⟨a0, a1, a2⟩, ⟨a3, a4, a5⟩⟩ ⟨⟨b0, b1, b2⟩, ⟨b3, b4, b5⟩⟩ l _ (fun h => by have := of_decide_eq_false h; omega)
end Go.Proofs.Ytmmdikhmlmoolaa.Pure
