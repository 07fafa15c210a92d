/-
  BoxPoints: a point lies in one piece of what Subtract leaves, or in none.
-/
import Derived.Test.YtmmdikhmlmoolaaZBxS
import Derived.Test.YtmmdikhmlmoolaaZQAx4
import Derived.Test.YtmmdikhmlmoolaaZQAx32
namespace Go.Proofs.Ytmmdikhmlmoolaa.Pure
open Go.RowKit Go.Proofs.Ytmmdikhmlmoolaa.QA Go.Proofs.YtmmdikhmlmoolaaW.PrintWords Go.Proofs.YtmmdikhmlmoolaaW.PrintLast Go.Proofs.YtmmdikhmlmoolaaW.PrintMore Go.Proofs.Ytmmdikhmlmoolaa.EvKit Go.Proofs.Ytmmdikhmlmoolaa.Bx
set_option linter.unusedVariables false
set_option linter.unusedSimpArgs false
theorem com_has (x y : S25) (p0 p1 p2 : Int) : hasB (com x y) p0 p1 p2 = (hasB x p0 p1 p2 && hasB y p0 p1 p2) := by
  rw [Bool.eq_iff_iff, Bool.and_eq_true]
  unfold hasB com
  simp only [decide_eq_true_eq, mx_le, lt_mn]
  omega
def hul (x y : S25) : S25 := ⟨⟨mn x.f0.f0 y.f0.f0, mn x.f0.f1 y.f0.f1, mn x.f0.f2 y.f0.f2⟩, ⟨mx x.f1.f0 y.f1.f0, mx x.f1.f1 y.f1.f1, mx x.f1.f2 y.f1.f2⟩⟩
theorem hul_has (x y : S25) (p0 p1 p2 : Int) (h : hasB x p0 p1 p2 = true ∨ hasB y p0 p1 p2 = true) : hasB (hul x y) p0 p1 p2 = true := by
  unfold hasB at h
  unfold hasB hul
  simp only [decide_eq_true_eq, mn_le, lt_mx] at h ⊢
  omega
theorem hull_is (x y : S25) : box_Hull.f x.f0.f0 x.f0.f1 x.f0.f2 x.f1.f0 x.f1.f1 x.f1.f2 y.f0.f0 y.f0.f1 y.f0.f2 y.f1.f0 y.f1.f1 y.f1.f2 = some (if two x y = 0 then ((hul x y).f0.f0, (hul x y).f0.f1, (hul x y).f0.f2, (hul x y).f1.f0, (hul x y).f1.f1, (hul x y).f1.f2, 0) else (0, 0, 0, 0, 0, 0, two x y)) := rfl
theorem pts_j3 (x y : S25) (p0 p1 p2 : Int) : Ev (fun k => w_BoxPoints.j2 k (hasB x p0 p1 p2) (hasB y p0 p1 p2) false p0 p1 p2 (hul x y).f0.f0 (hul x y).f0.f1 (hul x y).f0.f2 (hul x y).f1.f0 (hul x y).f1.f1 (hul x y).f1.f2) true := by
  refine Ev.succ ?_
  simp only [w_BoxPoints.j2]
  refine Ev.neg (by decide) ?_
  cases hx : hasB x p0 p1 p2 with
  | true =>
    have h := has_ev (hul x y) p0 p1 p2
    rw [hul_has x y p0 p1 p2 (Or.inl hx)] at h
    exact Ev.pos rfl (Ev.bind h (Ev.now _))
  | false =>
    refine Ev.neg (by decide) ?_
    cases hy : hasB y p0 p1 p2 with
    | true =>
      have h := has_ev (hul x y) p0 p1 p2
      rw [hul_has x y p0 p1 p2 (Or.inr hy)] at h
      exact Ev.pos rfl (Ev.bind h (Ev.now _))
    | false => exact Ev.neg (by decide) (Ev.now _)
theorem pts_l0 (x y : S25) (p0 p1 p2 : Int) (h2 : two x y = 0) (l : List S25) (hl : l.length ≤ 6) : ∀ m i (c : Int), l.length = i + m → 0 ≤ c → c ≤ i → c + cn (l.drop i) p0 p1 p2 = ind (hasB x p0 p1 p2 && !hasB y p0 p1 p2) →
    Ev (fun k => w_BoxPoints.l0 k l c (i : Int) x.f0.f0 x.f0.f1 x.f0.f2 x.f1.f0 x.f1.f1 x.f1.f2 y.f0.f0 y.f0.f1 y.f0.f2 y.f1.f0 y.f1.f1 y.f1.f2 p0 p1 p2 (hul x y).f0.f0 (hul x y).f0.f1 (hul x y).f0.f2 (hul x y).f1.f0 (hul x y).f1.f1 (hul x y).f1.f2) true := by
  intro m
  induction m with
  | zero =>
    intro i c hi h0 h1 hc
    refine Ev.succ ?_
    simp only [w_BoxPoints.l0]
    rw [List.drop_of_length_le (by omega), cn, Int.add_zero] at hc
    refine Ev.neg (by omega) (Ev.bind (has_ev x p0 p1 p2) (Ev.bind (has_ev y p0 p1 p2) (Ev.bind (int_ev x y) ?_)))
    have hj := pts_j3 x y p0 p1 p2
    have hh := has_ev (com x y) p0 p1 p2
    rw [com_has] at hh
    have ho : box_Overlap.f x.f0.f0 x.f0.f1 x.f0.f2 x.f1.f0 x.f1.f1 x.f1.f2 y.f0.f0 y.f0.f1 y.f0.f2 y.f1.f0 y.f1.f1 y.f1.f2 = some (ovB x y) := rfl
    generalize hasB x p0 p1 p2 = bx at hc hj hh ⊢
    generalize hasB y p0 p1 p2 = bY at hc hj hh ⊢
    have hi : intS x y = if ovB x y = true then ((com x y).f0.f0, (com x y).f0.f1, (com x y).f0.f2, (com x y).f1.f0, (com x y).f1.f1, (com x y).f1.f2, 0) else (0, 0, 0, 0, 0, 0, 9) := by unfold intS; rw [if_pos h2]
    rw [hi]
    subst hc
    cases hov : ovB x y with
    | true =>
      rw [hov] at ho
      rw [if_pos rfl]
      cases bx with
      | true =>
        cases bY with
        | true => exact Ev.pos rfl (Ev.pos rfl (Ev.pos rfl (Ev.cbind ho (Ev.neg (by simp) (Ev.pos rfl (Ev.bind hh hj))))))
        | false => exact Ev.pos rfl (Ev.neg (by decide) (Ev.pos rfl (Ev.cbind ho (Ev.neg (by simp) (Ev.pos rfl (Ev.bind hh hj))))))
      | false =>
        cases bY with
        | true => exact Ev.neg (by decide) (Ev.pos rfl (Ev.cbind ho (Ev.neg (by simp) (Ev.pos rfl (Ev.bind hh hj)))))
        | false => exact Ev.neg (by decide) (Ev.pos rfl (Ev.cbind ho (Ev.neg (by simp) (Ev.pos rfl (Ev.bind hh hj)))))
    | false =>
      rw [hov] at ho
      rw [if_neg (by decide)]
      cases bx with
      | true =>
        cases bY with
        | true => exact Ev.pos rfl (Ev.pos rfl (Ev.pos rfl (Ev.cbind ho (Ev.neg (by simp) (Ev.neg (by simp) hj)))))
        | false => exact Ev.pos rfl (Ev.neg (by decide) (Ev.pos rfl (Ev.cbind ho (Ev.neg (by simp) (Ev.neg (by simp) hj)))))
      | false =>
        cases bY with
        | true => exact Ev.neg (by decide) (Ev.pos rfl (Ev.cbind ho (Ev.neg (by simp) (Ev.neg (by simp) hj))))
        | false => exact Ev.neg (by decide) (Ev.pos rfl (Ev.cbind ho (Ev.neg (by simp) (Ev.neg (by simp) hj))))
  | succ m ih =>
    intro i c hi h0 h1 hc
    refine Ev.succ ?_
    simp only [w_BoxPoints.l0]
    rw [drop_cons l i z25 (by omega), cn] at hc
    rw [rdN]
    refine Ev.pos (by omega) (Ev.pos (by omega) (Ev.bind (has_ev _ p0 p1 p2) ?_))
    cases hb : hasB (l.getD i z25) p0 p1 p2 with
    | true =>
      rw [hb] at hc
      refine Ev.pos rfl ?_
      rw [stp (by omega), w64 (n := c + 1) (by omega) (by omega)]
      exact ih (i + 1) (c + 1) (by omega) (by omega) (by omega) (by rw [← hc]; simp [ind]; omega)
    | false =>
      rw [hb] at hc
      refine Ev.neg (by decide) ?_
      rw [stp (by omega)]
      exact ih (i + 1) c (by omega) (by omega) (by omega) (by rw [← hc]; simp [ind])
theorem BoxPoints : w_BoxPoints.Pure := by
  intro a0 a1 a2 a3 a4 a5 b0 b1 b2 b3 b4 b5 p0 p1 p2
  intros
  refine Ev.rounds ?_
  unfold w_BoxPoints.f
  obtain ⟨x, hx⟩ : ∃ x : S25, x = ⟨⟨a0, a1, a2⟩, ⟨a3, a4, a5⟩⟩ := ⟨_, rfl⟩
  obtain ⟨y, hy⟩ : ∃ y : S25, y = ⟨⟨b0, b1, b2⟩, ⟨b3, b4, b5⟩⟩ := ⟨_, rfl⟩
  have h1 := subtract_ev x y
  have h2 := hull_is x y
  have h3 := fun h => pts_l0 x y p0 p1 p2 h (sub x y) (sub_len x y) (sub x y).length 0 0 (by omega) (by omega) (by omega) (by rw [List.drop_zero, cn_sub, Int.zero_add])
  by_cases h : two x y = 0
  · rw [if_pos h] at h1 h2
    have h3 := h3 h
    generalize hul x y = u at h2 h3
    generalize sub x y = l at h1 h3
    subst hx
    subst hy
    refine Ev.cbind rfl (Ev.pos rfl (Ev.bind h1 (Ev.cbind h2 (Ev.pos rfl (Ev.succ ?_)))))
    simp only [w_BoxPoints.j0]
    exact Ev.neg (by decide) h3
  · rw [if_neg h] at h1 h2
    clear h3
    generalize two x y = n at h h1 h2
    subst hx
    subst hy
    refine Ev.cbind rfl (Ev.pos rfl (Ev.bind h1 (Ev.cbind h2 (Ev.neg h (Ev.succ ?_)))))
    simp only [w_BoxPoints.j0]
    exact Ev.pos trivial (Ev.eq (Ev.now _) (by simp))
end Go.Proofs.Ytmmdikhmlmoolaa.Pure
