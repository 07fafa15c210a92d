/-
  Chapter 06: contact.
-/
import Derived.Test.YtmmdikhmlmoolaaZBx1
namespace Go.Proofs.Ytmmdikhmlmoolaa.Bx
open Go.RowKit Go.Proofs.Ytmmdikhmlmoolaa.QA Go.Proofs.YtmmdikhmlmoolaaW.PrintWords Go.Proofs.YtmmdikhmlmoolaaW.PrintLast Go.Proofs.YtmmdikhmlmoolaaW.PrintMore Go.Proofs.Ytmmdikhmlmoolaa.EvKit
set_option linter.unusedVariables false
set_option linter.unusedSimpArgs false
def rtv (b0 b1 b2 q01 q02 q11 q12 q21 q22 : Bool) : Int :=
  if b1 && b2 && q01 then 0 else if b1 && b2 && q02 then 1 else if b2 && b0 && q11 then 2 else if b2 && b0 && q12 then 3 else if b0 && b1 && q21 then 4 else if b0 && b1 && q22 then 5 else -1
def rtB (x y : S25) : Int := rtv (decide ((mx x.f0.f0 y.f0.f0) < (mn x.f1.f0 y.f1.f0))) (decide ((mx x.f0.f1 y.f0.f1) < (mn x.f1.f1 y.f1.f1))) (decide ((mx x.f0.f2 y.f0.f2) < (mn x.f1.f2 y.f1.f2))) (y.f0.f0 == x.f1.f0) (y.f1.f0 == x.f0.f0) (y.f0.f1 == x.f1.f1) (y.f1.f1 == x.f0.f1) (y.f0.f2 == x.f1.f2) (y.f1.f2 == x.f0.f2)
theorem m0 : wrap64 (2 * 0) = 0 := w64 (by omega) (by omega)
theorem m1 : wrap64 (2 * 1) = 2 := w64 (by omega) (by omega)
theorem m2 : wrap64 (2 * 2) = 4 := w64 (by omega) (by omega)
theorem m4 : wrap64 (4 + 1) = 5 := w64 (by omega) (by omega)
theorem e00 : ((0 : Int) = 0) = True := by simp
theorem e01 : ((0 : Int) = 1) = False := by simp
theorem e02 : ((0 : Int) = 2) = False := by simp
theorem e10 : ((1 : Int) = 0) = False := by simp
theorem e11 : ((1 : Int) = 1) = True := by simp
theorem e12 : ((1 : Int) = 2) = False := by simp
theorem e20 : ((2 : Int) = 0) = False := by simp
theorem e21 : ((2 : Int) = 1) = False := by simp
theorem e22 : ((2 : Int) = 2) = True := by simp
theorem in0 (x y : S25) (n : Nat) : r_Touch.l1 (n + 4) 0 true 0 x.f0.f0 x.f0.f1 x.f0.f2 x.f1.f0 x.f1.f1 x.f1.f2 y.f0.f0 y.f0.f1 y.f0.f2 y.f1.f0 y.f1.f1 y.f1.f2 = r_Touch.j2 n 0 (b1_ x y && b2_ x y) ((b1_ x y && b2_ x y) && (y.f0.f0 == x.f1.f0)) x.f0.f0 x.f0.f1 x.f0.f2 x.f1.f0 x.f1.f1 x.f1.f2 y.f0.f0 y.f0.f1 y.f0.f2 y.f1.f0 y.f1.f1 y.f1.f2 := by
  unfold b1_ b2_
  by_cases c1 : mx x.f0.f1 y.f0.f1 ≥ mn x.f1.f1 y.f1.f1
  · rw [decide_eq_false (show ¬ mx x.f0.f1 y.f0.f1 < mn x.f1.f1 y.f1.f1 by omega)]
    by_cases c2 : mx x.f0.f2 y.f0.f2 ≥ mn x.f1.f2 y.f1.f2
    · simp only [r_Touch.l1, Option.bind_some, w1, w2, w3, at0, at1, at2, l03, l13, l23, l33, e00, e01, e02, e10, e11, e12, e20, e21, e22, if_true, if_false, if_pos c1, if_pos c2, Bool.false_and, Bool.false_eq_true]
    · simp only [r_Touch.l1, Option.bind_some, w1, w2, w3, at0, at1, at2, l03, l13, l23, l33, e00, e01, e02, e10, e11, e12, e20, e21, e22, if_true, if_false, if_pos c1, if_neg c2, Bool.false_and, Bool.false_eq_true]
  · rw [decide_eq_true (show mx x.f0.f1 y.f0.f1 < mn x.f1.f1 y.f1.f1 by omega)]
    by_cases c2 : mx x.f0.f2 y.f0.f2 ≥ mn x.f1.f2 y.f1.f2
    · rw [decide_eq_false (show ¬ mx x.f0.f2 y.f0.f2 < mn x.f1.f2 y.f1.f2 by omega)]
      simp only [r_Touch.l1, Option.bind_some, w1, w2, w3, at0, at1, at2, l03, l13, l23, l33, e00, e01, e02, e10, e11, e12, e20, e21, e22, if_true, if_false, if_neg c1, if_pos c2, Bool.true_and, Bool.false_and, Bool.and_false, Bool.false_eq_true]
    · rw [decide_eq_true (show mx x.f0.f2 y.f0.f2 < mn x.f1.f2 y.f1.f2 by omega)]
      simp only [r_Touch.l1, Option.bind_some, w1, w2, w3, at0, at1, at2, l03, l13, l23, l33, e00, e01, e02, e10, e11, e12, e20, e21, e22, if_true, if_false, if_neg c1, if_neg c2, Bool.true_and]
theorem in1 (x y : S25) (n : Nat) : r_Touch.l1 (n + 4) 1 true 0 x.f0.f0 x.f0.f1 x.f0.f2 x.f1.f0 x.f1.f1 x.f1.f2 y.f0.f0 y.f0.f1 y.f0.f2 y.f1.f0 y.f1.f1 y.f1.f2 = r_Touch.j2 n 1 (b0_ x y && b2_ x y) ((b0_ x y && b2_ x y) && (y.f0.f1 == x.f1.f1)) x.f0.f0 x.f0.f1 x.f0.f2 x.f1.f0 x.f1.f1 x.f1.f2 y.f0.f0 y.f0.f1 y.f0.f2 y.f1.f0 y.f1.f1 y.f1.f2 := by
  unfold b0_ b2_
  by_cases c1 : mx x.f0.f0 y.f0.f0 ≥ mn x.f1.f0 y.f1.f0
  · rw [decide_eq_false (show ¬ mx x.f0.f0 y.f0.f0 < mn x.f1.f0 y.f1.f0 by omega)]
    by_cases c2 : mx x.f0.f2 y.f0.f2 ≥ mn x.f1.f2 y.f1.f2
    · simp only [r_Touch.l1, Option.bind_some, w1, w2, w3, at0, at1, at2, l03, l13, l23, l33, e00, e01, e02, e10, e11, e12, e20, e21, e22, if_true, if_false, if_pos c1, if_pos c2, Bool.false_and, Bool.false_eq_true]
    · simp only [r_Touch.l1, Option.bind_some, w1, w2, w3, at0, at1, at2, l03, l13, l23, l33, e00, e01, e02, e10, e11, e12, e20, e21, e22, if_true, if_false, if_pos c1, if_neg c2, Bool.false_and, Bool.false_eq_true]
  · rw [decide_eq_true (show mx x.f0.f0 y.f0.f0 < mn x.f1.f0 y.f1.f0 by omega)]
    by_cases c2 : mx x.f0.f2 y.f0.f2 ≥ mn x.f1.f2 y.f1.f2
    · rw [decide_eq_false (show ¬ mx x.f0.f2 y.f0.f2 < mn x.f1.f2 y.f1.f2 by omega)]
      simp only [r_Touch.l1, Option.bind_some, w1, w2, w3, at0, at1, at2, l03, l13, l23, l33, e00, e01, e02, e10, e11, e12, e20, e21, e22, if_true, if_false, if_neg c1, if_pos c2, Bool.true_and, Bool.false_and, Bool.and_false, Bool.false_eq_true]
    · rw [decide_eq_true (show mx x.f0.f2 y.f0.f2 < mn x.f1.f2 y.f1.f2 by omega)]
      simp only [r_Touch.l1, Option.bind_some, w1, w2, w3, at0, at1, at2, l03, l13, l23, l33, e00, e01, e02, e10, e11, e12, e20, e21, e22, if_true, if_false, if_neg c1, if_neg c2, Bool.true_and]
theorem in2 (x y : S25) (n : Nat) : r_Touch.l1 (n + 4) 2 true 0 x.f0.f0 x.f0.f1 x.f0.f2 x.f1.f0 x.f1.f1 x.f1.f2 y.f0.f0 y.f0.f1 y.f0.f2 y.f1.f0 y.f1.f1 y.f1.f2 = r_Touch.j2 n 2 (b0_ x y && b1_ x y) ((b0_ x y && b1_ x y) && (y.f0.f2 == x.f1.f2)) x.f0.f0 x.f0.f1 x.f0.f2 x.f1.f0 x.f1.f1 x.f1.f2 y.f0.f0 y.f0.f1 y.f0.f2 y.f1.f0 y.f1.f1 y.f1.f2 := by
  unfold b0_ b1_
  by_cases c1 : mx x.f0.f0 y.f0.f0 ≥ mn x.f1.f0 y.f1.f0
  · rw [decide_eq_false (show ¬ mx x.f0.f0 y.f0.f0 < mn x.f1.f0 y.f1.f0 by omega)]
    by_cases c2 : mx x.f0.f1 y.f0.f1 ≥ mn x.f1.f1 y.f1.f1
    · simp only [r_Touch.l1, Option.bind_some, w1, w2, w3, at0, at1, at2, l03, l13, l23, l33, e00, e01, e02, e10, e11, e12, e20, e21, e22, if_true, if_false, if_pos c1, if_pos c2, Bool.false_and, Bool.false_eq_true]
    · simp only [r_Touch.l1, Option.bind_some, w1, w2, w3, at0, at1, at2, l03, l13, l23, l33, e00, e01, e02, e10, e11, e12, e20, e21, e22, if_true, if_false, if_pos c1, if_neg c2, Bool.false_and, Bool.false_eq_true]
  · rw [decide_eq_true (show mx x.f0.f0 y.f0.f0 < mn x.f1.f0 y.f1.f0 by omega)]
    by_cases c2 : mx x.f0.f1 y.f0.f1 ≥ mn x.f1.f1 y.f1.f1
    · rw [decide_eq_false (show ¬ mx x.f0.f1 y.f0.f1 < mn x.f1.f1 y.f1.f1 by omega)]
      simp only [r_Touch.l1, Option.bind_some, w1, w2, w3, at0, at1, at2, l03, l13, l23, l33, e00, e01, e02, e10, e11, e12, e20, e21, e22, if_true, if_false, if_neg c1, if_pos c2, Bool.true_and, Bool.false_and, Bool.and_false, Bool.false_eq_true]
    · rw [decide_eq_true (show mx x.f0.f1 y.f0.f1 < mn x.f1.f1 y.f1.f1 by omega)]
      simp only [r_Touch.l1, Option.bind_some, w1, w2, w3, at0, at1, at2, l03, l13, l23, l33, e00, e01, e02, e10, e11, e12, e20, e21, e22, if_true, if_false, if_neg c1, if_neg c2, Bool.true_and]
theorem rtouch_ev (x y : S25) : Ev (fun k => r_Touch.f k x.f0.f0 x.f0.f1 x.f0.f2 x.f1.f0 x.f1.f1 x.f1.f2 y.f0.f0 y.f0.f1 y.f0.f2 y.f1.f0 y.f1.f1 y.f1.f2) (rtB x y) := by
  refine ⟨24, fun k hk => ?_⟩
  obtain ⟨n, rfl⟩ : ∃ n, k = n + 24 := ⟨k - 24, by omega⟩
  show _ = some (rtv (b0_ x y) (b1_ x y) (b2_ x y) _ _ _ _ _ _)
  simp only [r_Touch.f, r_Touch.l0, r_Touch.j2, in0, in1, in2, Option.bind_some, w1, w2, w3, m0, m1, m2, m4, at0, at1, at2, l03, l13, l23, l33, if_true, if_false]
  unfold rtv
  generalize b0_ x y = b0
  generalize b1_ x y = b1
  generalize b2_ x y = b2
  have e : ∀ (a b : Int) (u v : Option Int), (if a = b then u else v) = (if (a == b) = true then u else v) := fun a b u v => by simp
  simp only [e]
  generalize (y.f0.f0 == x.f1.f0) = q1
  generalize (y.f1.f0 == x.f0.f0) = q2
  generalize (y.f0.f1 == x.f1.f1) = q3
  generalize (y.f1.f1 == x.f0.f1) = q4
  generalize (y.f0.f2 == x.f1.f2) = q5
  generalize (y.f1.f2 == x.f0.f2) = q6
  revert b0 b1 b2 q1 q2 q3 q4 q5 q6
  decide
end Go.Proofs.Ytmmdikhmlmoolaa.Bx
