/-
  Polygons: the small functions, as plain values; and the examples.
-/
import Derived.Test.YtcembjgpcbodcaaZQAx2
import Derived.Test.YtcembjgpcbodcaaZQAx3
import Derived.Test.YtcembjgpcbodcaaZQAx4
import Derived.Test.YtcembjgpcbodcaaZQAx11
import Derived.Test.YtcembjgpcbodcaaZQAx13
import Derived.Test.YtcembjgpcbodcaaZQAx14
import Derived.Test.YtcembjgpcbodcaaZQAx12
import Derived.Test.YtcembjgpcbodcaaZEvKit
import Derived.Test.YtcembjgpcbodcaaZFold
namespace Go.Proofs.Ytcembjgpcbodcaa.Pg
open Go.RowKit Go.Proofs.Ytcembjgpcbodcaa.QA Go.Proofs.YtcembjgpcbodcaaW.PrintWords Go.Proofs.YtcembjgpcbodcaaW.PrintLast Go.Proofs.YtcembjgpcbodcaaW.PrintMore Go.Proofs.Ytcembjgpcbodcaa.EvKit
set_option linter.unusedVariables false
set_option linter.unusedSimpArgs false
/-- The examples hold. -/
theorem awake_at : w_awake.f 100 = some true := by decide +kernel
theorem awake_ev : Ev (fun k => w_awake.f k) true := Ev.of w_awake.mono awake_at
def okP (p : S23) : Prop := (-1000000 ≤ p.f0 ∧ p.f0 ≤ 1000000) ∧ -1000000 ≤ p.f1 ∧ p.f1 ≤ 1000000
theorem nearP_is (p : S23) : nearP p = true ↔ okP p := by unfold nearP nearB okP; simp
theorem allowed_ev (x y : Int) : Ev (fun k => r_Allowed.f k x y) (nearP ⟨x, y⟩) := by
  unfold r_Allowed.f
  have hj : ∀ b, Ev (fun k => r_Allowed.j0 k b) b := fun b => Ev.step (f := fun _ => some b) (fun _ => rfl) (Ev.now _)
  refine Ev.ite (fun h1 => Ev.ite (fun h2 => Ev.ite (fun h3 => Ev.eq (hj _) ?_) (fun h3 => Ev.eq (hj _) ?_)) (fun h2 => Ev.eq (hj _) ?_)) (fun h1 => Ev.eq (hj _) ?_)
  · unfold nearP nearB; simp [show -1000000 ≤ x from h1, h2, show -1000000 ≤ y from h3]
  · unfold nearP nearB; simp [show ¬ -1000000 ≤ y from h3]
  · unfold nearP nearB; simp [h2]
  · unfold nearP nearB; simp [show ¬ -1000000 ≤ x from h1]
/-- The orientation, as both reckon it. -/
def oriN (a b c : S23) : Int := wrap64 ((wrap64 ((wrap64 (b.f0 - a.f0)) * (wrap64 (c.f1 - a.f1)))) - (wrap64 ((wrap64 (b.f1 - a.f1)) * (wrap64 (c.f0 - a.f0)))))
def sgn (n : Int) : Int := if n > 0 then 1 else if n < 0 then -1 else 0
def ori (a b c : S23) : Int := sgn (oriN a b c)
theorem rori_is (a b c : S23) : r_Orient.f a.f0 a.f1 b.f0 b.f1 c.f0 c.f1 = some (ori a b c) := by
  unfold r_Orient.f ori sgn
  show (if oriN a b c > 0 then some 1 else if oriN a b c < 0 then some (-1) else some 0) = _
  split
  · rfl
  · split <;> rfl
theorem ori_is (a b c : S23) : polygon_Orient.f a.f0 a.f1 b.f0 b.f1 c.f0 c.f1 = some (ori a b c) := by
  unfold polygon_Orient.f cmp_Compare_int64.f cmp_isNaN_int64.f ori sgn
  simp only [Option.bind_some, bne_self_eq_false, Bool.false_eq_true, if_false]
  show (if oriN a b c < 0 then some (-1) else if oriN a b c > 0 then some 1 else some 0).bind _ = _
  by_cases h1 : oriN a b c < 0
  · rw [if_pos h1, if_neg (by omega), if_pos h1]; rfl
  · by_cases h2 : oriN a b c > 0
    · rw [if_neg h1, if_pos h2, if_pos h2]; rfl
    · rw [if_neg h1, if_neg h2, if_neg h2, if_neg h1]; rfl
theorem sgn_neg (n : Int) : sgn (-n) = -sgn n := by unfold sgn; split <;> split <;> (try split) <;> (try split) <;> omega
theorem ori_cases (a b c : S23) : ori a b c = 1 ∨ ori a b c = -1 ∨ ori a b c = 0 := by unfold ori sgn; split <;> (try split) <;> simp
theorem mul_bound {x y M N : Int} (h1 : -M ≤ x) (h2 : x ≤ M) (h3 : -N ≤ y) (h4 : y ≤ N) : -(M * N) ≤ x * y ∧ x * y ≤ M * N := by
  have e : x.natAbs * y.natAbs ≤ M.natAbs * N.natAbs := Nat.mul_le_mul (by omega) (by omega)
  rw [← Int.natAbs_mul, ← Int.natAbs_mul] at e
  have : 0 ≤ M * N := Int.mul_nonneg (by omega) (by omega)
  omega
theorem oriN_is {a b c : S23} (ha : okP a) (hb : okP b) (hc : okP c) : oriN a b c = (b.f0 - a.f0) * (c.f1 - a.f1) - (b.f1 - a.f1) * (c.f0 - a.f0) := by
  unfold okP at *
  unfold oriN
  rw [w64 (n := b.f0 - a.f0) (by omega) (by omega), w64 (n := c.f1 - a.f1) (by omega) (by omega), w64 (n := b.f1 - a.f1) (by omega) (by omega), w64 (n := c.f0 - a.f0) (by omega) (by omega)]
  have m1 := mul_bound (x := b.f0 - a.f0) (y := c.f1 - a.f1) (M := 2000000) (N := 2000000) (by omega) (by omega) (by omega) (by omega)
  have m2 := mul_bound (x := b.f1 - a.f1) (y := c.f0 - a.f0) (M := 2000000) (N := 2000000) (by omega) (by omega) (by omega) (by omega)
  rw [w64 (n := (b.f0 - a.f0) * (c.f1 - a.f1)) (by omega) (by omega), w64 (n := (b.f1 - a.f1) * (c.f0 - a.f0)) (by omega) (by omega), w64 (by omega) (by omega)]
theorem oriN_swap {a b c : S23} (ha : okP a) (hb : okP b) (hc : okP c) : oriN b a c = -oriN a b c := by
  rw [oriN_is ha hb hc, oriN_is hb ha hc]
  simp only [Int.sub_mul, Int.mul_sub]
  have e1 := Int.mul_comm a.f0 b.f1
  have e2 := Int.mul_comm b.f0 b.f1
  have e3 := Int.mul_comm a.f0 a.f1
  have e4 := Int.mul_comm b.f0 a.f1
  omega
theorem oriN_turn {a b c : S23} (ha : okP a) (hb : okP b) (hc : okP c) : oriN b c a = oriN a b c := by
  rw [oriN_is ha hb hc, oriN_is hb hc ha]
  simp only [Int.sub_mul, Int.mul_sub]
  have e1 := Int.mul_comm a.f0 b.f1
  have e2 := Int.mul_comm b.f0 b.f1
  have e3 := Int.mul_comm a.f0 a.f1
  have e4 := Int.mul_comm b.f0 a.f1
  have e5 := Int.mul_comm c.f0 a.f1
  have e6 := Int.mul_comm c.f0 b.f1
  have e7 := Int.mul_comm b.f0 c.f1
  have e8 := Int.mul_comm a.f0 c.f1
  omega
end Go.Proofs.Ytcembjgpcbodcaa.Pg
