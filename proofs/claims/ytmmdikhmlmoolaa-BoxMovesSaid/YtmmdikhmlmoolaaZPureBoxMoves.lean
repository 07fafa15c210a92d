/-
  BoxMoves: there and back, and what moving does not change.
-/
import Derived.Test.YtmmdikhmlmoolaaZBxM
import Derived.Test.YtmmdikhmlmoolaaZQAx6
import Derived.Test.YtmmdikhmlmoolaaZQAx3
import Derived.Test.YtmmdikhmlmoolaaZQAx17
namespace Go.Proofs.Ytmmdikhmlmoolaa.Pure
open Go.RowKit Go.Proofs.Ytmmdikhmlmoolaa.QA Go.Proofs.YtmmdikhmlmoolaaW.PrintWords Go.Proofs.YtmmdikhmlmoolaaW.PrintLast Go.Proofs.YtmmdikhmlmoolaaW.PrintMore Go.Proofs.Ytmmdikhmlmoolaa.EvKit Go.Proofs.Ytmmdikhmlmoolaa.Bx
set_option linter.unusedVariables false
set_option linter.unusedSimpArgs false
theorem moves_key : ∀ c0 c1 c2 q1 q2 q3 q4 q5 q6 : Bool, (q1 && q2) = false → (q3 && q4) = false → (q5 && q6) = false → ((q1 || q2) && c0) = false → ((q3 || q4) && c1) = false → ((q5 || q6) && c2) = false →
    (tv c0 c1 c2 q1 q2 q3 q4 q5 q6).2 = (tv c0 c1 c2 q2 q1 q4 q3 q6 q5).2 ∧ ((tv c0 c1 c2 q1 q2 q3 q4 q5 q6).2 = 0 → wrap64 (Int.tdiv (tv c0 c1 c2 q1 q2 q3 q4 q5 q6).1 2) = wrap64 (Int.tdiv (tv c0 c1 c2 q2 q1 q4 q3 q6 q5).1 2) ∧ (tv c0 c1 c2 q1 q2 q3 q4 q5 q6).1 ≠ (tv c0 c1 c2 q2 q1 q4 q3 q6 q5).1 ∧ (c0 && (c1 && c2)) = false) := by decide +kernel
def tS (x y : S25) : Int × Int := tv (b0_ x y) (b1_ x y) (b2_ x y) (y.f0.f0 == x.f1.f0) (y.f1.f0 == x.f0.f0) (y.f0.f1 == x.f1.f1) (y.f1.f1 == x.f0.f1) (y.f0.f2 == x.f1.f2) (y.f1.f2 == x.f0.f2)
theorem touch_is (x y : S25) (hx : V x) (hy : V y) : box_Touch.f x.f0.f0 x.f0.f1 x.f0.f2 x.f1.f0 x.f1.f1 x.f1.f2 y.f0.f0 y.f0.f1 y.f0.f2 y.f1.f0 y.f1.f1 y.f1.f2 = some (tS x y) := by
  have h : two x y = 0 := by unfold two; rw [if_pos ((chk0 x).2 hx)]; exact (chk0 y).2 hy
  have e : box_Touch.f x.f0.f0 x.f0.f1 x.f0.f2 x.f1.f0 x.f1.f1 x.f1.f2 y.f0.f0 y.f0.f1 y.f0.f2 y.f1.f0 y.f1.f1 y.f1.f2 = some (if two x y = 0 then tS x y else (0, two x y)) := rfl
  rw [e, if_pos h]
theorem beq_dec (a b : Int) : (a == b) = decide (a = b) := by
  by_cases h : a = b
  · rw [decide_eq_true h]; simp [h]
  · rw [decide_eq_false h]; simp [h]
theorem mx_lt {a b c : Int} : mx a b < c ↔ a < c ∧ b < c := by unfold mx; split <;> omega
theorem lt_mn {a b c : Int} : c < mn a b ↔ c < a ∧ c < b := by unfold mn; split <;> omega
theorem tS_mv (x y : S25) (b0 b1 b2 : Int) : tS (mvS x b0 b1 b2) (mvS y b0 b1 b2) = tS x y ∧ ovB (mvS x b0 b1 b2) (mvS y b0 b1 b2) = ovB x y := by
  have h : ∀ a b c d n : Int, decide (mx (a + n) (b + n) < mn (c + n) (d + n)) = decide (mx a b < mn c d) := fun a b c d n => by
    rw [decide_eq_decide, mx_lt, lt_mn, lt_mn, mx_lt, lt_mn, lt_mn]; omega
  have g : ∀ a b n : Int, (a + n == b + n) = (a == b) := fun a b n => by
    rw [beq_dec, beq_dec, decide_eq_decide]; omega
  unfold tS ovB b0_ b1_ b2_ mvS
  simp only [h, g, and_self]
theorem flags (x y : S25) (hx : V x) (hy : V y) : ((y.f0.f0 == x.f1.f0) && (y.f1.f0 == x.f0.f0)) = false ∧ ((y.f0.f1 == x.f1.f1) && (y.f1.f1 == x.f0.f1)) = false ∧ ((y.f0.f2 == x.f1.f2) && (y.f1.f2 == x.f0.f2)) = false ∧ (((y.f0.f0 == x.f1.f0) || (y.f1.f0 == x.f0.f0)) && b0_ x y) = false ∧ (((y.f0.f1 == x.f1.f1) || (y.f1.f1 == x.f0.f1)) && b1_ x y) = false ∧ (((y.f0.f2 == x.f1.f2) || (y.f1.f2 == x.f0.f2)) && b2_ x y) = false := by
  obtain ⟨_, _, _, _, _, _, p0, p1, p2⟩ := hx
  obtain ⟨_, _, _, _, _, _, q0, q1, q2⟩ := hy
  unfold b0_ b1_ b2_
  have k1 : ∀ a b c d : Int, a < b → c < d → ((c == b) && (d == a)) = false := fun a b c d h1 h2 => by
    rw [beq_dec, beq_dec, Bool.and_eq_false_imp, decide_eq_true_eq, decide_eq_false_iff_not]; omega
  have k2 : ∀ a b c d : Int, a < b → c < d → (((c == b) || (d == a)) && decide (mx a c < mn b d)) = false := fun a b c d h1 h2 => by
    rw [beq_dec, beq_dec, Bool.and_eq_false_imp, Bool.or_eq_true, decide_eq_true_eq, decide_eq_true_eq, decide_eq_false_iff_not, mx_lt, lt_mn, lt_mn]; omega
  exact ⟨k1 _ _ _ _ p0 q0, k1 _ _ _ _ p1 q1, k1 _ _ _ _ p2 q2, k2 _ _ _ _ p0 q0, k2 _ _ _ _ p1 q1, k2 _ _ _ _ p2 q2⟩
theorem tS_sym (x y : S25) : tS y x = tv (b0_ x y) (b1_ x y) (b2_ x y) (y.f1.f0 == x.f0.f0) (y.f0.f0 == x.f1.f0) (y.f1.f1 == x.f0.f1) (y.f0.f1 == x.f1.f1) (y.f1.f2 == x.f0.f2) (y.f0.f2 == x.f1.f2) := by
  have h : ∀ a b c d : Int, decide (mx a b < mn c d) = decide (mx b a < mn d c) := fun a b c d => by
    rw [decide_eq_decide, mx_lt, lt_mn, lt_mn, mx_lt, lt_mn, lt_mn]; omega
  have g : ∀ a b : Int, (a == b) = (b == a) := fun a b => by rw [beq_dec, beq_dec, decide_eq_decide]; omega
  unfold tS b0_ b1_ b2_
  rw [h y.f0.f0, h y.f0.f1, h y.f0.f2, g x.f0.f0, g x.f1.f0, g x.f0.f1, g x.f1.f1, g x.f0.f2, g x.f1.f2]
theorem mv_j0 (y0 y1 y2 y3 y4 y5 y6 y7 y8 y9 y10 y11 y12 y13 y14 y15 y16 y17 y18 y19 y20 y21 y22 y23 y24 y25 y26 : Int) : Ev (fun k => w_BoxMoves.j0 k true y0 y1 y2 y3 y4 y5 y6 y7 y8 y9 y10 y11 y12 y13 y14 y15 y16 y17 y18 y19 y20 y21 y22 y23 y24 y25 y26) true := by
  refine Ev.succ ?_
  simp only [w_BoxMoves.j0]
  exact Ev.pos trivial (Ev.now _)
theorem mv_j2 (b : Bool) : Ev (fun k => w_BoxMoves.j2 k b) b := Ev.succ (Ev.now _)
theorem moves_true (x y : S25) (b0 b1 b2 : Int) : Ev (fun k => w_BoxMoves.f k x.f0.f0 x.f0.f1 x.f0.f2 x.f1.f0 x.f1.f1 x.f1.f2 y.f0.f0 y.f0.f1 y.f0.f2 y.f1.f0 y.f1.f1 y.f1.f2 b0 b1 b2) true := by
  unfold w_BoxMoves.f
  have tot : ∀ z : S25, ¬ (V z ∧ okM z b0 b1 b2) → ∃ c, c ≠ 0 ∧ box_Move.f z.f0.f0 z.f0.f1 z.f0.f2 z.f1.f0 z.f1.f1 z.f1.f2 b0 b1 b2 = some (0, 0, 0, 0, 0, 0, c) := fun z h => by
    by_cases hv : V z
    · exact ⟨6, by decide, move_bad z b0 b1 b2 hv (fun ho => h ⟨hv, ho⟩)⟩
    · exact ⟨chk z, fun e => hv ((chk0 z).1 e), move_chk z b0 b1 b2 (fun e => hv ((chk0 z).1 e))⟩
  refine Ev.cbind rfl (Ev.pos rfl ?_)
  by_cases hx : V x ∧ okM x b0 b1 b2
  rotate_left
  · obtain ⟨c, hc, e⟩ := tot x hx
    refine Ev.cbind e ?_
    by_cases hy : V y ∧ okM y b0 b1 b2
    · exact Ev.cbind (move_good y b0 b1 b2 hy.1 hy.2) (Ev.neg hc (mv_j0 _ _ _ _ _ _ _ _ _ _ _ _ _ _ _ _ _ _ _ _ _ _ _ _ _ _ _))
    · obtain ⟨d, hd, e2⟩ := tot y hy
      exact Ev.cbind e2 (Ev.neg hc (mv_j0 _ _ _ _ _ _ _ _ _ _ _ _ _ _ _ _ _ _ _ _ _ _ _ _ _ _ _))
  obtain ⟨vx, ox⟩ := hx
  refine Ev.cbind (move_good x b0 b1 b2 vx ox) ?_
  by_cases hy : V y ∧ okM y b0 b1 b2
  rotate_left
  · obtain ⟨d, hd, e2⟩ := tot y hy
    refine Ev.cbind e2 (Ev.pos rfl ?_)
    have : (d != 0) = true := by simpa using hd
    rw [this]
    exact mv_j0 _ _ _ _ _ _ _ _ _ _ _ _ _ _ _ _ _ _ _ _ _ _ _ _ _ _ _
  obtain ⟨vy, oy⟩ := hy
  refine Ev.cbind (move_good y b0 b1 b2 vy oy) (Ev.pos rfl (Ev.succ ?_))
  simp only [w_BoxMoves.j0]
  refine Ev.neg (by decide) ?_
  have n0 : wrap64 (-b0) = -b0 := w64 (by have := ox.h0; omega) (by have := ox.h0; omega)
  have n1 : wrap64 (-b1) = -b1 := w64 (by have := ox.h1; omega) (by have := ox.h1; omega)
  have n2 : wrap64 (-b2) = -b2 := w64 (by have := ox.h2; omega) (by have := ox.h2; omega)
  have back : mvS (mvS x b0 b1 b2) (-b0) (-b1) (-b2) = x := by
    obtain ⟨⟨x0, x1, x2⟩, ⟨x3, x4, x5⟩⟩ := x
    simp only [mvS]
    congr 2 <;> omega
  have hb := move_good (mvS x b0 b1 b2) (-b0) (-b1) (-b2) ox.v ⟨by have := ox.h0; omega, by have := ox.h1; omega, by have := ox.h2; omega, by rw [back]; exact vx⟩
  have a0 : x.f0.f0 + b0 + -b0 = x.f0.f0 := by omega
  have a1 : x.f0.f1 + b1 + -b1 = x.f0.f1 := by omega
  have a2 : x.f0.f2 + b2 + -b2 = x.f0.f2 := by omega
  have a3 : x.f1.f0 + b0 + -b0 = x.f1.f0 := by omega
  have a4 : x.f1.f1 + b1 + -b1 = x.f1.f1 := by omega
  have a5 : x.f1.f2 + b2 + -b2 = x.f1.f2 := by omega
  simp only [mvS, a0, a1, a2, a3, a4, a5] at hb
  have hs : volS (mvS x b0 b1 b2) = volS x := by
    unfold volS mvS
    have s0 : x.f1.f0 + b0 - (x.f0.f0 + b0) = x.f1.f0 - x.f0.f0 := by omega
    have s1 : x.f1.f1 + b1 - (x.f0.f1 + b1) = x.f1.f1 - x.f0.f1 := by omega
    have s2 : x.f1.f2 + b2 - (x.f0.f2 + b2) = x.f1.f2 - x.f0.f2 := by omega
    simp only [s0, s1, s2]
  have hv2 := vol_is (mvS x b0 b1 b2) ox.v
  rw [hs] at hv2
  obtain ⟨mt, mo⟩ := tS_mv x y b0 b1 b2
  have ho : box_Overlap.f x.f0.f0 x.f0.f1 x.f0.f2 x.f1.f0 x.f1.f1 x.f1.f2 y.f0.f0 y.f0.f1 y.f0.f2 y.f1.f0 y.f1.f1 y.f1.f2 = some (ovB x y) := rfl
  have ho2 : box_Overlap.f (x.f0.f0 + b0) (x.f0.f1 + b1) (x.f0.f2 + b2) (x.f1.f0 + b0) (x.f1.f1 + b1) (x.f1.f2 + b2) (y.f0.f0 + b0) (y.f0.f1 + b1) (y.f0.f2 + b2) (y.f1.f0 + b0) (y.f1.f1 + b1) (y.f1.f2 + b2) = some (ovB x y) := by rw [← mo]; rfl
  have ht := touch_is x y vx vy
  have ht2 := touch_is (mvS x b0 b1 b2) (mvS y b0 b1 b2) ox.v oy.v
  rw [mt] at ht2
  have ht3 := touch_is y x vy vx
  rw [tS_sym] at ht3
  obtain ⟨f1, f2, f3, f4, f5, f6⟩ := flags x y vx vy
  have key := moves_key _ _ _ _ _ _ _ _ _ f1 f2 f3 f4 f5 f6
  change _ = _ ∧ (_ → _ ∧ _ ∧ ovB x y = false) at key
  have hT : tS x y = tv (b0_ x y) (b1_ x y) (b2_ x y) (y.f0.f0 == x.f1.f0) (y.f1.f0 == x.f0.f0) (y.f0.f1 == x.f1.f1) (y.f1.f1 == x.f0.f1) (y.f0.f2 == x.f1.f2) (y.f1.f2 == x.f0.f2) := rfl
  rw [← hT] at key
  generalize tS x y = T1 at ht ht2 key
  generalize tv (b0_ x y) (b1_ x y) (b2_ x y) (y.f1.f0 == x.f0.f0) (y.f0.f0 == x.f1.f0) (y.f1.f1 == x.f0.f1) (y.f0.f1 == x.f1.f1) (y.f1.f2 == x.f0.f2) (y.f0.f2 == x.f1.f2) = T2 at ht3 key
  generalize ovB x y = O at ho ho2 key
  clear f1 f2 f3 f4 f5 f6 mt mo hT hs a0 a1 a2 a3 a4 a5
  obtain ⟨k1, k2⟩ := key
  rw [← n0, ← n1, ← n2] at hb
  refine Ev.cbind hb (Ev.cbind (vol_is x vx) (Ev.cbind hv2 (Ev.pos rfl (Ev.neg (by simp) (Ev.pos rfl (Ev.pos rfl (Ev.pos rfl (Ev.cbind ho (Ev.cbind ho2 ?_)))))))))
  rw [bne_self_eq_false]
  refine Ev.succ ?_
  simp only [w_BoxMoves.j1]
  refine Ev.neg (by decide) (Ev.cbind ht (Ev.cbind ht2 (Ev.cbind ht3 (Ev.pos rfl (Ev.pos rfl (Ev.pos k1 ?_))))))
  by_cases h : T1.2 = 0
  · obtain ⟨k3, k4, k5⟩ := k2 h
    rw [k5] at ho
    exact Ev.pos h (Ev.pos k3 (Ev.neg k4 (Ev.cbind ho (mv_j2 _))))
  · exact Ev.neg h (mv_j2 _)
theorem BoxMoves : w_BoxMoves.Pure := by
  intro a0 a1 a2 a3 a4 a5 b0 b1 b2 b3 b4 b5 p0 p1 p2
  intros
  exact Ev.rounds (moves_true ⟨⟨a0, a1, a2⟩, ⟨a3, a4, a5⟩⟩ ⟨⟨b0, b1, b2⟩, ⟨b3, b4, b5⟩⟩ p0 p1 p2)
end Go.Proofs.Ytmmdikhmlmoolaa.Pure
