/-
  Polygons: the check, simplicity, sides: both reckon the same.
-/
import Derived.Test.YtcembjgpcbodcaaZPg1
import Derived.Test.YtcembjgpcbodcaaZQAx2
import Derived.Test.YtcembjgpcbodcaaZQAx5
import Derived.Test.YtcembjgpcbodcaaZQAx13
import Derived.Test.YtcembjgpcbodcaaZQAx15
namespace Go.Proofs.Ytcembjgpcbodcaa.Pg
open Go.RowKit Go.Proofs.Ytcembjgpcbodcaa.QA Go.Proofs.YtcembjgpcbodcaaW.PrintWords Go.Proofs.YtcembjgpcbodcaaW.PrintLast Go.Proofs.YtcembjgpcbodcaaW.PrintMore Go.Proofs.Ytcembjgpcbodcaa.EvKit
set_option linter.unusedVariables false
set_option linter.unusedSimpArgs false
def pt (p : List S23) (i : Nat) : S23 := p.getD i z23
theorem rd_is (p : List S23) (i : Nat) : rd_T23 p (i : Int) = pt p i := by simp [rd_T23, pt]
def nx (p : List S23) (i : Nat) : Nat := (i + 1) % p.length
theorem nx_lt {p : List S23} (h : 3 ≤ p.length) (i : Nat) : nx p i < p.length := Nat.mod_lt _ (by omega)
theorem tm_is {p : List S23} (h : 3 ≤ p.length) (hl : p.length ≤ 64) (i : Nat) (hi : i ≤ 1000) : Int.tmod (wrap64 ((i : Int) + 1)) (p.length : Int) = (nx p i : Int) := by
  rw [w64 (by omega) (by omega), Int.tmod_eq_emod_of_nonneg (by omega)]
  unfold nx
  rw [Int.natCast_emod]
  rfl
theorem end_is {p : List S23} (h : 3 ≤ p.length) (hl : p.length ≤ 64) (i : Nat) (hi : i ≤ 1000) : polygon_end.f p (i : Int) = some ((pt p (nx p i)).f0, (pt p (nx p i)).f1) := by
  unfold polygon_end.f
  have := nx_lt h i
  rw [tm_is h hl i hi, if_neg (by omega), if_pos (by omega), if_pos (by omega), rd_is]
theorem next_is {p : List S23} (h : 3 ≤ p.length) (hl : p.length ≤ 64) (i : Nat) (hi : i ≤ 1000) : r_next.f p (i : Int) = some (nx p i : Int) := by
  unfold r_next.f
  rw [tm_is h hl i hi, if_neg (by omega)]
theorem pt_mem {p : List S23} {i : Nat} (h : i < p.length) : pt p i ∈ p := by
  unfold pt
  rw [List.getD_eq_getElem?_getD, List.getElem?_eq_getElem h]
  exact List.getElem_mem h
/-! ### the segments -/
def boxB (a b q : S23) : Bool := decide (mn a.f0 b.f0 ≤ q.f0) && (decide (q.f0 ≤ mx a.f0 b.f0) && (decide (mn a.f1 b.f1 ≤ q.f1) && decide (q.f1 ≤ mx a.f1 b.f1)))
def onB (a b q : S23) : Bool := decide (ori a b q = 0) && boxB a b q
theorem on_ev (a b q : S23) : Ev (fun k => polygon_on.f k a.f0 a.f1 b.f0 b.f1 q.f0 q.f1) (onB a b q) := by
  unfold polygon_on.f
  have hj : ∀ b, Ev (fun k => polygon_on.j0 k b) b := fun b => Ev.step (f := fun _ => some b) (fun _ => rfl) (Ev.now _)
  refine Ev.cbind (ori_is a b q) ?_
  unfold onB boxB
  refine Ev.ite (fun h1 => Ev.ite (fun h2 => Ev.ite (fun h3 => Ev.ite (fun h4 => Ev.eq (hj _) ?_) (fun h4 => Ev.eq (hj _) ?_)) (fun h3 => Ev.eq (hj _) ?_)) (fun h2 => Ev.eq (hj _) ?_)) (fun h1 => Ev.eq (hj _) ?_)
  · simp [h1, h2, h3, h4]
  · simp [h4]
  · simp [h3]
  · simp [h2]
  · simp [h1]
theorem ron_ev (a b q : S23) : Ev (fun k => r_On.f k a.f0 a.f1 b.f0 b.f1 q.f0 q.f1) (onB a b q) := by
  unfold r_On.f
  have hj : ∀ b, Ev (fun k => r_On.j0 k b) b := fun b => Ev.step (f := fun _ => some b) (fun _ => rfl) (Ev.now _)
  refine Ev.cbind (rori_is a b q) ?_
  unfold onB boxB
  refine Ev.ite (fun h1 => Ev.ite (fun h2 => Ev.ite (fun h3 => Ev.ite (fun h4 => Ev.eq (hj _) ?_) (fun h4 => Ev.eq (hj _) ?_)) (fun h3 => Ev.eq (hj _) ?_)) (fun h2 => Ev.eq (hj _) ?_)) (fun h1 => Ev.eq (hj _) ?_)
  · simp [h1, h2, h3, h4]
  · simp [h4]
  · simp [h3]
  · simp [h2]
  · simp [h1]
def crossB (a b c d : S23) : Bool := decide (wrap64 (ori a b c * ori a b d) < 0) && decide (wrap64 (ori c d a * ori c d b) < 0)
def meetB (a b c d : S23) : Bool := onB a b c || (onB a b d || (onB c d a || (onB c d b || crossB a b c d)))
theorem meet_ev (a b c d : S23) : Ev (fun k => polygon_meet.f k a.f0 a.f1 b.f0 b.f1 c.f0 c.f1 d.f0 d.f1) (meetB a b c d) := by
  unfold polygon_meet.f
  have yes : Ev (fun k => polygon_meet.j0 k true a.f0 a.f1 b.f0 b.f1 c.f0 c.f1 d.f0 d.f1) true := Ev.step (f := fun _ => some true) (fun _ => rfl) (Ev.now _)
  refine Ev.bind (on_ev a b c) ?_
  unfold meetB
  refine Ev.ite (fun h => Ev.eq yes (by rw [h]; rfl)) (fun h => Ev.bind (on_ev a b d) (Ev.ite (fun h2 => Ev.eq yes (by rw [h2]; simp)) (fun h2 => Ev.bind (on_ev c d a) (Ev.ite (fun h3 => Ev.eq yes (by rw [h3]; simp)) (fun h3 => Ev.bind (on_ev c d b) ?_)))))
  rw [Bool.not_eq_true] at h h2 h3
  rw [h, h2, h3, Bool.false_or, Bool.false_or, Bool.false_or]
  cases onB c d b with
  | true => exact yes
  | false =>
    refine Ev.step (f := fun _ => (polygon_Orient.f a.f0 a.f1 b.f0 b.f1 c.f0 c.f1).bind fun t131 => ((polygon_Orient.f a.f0 a.f1 b.f0 b.f1 d.f0 d.f1).bind fun t132 => (if (wrap64 (t131 * t132)) < 0 then ((polygon_Orient.f c.f0 c.f1 d.f0 d.f1 a.f0 a.f1).bind fun t133 => ((polygon_Orient.f c.f0 c.f1 d.f0 d.f1 b.f0 b.f1).bind fun t134 => (some (decide ((wrap64 (t133 * t134)) < 0))))) else (some false)))) (fun _ => rfl) ?_
    refine Ev.cbind (ori_is a b c) (Ev.cbind (ori_is a b d) (Ev.ite (fun h => Ev.cbind (ori_is c d a) (Ev.cbind (ori_is c d b) (Ev.eq (Ev.now _) ?_))) (fun h => Ev.eq (Ev.now _) ?_)))
    · unfold crossB; rw [decide_eq_true h]; rfl
    · unfold crossB; rw [decide_eq_false h]; rfl
theorem rmeet_ev (a b c d : S23) : Ev (fun k => r_meet.f k a.f0 a.f1 b.f0 b.f1 c.f0 c.f1 d.f0 d.f1) (meetB a b c d) := by
  unfold r_meet.f
  have yes : Ev (fun k => r_meet.j0 k true a.f0 a.f1 b.f0 b.f1 c.f0 c.f1 d.f0 d.f1) true := Ev.step (f := fun _ => some true) (fun _ => rfl) (Ev.now _)
  refine Ev.bind (ron_ev a b c) ?_
  unfold meetB
  refine Ev.ite (fun h => Ev.eq yes (by rw [h]; rfl)) (fun h => Ev.bind (ron_ev a b d) (Ev.ite (fun h2 => Ev.eq yes (by rw [h2]; simp)) (fun h2 => Ev.bind (ron_ev c d a) (Ev.ite (fun h3 => Ev.eq yes (by rw [h3]; simp)) (fun h3 => Ev.bind (ron_ev c d b) ?_)))))
  rw [Bool.not_eq_true] at h h2 h3
  rw [h, h2, h3, Bool.false_or, Bool.false_or, Bool.false_or]
  cases onB c d b with
  | true => exact yes
  | false =>
    refine Ev.step (f := fun _ => (r_Orient.f a.f0 a.f1 b.f0 b.f1 c.f0 c.f1).bind fun t131 => ((r_Orient.f a.f0 a.f1 b.f0 b.f1 d.f0 d.f1).bind fun t132 => (if (wrap64 (t131 * t132)) < 0 then ((r_Orient.f c.f0 c.f1 d.f0 d.f1 a.f0 a.f1).bind fun t133 => ((r_Orient.f c.f0 c.f1 d.f0 d.f1 b.f0 b.f1).bind fun t134 => (some (decide ((wrap64 (t133 * t134)) < 0))))) else (some false)))) (fun _ => rfl) ?_
    refine Ev.cbind (rori_is a b c) (Ev.cbind (rori_is a b d) (Ev.ite (fun h => Ev.cbind (rori_is c d a) (Ev.cbind (rori_is c d b) (Ev.eq (Ev.now _) ?_))) (fun h => Ev.eq (Ev.now _) ?_)))
    · unfold crossB; rw [decide_eq_true h]; rfl
    · unfold crossB; rw [decide_eq_false h]; rfl
def dotN (a b c : S23) : Int := wrap64 ((wrap64 ((wrap64 (a.f0 - b.f0)) * (wrap64 (c.f0 - b.f0)))) + (wrap64 ((wrap64 (a.f1 - b.f1)) * (wrap64 (c.f1 - b.f1)))))
def foldB (a b c : S23) : Bool := decide (ori a b c = 0) && decide (dotN a b c > 0)
def backB (a b c : S23) : Bool := onB a b c || onB b c a
theorem fold_is (a b c : S23) : polygon_folded.f a.f0 a.f1 b.f0 b.f1 c.f0 c.f1 = some (foldB a b c) := by
  unfold polygon_folded.f
  rw [ori_is a b c, Option.bind_some]
  unfold foldB
  by_cases h : ori a b c = 0
  · rw [if_pos h, decide_eq_true h, Bool.true_and]; rfl
  · rw [if_neg h, decide_eq_false h, Bool.false_and]
theorem back_ev (a b c : S23) : Ev (fun k => r_back.f k a.f0 a.f1 b.f0 b.f1 c.f0 c.f1) (backB a b c) := by
  unfold r_back.f backB
  refine Ev.bind (ron_ev a b c) (Ev.ite (fun h => Ev.eq (Ev.now _) (by rw [h]; rfl)) (fun h => Ev.bind (ron_ev b c a) (Ev.eq (Ev.now _) ?_)))
  rw [Bool.not_eq_true] at h
  rw [h, Bool.false_or]
theorem fold_back {a b c : S23} (ha : okP a) (hb : okP b) (hc : okP c) (h1 : ¬ (a.f0 = b.f0 ∧ a.f1 = b.f1)) (h2 : ¬ (c.f0 = b.f0 ∧ c.f1 = b.f1)) : foldB a b c = backB a b c := by
  have ht : ori b c a = ori a b c := by unfold ori; rw [oriN_turn ha hb hc]
  unfold foldB backB onB
  rw [ht]
  by_cases ho : ori a b c = 0
  · have hn : oriN a b c = 0 := by unfold ori sgn at ho; split at ho <;> (try split at ho) <;> omega
    rw [oriN_is ha hb hc] at hn
    have hcr : (a.f0 - b.f0) * (c.f1 - b.f1) = (a.f1 - b.f1) * (c.f0 - b.f0) := by
      simp only [Int.sub_mul, Int.mul_sub] at hn ⊢
      have e1 := Int.mul_comm a.f0 b.f1
      have e2 := Int.mul_comm b.f0 b.f1
      have e3 := Int.mul_comm a.f0 a.f1
      have e4 := Int.mul_comm b.f0 a.f1
      have e5 := Int.mul_comm c.f0 a.f1
      have e6 := Int.mul_comm c.f0 b.f1
      have e7 := Int.mul_comm b.f0 c.f1
      have e8 := Int.mul_comm a.f0 c.f1
      omega
    have hd : dotN a b c = (a.f0 - b.f0) * (c.f0 - b.f0) + (a.f1 - b.f1) * (c.f1 - b.f1) := by
      unfold okP at *
      unfold dotN
      rw [w64 (n := a.f0 - b.f0) (by omega) (by omega), w64 (n := c.f0 - b.f0) (by omega) (by omega), w64 (n := a.f1 - b.f1) (by omega) (by omega), w64 (n := c.f1 - b.f1) (by omega) (by omega)]
      have m1 := mul_bound (x := a.f0 - b.f0) (y := c.f0 - b.f0) (M := 2000000) (N := 2000000) (by omega) (by omega) (by omega) (by omega)
      have m2 := mul_bound (x := a.f1 - b.f1) (y := c.f1 - b.f1) (M := 2000000) (N := 2000000) (by omega) (by omega) (by omega) (by omega)
      rw [w64 (n := (a.f0 - b.f0) * (c.f0 - b.f0)) (by omega) (by omega), w64 (n := (a.f1 - b.f1) * (c.f1 - b.f1)) (by omega) (by omega), w64 (by omega) (by omega)]
    have key := Fold.fold_iff (ux := a.f0 - b.f0) (uy := a.f1 - b.f1) (vx := c.f0 - b.f0) (vy := c.f1 - b.f1) (by omega) (by omega) hcr
    rw [← hd] at key
    rw [decide_eq_true ho, Bool.true_and, Bool.true_and, Bool.true_and, Bool.eq_iff_iff, decide_eq_true_eq, key]
    unfold Fold.btw boxB mn mx
    simp only [Bool.or_eq_true, Bool.and_eq_true, decide_eq_true_eq]
    constructor
    · rintro (⟨q1, q2⟩ | ⟨q1, q2⟩)
      · exact .inl ⟨by split <;> omega, by split <;> omega, by split <;> omega, by split <;> omega⟩
      · exact .inr ⟨by split <;> omega, by split <;> omega, by split <;> omega, by split <;> omega⟩
    · rintro (⟨q1, q2, q3, q4⟩ | ⟨q1, q2, q3, q4⟩)
      · refine .inl ⟨⟨?_, ?_⟩, ?_, ?_⟩
        · split at q1 <;> omega
        · split at q2 <;> omega
        · split at q3 <;> omega
        · split at q4 <;> omega
      · refine .inr ⟨⟨?_, ?_⟩, ?_, ?_⟩
        · split at q1 <;> omega
        · split at q2 <;> omega
        · split at q3 <;> omega
        · split at q4 <;> omega
  · rw [decide_eq_false ho]; rfl
/-! ### the check -/
def anyF (f : Nat → Bool) : Nat → Nat → Bool
  | _, 0 => false
  | i, m + 1 => f i || anyF f (i + 1) m
theorem anyF_iff (f : Nat → Bool) : ∀ m i, anyF f i m = true ↔ ∃ j, i ≤ j ∧ j < i + m ∧ f j = true
  | 0, i => by simp [anyF]; intro j h1 h2; omega
  | m + 1, i => by
    rw [anyF, Bool.or_eq_true, anyF_iff f m (i + 1)]
    constructor
    · rintro (h | ⟨j, h1, h2, h3⟩)
      · exact ⟨i, Nat.le_refl _, by omega, h⟩
      · exact ⟨j, by omega, by omega, h3⟩
    · rintro ⟨j, h1, h2, h3⟩
      by_cases e : j = i
      · subst e; exact .inl h3
      · exact .inr ⟨j, by omega, by omega, h3⟩
def eqB (a b : S23) : Bool := a.f0 == b.f0 && (a.f1 == b.f1)
theorem eqB_iff (a b : S23) : eqB a b = true ↔ a.f0 = b.f0 ∧ a.f1 = b.f1 := by unfold eqB; simp
def prv (p : List S23) (i : Nat) : Nat := if i = 0 then p.length - 1 else i - 1
def dupP (p : List S23) : Bool := anyF (fun i => eqB (pt p i) (pt p (nx p i))) 0 p.length
theorem dup_prv {p : List S23} (h : 3 ≤ p.length) : anyF (fun i => eqB (pt p i) (pt p (prv p i))) 0 p.length = dupP p := by
  rw [Bool.eq_iff_iff]
  unfold dupP
  rw [anyF_iff, anyF_iff]
  constructor
  · rintro ⟨j, h1, h2, h3⟩
    refine ⟨prv p j, Nat.zero_le _, by unfold prv; split <;> omega, ?_⟩
    have e : nx p (prv p j) = j := by
      unfold nx prv
      split
      · rename_i h0
        rw [show p.length - 1 + 1 = p.length by omega, Nat.mod_self]; omega
      · rw [show j - 1 + 1 = j by omega, Nat.mod_eq_of_lt (by omega)]
    rw [eqB_iff] at h3 ⊢
    rw [e]
    exact ⟨h3.1.symm, h3.2.symm⟩
  · rintro ⟨j, h1, h2, h3⟩
    have hl := nx_lt h j
    refine ⟨nx p j, Nat.zero_le _, by omega, ?_⟩
    have e : prv p (nx p j) = j := by
      unfold nx prv
      by_cases hj : j + 1 < p.length
      · rw [Nat.mod_eq_of_lt hj, if_neg (by omega)]; omega
      · have : j + 1 = p.length := by omega
        rw [this, Nat.mod_self, if_pos rfl]; omega
    rw [eqB_iff] at h3 ⊢
    rw [e]
    exact ⟨h3.1.symm, h3.2.symm⟩
def ckP (p : List S23) : Int := if p.length > 64 then 7 else if p.length < 3 then 1 else if p.all nearP = true then (if dupP p = true then 5 else 0) else 6
def ckQ (p o : List S23) : Int := if p.length > 64 then 7 else if p.length < 3 then 1 else if p.all nearP = true then (if o.all nearP = true then (if dupP p = true then 5 else 0) else 6) else 6
theorem ckQ_nil (p : List S23) : ckQ p [] = ckP p := rfl
theorem check_l0 {p : List S23} (h : 3 ≤ p.length) (hl : p.length ≤ 64) : ∀ m i, p.length = i + m → Ev (fun k => polygon_check.l0 k p (p.length : Int) (i : Int) (pt p (prv p i)).f0 (pt p (prv p i)).f1) (if anyF (fun i => eqB (pt p i) (pt p (prv p i))) i m = true then 5 else 0) := by
  intro m
  induction m with
  | zero =>
    intro i hi
    refine Ev.succ ?_
    simp only [polygon_check.l0]
    exact Ev.neg (by omega) (Ev.now _)
  | succ m ih =>
    intro i hi
    refine Ev.succ ?_
    simp only [polygon_check.l0]
    refine Ev.pos (by omega) (Ev.pos (by omega) (Ev.pos (by omega) ?_))
    rw [rd_is, anyF]
    refine Ev.ite (fun hc => Ev.eq (Ev.now _) ?_) (fun hc => ?_)
    · have : eqB (pt p i) (pt p (prv p i)) = true := hc
      rw [this]; rfl
    · have : eqB (pt p i) (pt p (prv p i)) = false := by rw [← Bool.not_eq_true]; exact hc
      rw [this, Bool.false_or, show wrap64 ((i : Int) + 1) = ((i + 1 : Nat) : Int) from by rw [w64 (by omega) (by omega)]; omega]
      have := ih (i + 1) (by omega)
      rwa [show prv p (i + 1) = i by unfold prv; simp] at this
theorem check_ev (p o : List S23) : Ev (fun k => polygon_check.f k p o) (ckQ p o) := by
  unfold polygon_check.f ckQ
  refine Ev.ite (fun h => Ev.eq (Ev.now _) (by rw [if_pos (by omega)])) (fun h => Ev.ite (fun h2 => Ev.eq (Ev.now _) (by rw [if_neg (by omega), if_pos (by omega)])) (fun h2 => ?_))
  rw [if_neg (by omega), if_neg (by omega)]
  refine Ev.cbind (a := p.all nearP) rfl (Ev.ite (fun h3 => Ev.cbind (a := o.all nearP) rfl (Ev.ite (fun h4 => ?_) (fun h4 => by rw [if_pos h3, if_neg h4]; exact Ev.now _))) (fun h3 => by rw [if_neg h3]; exact Ev.now _))
  rw [if_pos h3, if_pos h4, w64 (n := (p.length : Int) - 1) (by omega) (by omega)]
  refine Ev.pos (by omega) (Ev.pos (by omega) ?_)
  rw [show (p.length : Int) - 1 = ((p.length - 1 : Nat) : Int) by omega, rd_is, ← dup_prv (by omega)]
  exact check_l0 (by omega) (by omega) p.length 0 (by omega)
theorem rcheck_l1 {p : List S23} (h : 3 ≤ p.length) (hl : p.length ≤ 64) : ∀ m i, p.length = i + m → Ev (fun k => r_Check.l1 k p (i : Int)) (if anyF (fun i => eqB (pt p i) (pt p (nx p i))) i m = true then 5 else 0) := by
  intro m
  induction m with
  | zero =>
    intro i hi
    refine Ev.succ ?_
    simp only [r_Check.l1]
    exact Ev.neg (by omega) (Ev.now _)
  | succ m ih =>
    intro i hi
    have hn := nx_lt h i
    refine Ev.succ ?_
    simp only [r_Check.l1]
    refine Ev.pos (by omega) (Ev.pos (by omega) (Ev.cbind (next_is h hl i (by omega)) (Ev.pos (by omega) (Ev.pos (by omega) ?_))))
    rw [rd_is, rd_is, anyF]
    refine Ev.ite (fun hc => Ev.eq (Ev.now _) ?_) (fun hc => ?_)
    · have : eqB (pt p i) (pt p (nx p i)) = true := hc
      rw [this]; rfl
    · have : eqB (pt p i) (pt p (nx p i)) = false := by rw [← Bool.not_eq_true]; exact hc
      rw [this, Bool.false_or, show wrap64 ((i : Int) + 1) = ((i + 1 : Nat) : Int) from by rw [w64 (by omega) (by omega)]; omega]
      exact ih (i + 1) (by omega)
theorem rcheck_l0 {p : List S23} (h : 3 ≤ p.length) (hl : p.length ≤ 64) : ∀ m i, p.length = i + m → Ev (fun k => r_Check.l0 k p (i : Int)) (if (p.drop i).all nearP = true then (if dupP p = true then 5 else 0) else 6) := by
  intro m
  induction m with
  | zero =>
    intro i hi
    refine Ev.succ ?_
    simp only [r_Check.l0]
    refine Ev.neg (by omega) ?_
    rw [List.drop_of_length_le (show p.length ≤ i by omega)]
    exact rcheck_l1 h hl p.length 0 (by omega)
  | succ m ih =>
    intro i hi
    refine Ev.succ ?_
    simp only [r_Check.l0]
    have e : p.drop i = pt p i :: p.drop (i + 1) := drop_cons p i z23 (by omega)
    refine Ev.pos (by omega) (Ev.pos (by omega) ?_)
    rw [rd_is, e, List.all_cons]
    refine Ev.bind (allowed_ev (pt p i).f0 (pt p i).f1) (Ev.ite (fun hc => ?_) (fun hc => Ev.eq (Ev.now _) ?_))
    · have : nearP (pt p i) = true := hc
      rw [this, Bool.true_and, show wrap64 ((i : Int) + 1) = ((i + 1 : Nat) : Int) from by rw [w64 (by omega) (by omega)]; omega]
      exact ih (i + 1) (by omega)
    · have : nearP (pt p i) = false := by rw [← Bool.not_eq_true]; exact hc
      rw [this]; rfl
theorem rcheck_ev (p : List S23) : Ev (fun k => r_Check.f k p) (ckP p) := by
  unfold r_Check.f ckP
  refine Ev.ite (fun h => Ev.eq (Ev.now _) (by rw [if_pos (by omega)])) (fun h => Ev.ite (fun h2 => Ev.eq (Ev.now _) (by rw [if_neg (by omega), if_pos (by omega)])) (fun h2 => ?_))
  rw [if_neg (by omega), if_neg (by omega)]
  exact rcheck_l0 (by omega) (by omega) p.length 0 (by omega)
/-- A valid polygon. -/
structure Val (p : List S23) : Prop where
  l : 3 ≤ p.length
  h : p.length ≤ 64
  a : ∀ x ∈ p, okP x
  d : ∀ i, i < p.length → ¬ ((pt p i).f0 = (pt p (nx p i)).f0 ∧ (pt p i).f1 = (pt p (nx p i)).f1)
theorem Val.of {p : List S23} (h : ckP p = 0) : Val p := by
  unfold ckP at h
  split at h; · cases h
  rename_i h1
  split at h; · cases h
  rename_i h2
  split at h
  case isFalse => cases h
  case isTrue h3 =>
  split at h; · cases h
  rename_i h4
  rw [List.all_eq_true] at h3
  refine ⟨by omega, by omega, fun x hx => (nearP_is x).1 (h3 x hx), fun i hi he => h4 ?_⟩
  unfold dupP
  rw [anyF_iff]
  exact ⟨i, Nat.zero_le _, by omega, (eqB_iff _ _).2 he⟩
/-! ### simple -/
def inn (c : Nat → Nat → Bool) (i : Nat) : Nat → Nat → Bool
  | _, 0 => true
  | k, m + 1 => !(c i k) && inn c i (k + 1) m
def outS (n : Nat) (f : Nat → Bool) (c : Nat → Nat → Bool) : Nat → Nat → Bool
  | _, 0 => true
  | i, m + 1 => !(f i) && (inn c i (i + 2) (n - (i + 2)) && outS n f c (i + 1) m)
def cP (p : List S23) (i k : Nat) : Bool := !(decide (nx p k = i)) && meetB (pt p i) (pt p (nx p i)) (pt p k) (pt p (nx p k))
def simB (p : List S23) : Bool := outS p.length (fun i => foldB (pt p i) (pt p (nx p i)) (pt p (nx p (nx p i)))) (cP p) 0 p.length
def rsimB (p : List S23) : Bool := outS p.length (fun i => backB (pt p i) (pt p (nx p i)) (pt p (nx p (nx p i)))) (cP p) 0 p.length
theorem outS_congr {n : Nat} {f g : Nat → Bool} {c : Nat → Nat → Bool} : ∀ m i, (∀ j, i ≤ j → j < i + m → f j = g j) → outS n f c i m = outS n g c i m
  | 0, _, _ => rfl
  | m + 1, i, h => by rw [outS, outS, h i (Nat.le_refl _) (by omega), outS_congr m (i + 1) (fun j h1 h2 => h j (by omega) (by omega))]
theorem sim_same {p : List S23} (hV : Val p) : simB p = rsimB p := by
  refine outS_congr p.length 0 (fun j _ hj => ?_)
  have hj' : j < p.length := by omega
  have h1 := nx_lt hV.l j
  have h2 := nx_lt hV.l (nx p j)
  have d1 := hV.d j hj'
  have d2 := hV.d (nx p j) h1
  exact fold_back (hV.a _ (pt_mem hj')) (hV.a _ (pt_mem h1)) (hV.a _ (pt_mem h2)) d1 (fun e => d2 ⟨e.1.symm, e.2.symm⟩)
theorem stp {i : Nat} (h : i ≤ 1000) : wrap64 ((i : Int) + 1) = ((i + 1 : Nat) : Int) := by rw [w64 (by omega) (by omega)]; omega
theorem sim_l1 {p : List S23} (h : 3 ≤ p.length) (hl : p.length ≤ 64) (i : Nat) (hi : i < p.length) (r : Bool) (hr : Ev (fun k => polygon_simple.l0 k p (p.length : Int) (p.length : Int) ((i + 1 : Nat) : Int)) r) :
    ∀ m j, j ≤ 100 → (p.length = j + m ∨ (p.length ≤ j ∧ m = 0)) → Ev (fun k => polygon_simple.l1 k p (p.length : Int) (i : Int) (j : Int) (p.length : Int) (i : Int)) (inn (cP p) i j m && r) := by
  intro m
  induction m with
  | zero =>
    intro j hj hm
    refine Ev.succ ?_
    simp only [polygon_simple.l1]
    refine Ev.neg (by omega) ?_
    rw [stp (by omega)]
    exact hr
  | succ m ih =>
    intro j hj hm
    have hn := nx_lt h j
    have hn2 := nx_lt h i
    have go : Ev (fun k => polygon_simple.j2 k p (p.length : Int) (i : Int) (j : Int) (p.length : Int) (i : Int)) (inn (cP p) i (j + 1) m && r) := by
      refine Ev.step (f := fun k => polygon_simple.l1 k p (p.length : Int) (i : Int) (wrap64 ((j : Int) + 1)) (p.length : Int) (i : Int)) (fun _ => rfl) ?_
      rw [stp (by omega)]
      exact ih (j + 1) (by omega) (by omega)
    refine Ev.succ ?_
    simp only [polygon_simple.l1]
    refine Ev.pos (by omega) (Ev.neg (by omega) ?_)
    rw [tm_is h hl j (by omega), inn]
    refine Ev.ite (fun hc => Ev.eq go ?_) (fun hc => ?_)
    · have : cP p i j = false := by unfold cP; rw [decide_eq_true (show nx p j = i by omega)]; rfl
      rw [this]; rfl
    · have e : cP p i j = meetB (pt p i) (pt p (nx p i)) (pt p j) (pt p (nx p j)) := by unfold cP; rw [decide_eq_false (show ¬ nx p j = i by omega)]; rfl
      rw [e]
      refine Ev.pos (by omega) (Ev.pos (by omega) (Ev.cbind (end_is h hl i (by omega)) (Ev.pos (by omega) (Ev.pos (by omega) (Ev.cbind (end_is h hl j (by omega)) ?_)))))
      rw [rd_is, rd_is]
      refine Ev.bind (meet_ev (pt p i) (pt p (nx p i)) (pt p j) (pt p (nx p j))) (Ev.ite (fun hm => Ev.eq (Ev.now _) (by rw [hm]; rfl)) (fun hm => Ev.eq go ?_))
      rw [Bool.not_eq_true] at hm
      rw [hm]; rfl
theorem sim_l0 {p : List S23} (h : 3 ≤ p.length) (hl : p.length ≤ 64) : ∀ m i, p.length = i + m → Ev (fun k => polygon_simple.l0 k p (p.length : Int) (p.length : Int) (i : Int)) (outS p.length (fun i => foldB (pt p i) (pt p (nx p i)) (pt p (nx p (nx p i)))) (cP p) i m) := by
  intro m
  induction m with
  | zero =>
    intro i hi
    refine Ev.succ ?_
    simp only [polygon_simple.l0]
    exact Ev.neg (by omega) (Ev.now _)
  | succ m ih =>
    intro i hi
    have hn := nx_lt h i
    refine Ev.succ ?_
    simp only [polygon_simple.l0]
    refine Ev.pos (by omega) (Ev.pos (by omega) (Ev.pos (by omega) (Ev.cbind (end_is h hl i (by omega)) (Ev.neg (by omega) ?_))))
    rw [tm_is h hl i (by omega)]
    refine Ev.cbind (end_is h hl (nx p i) (by omega)) ?_
    rw [rd_is, outS]
    refine Ev.cbind (fold_is (pt p i) (pt p (nx p i)) (pt p (nx p (nx p i)))) (Ev.ite (fun hc => Ev.eq (Ev.now _) (by rw [hc]; rfl)) (fun hc => ?_))
    rw [Bool.not_eq_true] at hc
    rw [hc, Bool.not_false, Bool.true_and, show wrap64 ((i : Int) + 2) = ((i + 2 : Nat) : Int) from by rw [w64 (by omega) (by omega)]; omega]
    exact sim_l1 h hl i (by omega) _ (ih (i + 1) (by omega)) (p.length - (i + 2)) (i + 2) (by omega) (by omega)
theorem simple_ev {p : List S23} (h : 3 ≤ p.length) (hl : p.length ≤ 64) : Ev (fun k => polygon_simple.f k p) (simB p) := by
  unfold polygon_simple.f
  exact sim_l0 h hl p.length 0 (by omega)
theorem rsim_l1 {p : List S23} (h : 3 ≤ p.length) (hl : p.length ≤ 64) (i : Nat) (hi : i < p.length) (r : Bool) (hr : Ev (fun k => r_Simple.l0 k p (p.length : Int) ((i + 1 : Nat) : Int)) r) :
    ∀ m j, j ≤ 100 → (p.length = j + m ∨ (p.length ≤ j ∧ m = 0)) → Ev (fun k => r_Simple.l1 k p (p.length : Int) (i : Int) (j : Int)) (inn (cP p) i j m && r) := by
  intro m
  induction m with
  | zero =>
    intro j hj hm
    refine Ev.succ ?_
    simp only [r_Simple.l1]
    refine Ev.neg (by omega) ?_
    rw [stp (by omega)]
    exact hr
  | succ m ih =>
    intro j hj hm
    have hn := nx_lt h j
    have hn2 := nx_lt h i
    have go : Ev (fun k => r_Simple.j2 k p (p.length : Int) (i : Int) (j : Int)) (inn (cP p) i (j + 1) m && r) := by
      refine Ev.step (f := fun k => r_Simple.l1 k p (p.length : Int) (i : Int) (wrap64 ((j : Int) + 1))) (fun _ => rfl) ?_
      rw [stp (by omega)]
      exact ih (j + 1) (by omega) (by omega)
    refine Ev.succ ?_
    simp only [r_Simple.l1]
    refine Ev.pos (by omega) (Ev.cbind (next_is h hl j (by omega)) ?_)
    rw [inn]
    refine Ev.ite (fun hc => Ev.eq go ?_) (fun hc => ?_)
    · have : cP p i j = false := by unfold cP; rw [decide_eq_true (show nx p j = i by omega)]; rfl
      rw [this]; rfl
    · have e : cP p i j = meetB (pt p i) (pt p (nx p i)) (pt p j) (pt p (nx p j)) := by unfold cP; rw [decide_eq_false (show ¬ nx p j = i by omega)]; rfl
      rw [e]
      refine Ev.pos (by omega) (Ev.pos (by omega) (Ev.cbind (next_is h hl i (by omega)) (Ev.pos (by omega) (Ev.pos (by omega) (Ev.pos (by omega) (Ev.pos (by omega) (Ev.cbind (next_is h hl j (by omega)) (Ev.pos (by omega) (Ev.pos (by omega) ?_)))))))))
      rw [rd_is, rd_is, rd_is, rd_is]
      refine Ev.bind (rmeet_ev (pt p i) (pt p (nx p i)) (pt p j) (pt p (nx p j))) (Ev.ite (fun hm => Ev.eq (Ev.now _) (by rw [hm]; rfl)) (fun hm => Ev.eq go ?_))
      rw [Bool.not_eq_true] at hm
      rw [hm]; rfl
theorem rsim_l0 {p : List S23} (h : 3 ≤ p.length) (hl : p.length ≤ 64) : ∀ m i, p.length = i + m → Ev (fun k => r_Simple.l0 k p (p.length : Int) (i : Int)) (outS p.length (fun i => backB (pt p i) (pt p (nx p i)) (pt p (nx p (nx p i)))) (cP p) i m) := by
  intro m
  induction m with
  | zero =>
    intro i hi
    refine Ev.succ ?_
    simp only [r_Simple.l0]
    exact Ev.neg (by omega) (Ev.now _)
  | succ m ih =>
    intro i hi
    have hn := nx_lt h i
    have hn2 := nx_lt h (nx p i)
    refine Ev.succ ?_
    simp only [r_Simple.l0]
    refine Ev.pos (by omega) (Ev.pos (by omega) (Ev.pos (by omega) (Ev.cbind (next_is h hl i (by omega)) (Ev.pos (by omega) (Ev.pos (by omega) (Ev.cbind (next_is h hl i (by omega)) (Ev.cbind (next_is h hl (nx p i) (by omega)) (Ev.pos (by omega) (Ev.pos (by omega) ?_)))))))))
    rw [rd_is, rd_is, rd_is, outS]
    refine Ev.bind (back_ev (pt p i) (pt p (nx p i)) (pt p (nx p (nx p i)))) (Ev.ite (fun hc => Ev.eq (Ev.now _) (by rw [hc]; rfl)) (fun hc => ?_))
    rw [Bool.not_eq_true] at hc
    rw [hc, Bool.not_false, Bool.true_and, show wrap64 ((i : Int) + 2) = ((i + 2 : Nat) : Int) from by rw [w64 (by omega) (by omega)]; omega]
    exact rsim_l1 h hl i (by omega) _ (ih (i + 1) (by omega)) (p.length - (i + 2)) (i + 2) (by omega) (by omega)
theorem rsimple_ev {p : List S23} (h : 3 ≤ p.length) (hl : p.length ≤ 64) : Ev (fun k => r_Simple.f k p) (rsimB p) := by
  unfold r_Simple.f
  exact rsim_l0 h hl p.length 0 (by omega)
def fewP (p : List S23) : Bool := decide ((p.length : Int) ≤ 16) || (decide ((p.length : Int) > 64) && decide ((p.length : Int) ≤ 80))
theorem few_ev (p : List S23) : Ev (fun k => w_few.f k p) (fewP p) := by
  unfold w_few.f fewP
  have hj : ∀ b, Ev (fun k => w_few.j0 k b) b := fun b => Ev.step (f := fun _ => some b) (fun _ => rfl) (Ev.now _)
  refine Ev.ite (fun h => Ev.eq (hj _) (by rw [decide_eq_true h]; rfl)) (fun h => Ev.ite (fun h2 => Ev.eq (hj _) (by rw [decide_eq_false h, decide_eq_true h2]; rfl)) (fun h2 => Ev.eq (hj _) (by rw [decide_eq_false h, decide_eq_false h2]; rfl)))
end Go.Proofs.Ytcembjgpcbodcaa.Pg
