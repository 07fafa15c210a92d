import Derived.Test.YtcembjgpcbodcaaDCPg1
import Derived.Test.YtcembjgpcbodcaaDCQAx2
import Derived.Test.YtcembjgpcbodcaaDCQAx5
import Derived.Test.YtcembjgpcbodcaaDCQAx13
import Derived.Test.YtcembjgpcbodcaaDCQAx0
import Derived.Test.YtcembjgpcbodcaaDCQAx12
import Derived.Test.YtcembjgpcbodcaaDCQAx11
/-
  Polygons: the check, simplicity, sides: both reckon the same.
-/
namespace Go.Proofs.Ytcembjgpcbodcaa.Pg
open Go.RowKit Go.Proofs.Ytcembjgpcbodcaa.QA Go.Proofs.YtcembjgpcbodcaaW.PrintWords Go.Proofs.YtcembjgpcbodcaaW.PrintLast Go.Proofs.YtcembjgpcbodcaaW.PrintMore Go.Proofs.Ytcembjgpcbodcaa.EvKit
set_option linter.unusedVariables false
set_option linter.unusedSimpArgs false
def pt (p : List S23) (i : Nat) : S23 := p.getD i z23
theorem rd_is (p : List S23) (i : Nat) : rd_T23 p (i : Int) = pt p i := by simp [rd_T23, pt]
def nx (p : List S23) (i : Nat) : Nat := (i + 1) % p.length
theorem nx_lt {p : List S23} (h : 3 ≤ p.length) (i : Nat) : nx p i < p.length := Nat.mod_lt _ (by omega)
theorem tm_is {p : List S23} (h : 3 ≤ p.length) (hl : p.length ≤ 64) (i : Nat) (hi : i ≤ 1000) : Int.tmod (wrap64 ((i : Int) + 1)) (p.length : Int) = (nx p i : Int) := by
  rw [w64 (by omega) (by omega), Int.tmod_eq_emod_of_nonneg (by omega)]
  unfold nx
  rw [Int.natCast_emod]
  rfl
theorem end_is {p : List S23} (h : 3 ≤ p.length) (hl : p.length ≤ 64) (i : Nat) (hi : i ≤ 1000) : polygon_end.f p (i : Int) = some ((pt p (nx p i)).f0, (pt p (nx p i)).f1) := by
  unfold polygon_end.f
  have := nx_lt h i
  rw [tm_is h hl i hi, if_neg (by omega), if_pos (by omega), if_pos (by omega), rd_is]
theorem next_is {p : List S23} (h : 3 ≤ p.length) (hl : p.length ≤ 64) (i : Nat) (hi : i ≤ 1000) : gangsawref05_next.f p (i : Int) = some (nx p i : Int) := by
  unfold gangsawref05_next.f
  rw [tm_is h hl i hi, if_neg (by omega)]
def anyF (f : Nat → Bool) : Nat → Nat → Bool
  | _, 0 => false
  | i, m + 1 => f i || anyF f (i + 1) m
theorem anyF_iff (f : Nat → Bool) : ∀ m i, anyF f i m = true ↔ ∃ j, i ≤ j ∧ j < i + m ∧ f j = true
  | 0, i => by simp [anyF]; intro j h1 h2; omega
  | m + 1, i => by
    rw [anyF, Bool.or_eq_true, anyF_iff f m (i + 1)]
    constructor
    · rintro (h | ⟨j, h1, h2, h3⟩)
      · exact ⟨i, Nat.le_refl _, by omega, h⟩
      · exact ⟨j, by omega, by omega, h3⟩
    · rintro ⟨j, h1, h2, h3⟩
      by_cases e : j = i
      · subst e; exact .inl h3
      · exact .inr ⟨j, by omega, by omega, h3⟩
def eqB (a b : S23) : Bool := a.f0 == b.f0 && (a.f1 == b.f1)
theorem eqB_iff (a b : S23) : eqB a b = true ↔ a.f0 = b.f0 ∧ a.f1 = b.f1 := by unfold eqB; simp
def prv (p : List S23) (i : Nat) : Nat := if i = 0 then p.length - 1 else i - 1
def dupP (p : List S23) : Bool := anyF (fun i => eqB (pt p i) (pt p (nx p i))) 0 p.length
theorem dup_prv {p : List S23} (h : 3 ≤ p.length) : anyF (fun i => eqB (pt p i) (pt p (prv p i))) 0 p.length = dupP p := by
  rw [Bool.eq_iff_iff]
  unfold dupP
  rw [anyF_iff, anyF_iff]
  constructor
  · rintro ⟨j, h1, h2, h3⟩
    refine ⟨prv p j, Nat.zero_le _, by unfold prv; split <;> omega, ?_⟩
    have e : nx p (prv p j) = j := by
      unfold nx prv
      split
      · rename_i h0
        rw [show p.length - 1 + 1 = p.length by omega, Nat.mod_self]; omega
      · rw [show j - 1 + 1 = j by omega, Nat.mod_eq_of_lt (by omega)]
    rw [eqB_iff] at h3 ⊢
    rw [e]
    exact ⟨h3.1.symm, h3.2.symm⟩
  · rintro ⟨j, h1, h2, h3⟩
    have hl := nx_lt h j
    refine ⟨nx p j, Nat.zero_le _, by omega, ?_⟩
    have e : prv p (nx p j) = j := by
      unfold nx prv
      by_cases hj : j + 1 < p.length
      · rw [Nat.mod_eq_of_lt hj, if_neg (by omega)]; omega
      · have : j + 1 = p.length := by omega
        rw [this, Nat.mod_self, if_pos rfl]; omega
    rw [eqB_iff] at h3 ⊢
    rw [e]
    exact ⟨h3.1.symm, h3.2.symm⟩
def ckP (p : List S23) : Int := if p.length > 64 then 7 else if p.length < 3 then 1 else if p.all nearP = true then (if dupP p = true then 5 else 0) else 6
def ckQ (p o : List S23) : Int := if p.length > 64 then 7 else if p.length < 3 then 1 else if p.all nearP = true then (if o.all nearP = true then (if dupP p = true then 5 else 0) else 6) else 6
theorem ckQ_nil (p : List S23) : ckQ p [] = ckP p := rfl
theorem check_l0 {p : List S23} (h : 3 ≤ p.length) (hl : p.length ≤ 64) : ∀ m i, p.length = i + m → Ev (fun k => polygon_check.l0 k p (p.length : Int) (i : Int) (pt p (prv p i)).f0 (pt p (prv p i)).f1) (if anyF (fun i => eqB (pt p i) (pt p (prv p i))) i m = true then 5 else 0) := by
  intro m
  induction m with
  | zero =>
    intro i hi
    refine Ev.succ ?_
    simp only [polygon_check.l0]
    exact Ev.neg (by omega) (Ev.now _)
  | succ m ih =>
    intro i hi
    refine Ev.succ ?_
    simp only [polygon_check.l0]
    refine Ev.pos (by omega) (Ev.pos (by omega) (Ev.pos (by omega) ?_))
    rw [rd_is, anyF]
    refine Ev.ite (fun hc => Ev.eq (Ev.now _) ?_) (fun hc => ?_)
    · have : eqB (pt p i) (pt p (prv p i)) = true := hc
      rw [this]; rfl
    · have : eqB (pt p i) (pt p (prv p i)) = false := by rw [← Bool.not_eq_true]; exact hc
      rw [this, Bool.false_or, show wrap64 ((i : Int) + 1) = ((i + 1 : Nat) : Int) from by rw [w64 (by omega) (by omega)]; omega]
      have := ih (i + 1) (by omega)
      rwa [show prv p (i + 1) = i by unfold prv; simp] at this
theorem check_ev (p o : List S23) : Ev (fun k => polygon_check.f k p o) (ckQ p o) := by
  unfold polygon_check.f ckQ
  refine Ev.ite (fun h => Ev.eq (Ev.now _) (by rw [if_pos (by omega)])) (fun h => Ev.ite (fun h2 => Ev.eq (Ev.now _) (by rw [if_neg (by omega), if_pos (by omega)])) (fun h2 => ?_))
  rw [if_neg (by omega), if_neg (by omega)]
  refine Ev.cbind (a := p.all nearP) rfl (Ev.ite (fun h3 => Ev.cbind (a := o.all nearP) rfl (Ev.ite (fun h4 => ?_) (fun h4 => by rw [if_pos h3, if_neg h4]; exact Ev.now _))) (fun h3 => by rw [if_neg h3]; exact Ev.now _))
  rw [if_pos h3, if_pos h4, w64 (n := (p.length : Int) - 1) (by omega) (by omega)]
  refine Ev.pos (by omega) (Ev.pos (by omega) ?_)
  rw [show (p.length : Int) - 1 = ((p.length - 1 : Nat) : Int) by omega, rd_is, ← dup_prv (by omega)]
  exact check_l0 (by omega) (by omega) p.length 0 (by omega)
theorem rcheck_l1 {p : List S23} (h : 3 ≤ p.length) (hl : p.length ≤ 64) : ∀ m i, p.length = i + m → Ev (fun k => gangsawref05_Check.l1 k p (i : Int)) (if anyF (fun i => eqB (pt p i) (pt p (nx p i))) i m = true then 5 else 0) := by
  intro m
  induction m with
  | zero =>
    intro i hi
    refine Ev.succ ?_
    simp only [gangsawref05_Check.l1]
    exact Ev.neg (by omega) (Ev.now _)
  | succ m ih =>
    intro i hi
    have hn := nx_lt h i
    refine Ev.succ ?_
    simp only [gangsawref05_Check.l1]
    refine Ev.pos (by omega) (Ev.pos (by omega) (Ev.cbind (next_is h hl i (by omega)) (Ev.pos (by omega) (Ev.pos (by omega) ?_))))
    rw [rd_is, rd_is, anyF]
    refine Ev.ite (fun hc => Ev.eq (Ev.now _) ?_) (fun hc => ?_)
    · have : eqB (pt p i) (pt p (nx p i)) = true := hc
      rw [this]; rfl
    · have : eqB (pt p i) (pt p (nx p i)) = false := by rw [← Bool.not_eq_true]; exact hc
      rw [this, Bool.false_or, show wrap64 ((i : Int) + 1) = ((i + 1 : Nat) : Int) from by rw [w64 (by omega) (by omega)]; omega]
      exact ih (i + 1) (by omega)
theorem rcheck_l0 {p : List S23} (h : 3 ≤ p.length) (hl : p.length ≤ 64) : ∀ m i, p.length = i + m → Ev (fun k => gangsawref05_Check.l0 k p (i : Int)) (if (p.drop i).all nearP = true then (if dupP p = true then 5 else 0) else 6) := by
  intro m
  induction m with
  | zero =>
    intro i hi
    refine Ev.succ ?_
    simp only [gangsawref05_Check.l0]
    refine Ev.neg (by omega) ?_
    rw [List.drop_of_length_le (show p.length ≤ i by omega)]
    exact rcheck_l1 h hl p.length 0 (by omega)
  | succ m ih =>
    intro i hi
    refine Ev.succ ?_
    simp only [gangsawref05_Check.l0]
    have e : p.drop i = pt p i :: p.drop (i + 1) := drop_cons p i z23 (by omega)
    refine Ev.pos (by omega) (Ev.pos (by omega) ?_)
    rw [rd_is, e, List.all_cons]
    refine Ev.bind (allowed_ev (pt p i).f0 (pt p i).f1) (Ev.ite (fun hc => ?_) (fun hc => Ev.eq (Ev.now _) ?_))
    · have : nearP (pt p i) = true := hc
      rw [this, Bool.true_and, show wrap64 ((i : Int) + 1) = ((i + 1 : Nat) : Int) from by rw [w64 (by omega) (by omega)]; omega]
      exact ih (i + 1) (by omega)
    · have : nearP (pt p i) = false := by rw [← Bool.not_eq_true]; exact hc
      rw [this]; rfl
theorem rcheck_ev (p : List S23) : Ev (fun k => gangsawref05_Check.f k p) (ckP p) := by
  unfold gangsawref05_Check.f ckP
  refine Ev.ite (fun h => Ev.eq (Ev.now _) (by rw [if_pos (by omega)])) (fun h => Ev.ite (fun h2 => Ev.eq (Ev.now _) (by rw [if_neg (by omega), if_pos (by omega)])) (fun h2 => ?_))
  rw [if_neg (by omega), if_neg (by omega)]
  exact rcheck_l0 (by omega) (by omega) p.length 0 (by omega)
/-- A valid polygon. -/
structure Val (p : List S23) : Prop where
  l : 3 ≤ p.length
  h : p.length ≤ 64
  a : ∀ x ∈ p, okP x
  d : ∀ i, i < p.length → ¬ ((pt p i).f0 = (pt p (nx p i)).f0 ∧ (pt p i).f1 = (pt p (nx p i)).f1)
theorem Val.of {p : List S23} (h : ckP p = 0) : Val p := by
  unfold ckP at h
  split at h; · cases h
  rename_i h1
  split at h; · cases h
  rename_i h2
  split at h
  case isFalse => cases h
  case isTrue h3 =>
  split at h; · cases h
  rename_i h4
  rw [List.all_eq_true] at h3
  refine ⟨by omega, by omega, fun x hx => (nearP_is x).1 (h3 x hx), fun i hi he => h4 ?_⟩
  unfold dupP
  rw [anyF_iff]
  exact ⟨i, Nat.zero_le _, by omega, (eqB_iff _ _).2 he⟩
theorem stp {i : Nat} (h : i ≤ 1000) : wrap64 ((i : Int) + 1) = ((i + 1 : Nat) : Int) := by rw [w64 (by omega) (by omega)]; omega
def fewP (p : List S23) : Bool := decide ((p.length : Int) ≤ 16) || (decide ((p.length : Int) > 64) && decide ((p.length : Int) ≤ 80))
theorem few_ev (p : List S23) : Ev (fun k => gangsawlaw05_few.f k p) (fewP p) := by
  unfold gangsawlaw05_few.f fewP
  have hj : ∀ b, Ev (fun k => gangsawlaw05_few.j0 k b) b := fun b => Ev.step (f := fun _ => some b) (fun _ => rfl) (Ev.now _)
  refine Ev.ite (fun h => Ev.eq (hj _) (by rw [decide_eq_true h]; rfl)) (fun h => Ev.ite (fun h2 => Ev.eq (hj _) (by rw [decide_eq_false h, decide_eq_true h2]; rfl)) (fun h2 => Ev.eq (hj _) (by rw [decide_eq_false h, decide_eq_false h2]; rfl)))
end Go.Proofs.Ytcembjgpcbodcaa.Pg
