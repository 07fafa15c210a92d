/-
  Facts that the laws of chapter 48 share: the bounds, the examples, open, Repair and Refusal, and the comparisons.
-/
import Derived.Test.YtkeomlmlimkebaaZRpC
import Derived.Test.YtkeomlmlimkebaaZQAx2
import Derived.Test.YtkeomlmlimkebaaZQAx8
import Derived.Test.YtkeomlmlimkebaaZQAx3
import Derived.Test.YtkeomlmlimkebaaZQAx4
import Derived.Test.YtkeomlmlimkebaaZQAx5
import Derived.Test.YtkeomlmlimkebaaZQAx9
namespace Go.Proofs.Ytkeomlmlimkebaa.Rq
open Go.RowKit Go.Proofs.Ytkeomlmlimkebaa.QA Go.Proofs.YtkeomlmlimkebaaW.PrintWords Go.Proofs.YtkeomlmlimkebaaW.PrintMore Go.Proofs.Ytkeomlmlimkebaa.EvKit Go.Proofs.Ytkeomlmlimkebaa.MapKit
set_option linter.unusedVariables false
set_option linter.unusedSimpArgs false
theorem awake_at : w_awake.f 100 = some true := by decide +kernel
theorem awake_ev : Ev (fun k => w_awake.f k) true := Ev.of w_awake.mono awake_at
theorem awake_some : Ev (fun k => (w_awake.f k).bind fun t => some t) true := Ev.bind awake_ev (Ev.now _)
section
variable {F : List (List Int)} {p : Int} {U : List Int} {X : List Bool}
theorem few_l0 (F : List (List Int)) (p : Int) (U : List Int) (X : List Bool) (hF : F.length ≤ 70) : ∀ m i, F.length = i + m → ∃ b, Ev (fun k => r_Few.l0 k (i : Int) F p U X) b ∧ (b = true → ∀ j, i ≤ j → j < F.length → (F.getD j []).length ≤ 70) := by
  intro m
  induction m with
  | zero =>
    intro i hi
    refine ⟨true, Ev.succ ?_, fun _ j h1 h2 => by omega⟩
    simp only [r_Few.l0]
    exact Ev.neg (by omega) (Ev.now _)
  | succ m ih =>
    intro i hi
    obtain ⟨b, h1, h2⟩ := ih (i + 1) (by omega)
    have hT : Ev (fun k => r_Few.j2 k (i : Int) true F p U X) false := by
      refine Ev.succ ?_
      simp only [r_Few.j2]
      exact Ev.pos (by trivial) (Ev.now _)
    have hFa : Ev (fun k => r_Few.j2 k (i : Int) false F p U X) b := by
      refine Ev.succ ?_
      simp only [r_Few.j2]
      refine Ev.neg (by decide) ?_
      rw [nxt64 (by omega)]
      exact h1
    have key : ∀ r, ((F.getD i []).length > 70 → r = false) → ((F.getD i []).length ≤ 70 → F.length > 20 → (F.getD i []).length > 4 → r = false) → ((F.getD i []).length ≤ 70 → (F.length > 20 → (F.getD i []).length ≤ 4) → r = b) → Ev (fun k => r_Few.l0 k (i : Int) F p U X) r := by
      intro r c1 c2 c3
      refine Ev.succ ?_
      simp only [r_Few.l0, rdL]
      refine Ev.pos (by omega) (Ev.pos (by omega) (Ev.ite (fun e => ?_) (fun e => Ev.ite (fun e2 => ?_) (fun e2 => ?_))))
      · rw [c1 (by omega)]; exact hT
      · by_cases e3 : ((F.getD i []).length : Int) > 4
        · rw [decide_eq_true e3, c2 (by omega) (by omega) (by omega)]; exact hT
        · rw [decide_eq_false e3, c3 (by omega) (by omega)]; exact hFa
      · rw [c3 (by omega) (by omega)]; exact hFa
    by_cases e1 : (F.getD i []).length > 70
    · exact ⟨false, key false (fun _ => rfl) (fun h => by omega) (fun h => by omega), fun h => by cases h⟩
    · by_cases e2 : F.length > 20 ∧ (F.getD i []).length > 4
      · exact ⟨false, key false (fun _ => rfl) (fun _ _ _ => rfl) (fun _ h => by have := h e2.1; omega), fun h => by cases h⟩
      · refine ⟨b, key b (fun h => by omega) (fun _ h h3 => (e2 ⟨h, h3⟩).elim) (fun _ _ => rfl), fun hb j hj hj2 => ?_⟩
        by_cases e3 : j = i
        · subst e3; omega
        · exact h2 hb j (by omega) hj2
theorem few_ev (F : List (List Int)) (p : Int) (U : List Int) (X : List Bool) : ∃ b, Ev (fun k => r_Few.f k F p U X) b ∧ (b = true → F.length ≤ 70 ∧ U.length ≤ 70 ∧ X.length ≤ 70 ∧ ∀ j, j < F.length → (F.getD j []).length < 1000000) := by
  have hT : Ev (fun k => r_Few.j0 k true F p U X) false := by
    refine Ev.succ ?_
    simp only [r_Few.j0]
    exact Ev.pos (by trivial) (Ev.now _)
  unfold r_Few.f
  by_cases h1 : (F.length : Int) > 70
  · exact ⟨false, Ev.pos h1 hT, fun h => by cases h⟩
  · by_cases h2 : (U.length : Int) > 70
    · exact ⟨false, Ev.neg h1 (Ev.pos h2 hT), fun h => by cases h⟩
    · by_cases h3 : (X.length : Int) > 70
      · refine ⟨false, Ev.neg h1 (Ev.neg h2 ?_), fun h => by cases h⟩
        rw [decide_eq_true h3]; exact hT
      · obtain ⟨b, h4, h5⟩ := few_l0 F p U X (by omega) F.length 0 (by omega)
        refine ⟨b, Ev.neg h1 (Ev.neg h2 ?_), fun hb => ⟨by omega, by omega, by omega, fun j hj => by have := h5 hb j (by omega) hj; omega⟩⟩
        rw [decide_eq_false h3]
        refine Ev.succ ?_
        simp only [r_Few.j0]
        exact Ev.neg (by decide) h4
/-- What open says. -/
def opE (e : Int) (F : List (List Int)) (U : List Int) (a1 : Int) : Int := if e = 0 then (if a1 < 0 ∨ a1 ≥ (F.length : Int) then 6 else if U.getD a1.toNat 0 = -1 then 0 else 8) else e
theorem open_is {a1 e : Int} (k : Nat) (he : replace_Check.f F p U X = some e) : replace_open.f (k + 1) F p U X a1 = some (opE e F U a1) := by
  unfold replace_open.f opE
  rw [he]
  show (if e = 0 then _ else _) = _
  by_cases h : e = 0
  · subst h
    have hG := Good.of he
    have hn1 := hG.ok.n1
    rw [if_pos rfl, if_pos rfl]
    by_cases h1 : a1 < 0
    · rw [if_pos h1, if_pos (Or.inl h1), replace_open.j0, if_pos rfl]
    · rw [if_neg h1]
      by_cases h2 : a1 ≥ (F.length : Int)
      · rw [decide_eq_true h2, if_pos (Or.inr h2), replace_open.j0, if_pos rfl]
      · rw [decide_eq_false h2, if_neg (by omega), replace_open.j0, if_neg (by decide), if_pos (by omega), if_pos (by omega)]
        show (if U.getD a1.toNat 0 = -1 then some 0 else some 8) = _
        split <;> rfl
  · rw [if_neg h, if_neg h]
theorem Repair_err {a1 e : Int} (he : replace_Check.f F p U X = some e) (h : opE e F U a1 ≠ 0) : replace_Repair.f F p U X a1 = some ([], opE e F U a1) := by
  unfold replace_Repair.f
  rw [open_is 9999 he]
  show (if opE e F U a1 = 0 then _ else _) = _
  rw [if_neg h]
theorem Refusal_err {a1 e : Int} (he : replace_Check.f F p U X = some e) (h : opE e F U a1 ≠ 0) : replace_Refusal.f F p U X a1 = some ([], [], opE e F U a1) := by
  unfold replace_Refusal.f
  rw [open_is 9999 he]
  show (if opE e F U a1 = 0 then _ else _) = _
  rw [if_neg h]
theorem opE_zero {a1 e : Int} (h : opE e F U a1 = 0) : e = 0 ∧ 0 ≤ a1 ∧ a1 < (F.length : Int) ∧ U.getD a1.toNat 0 = -1 := by
  unfold opE at h
  by_cases h1 : e = 0
  · rw [if_pos h1] at h
    by_cases h2 : a1 < 0 ∨ a1 ≥ (F.length : Int)
    · rw [if_pos h2] at h; omega
    · rw [if_neg h2] at h
      by_cases h3 : U.getD a1.toNat 0 = -1
      · exact ⟨h1, by omega, by omega, h3⟩
      · rw [if_neg h3] at h; omega
  · rw [if_neg h1] at h; exact (h1 h).elim
def repOf : Sum (List S52) (List Int × List Int) → List S52 × Int
  | .inl L => (L, 0)
  | .inr _ => ([], 9)
def refOf : Sum (List S52) (List Int × List Int) → List Int × List Int × Int
  | .inl L => ([], [], 9)
  | .inr x => (x.1, x.2, 0)
theorem Repair_ok {a1 : Int} {s : Sum (List S52) (List Int × List Int)} (he : replace_Check.f F p U X = some 0) (h : opE 0 F U a1 = 0) (hs : replace_search.f 10000 F p U X a1 = some s) : replace_Repair.f F p U X a1 = some (repOf s) := by
  unfold replace_Repair.f
  rw [open_is 9999 he]
  show (if opE 0 F U a1 = 0 then _ else _) = _
  rw [if_pos h, hs]
  cases s <;> rfl
theorem Refusal_ok {a1 : Int} {s : Sum (List S52) (List Int × List Int)} (he : replace_Check.f F p U X = some 0) (h : opE 0 F U a1 = 0) (hs : replace_search.f 10000 F p U X a1 = some s) : replace_Refusal.f F p U X a1 = some (refOf s) := by
  unfold replace_Refusal.f
  rw [open_is 9999 he]
  show (if opE 0 F U a1 = 0 then _ else _) = _
  rw [if_pos h, hs]
  cases s <;> rfl
end
/-! ### comparisons -/
theorem changes_ev (l : List S52) (hl : l.length < 1000000) : Ev (fun k => w_changes.f k l) (l.map fun x => (⟨x.f0, x.f1, x.f2⟩ : S69)) := by
  unfold w_changes.f
  have key : ∀ m i (acc : List S69), l.length = i + m → acc.length = i → Ev (fun k => w_changes.l0 k l acc (i : Int)) (acc ++ (l.drop i).map fun x => (⟨x.f0, x.f1, x.f2⟩ : S69)) := by
    intro m
    induction m with
    | zero =>
      intro i acc hi ha
      refine Ev.succ ?_
      simp only [w_changes.l0]
      rw [List.drop_eq_nil_of_le (by omega)]
      refine Ev.neg (by omega) ?_
      simp only [List.map_nil, List.append_nil]
      exact Ev.now _
    | succ m ih =>
      intro i acc hi ha
      refine Ev.succ ?_
      simp only [w_changes.l0]
      refine Ev.pos (by omega) (Ev.pos (by omega) (Ev.pos (by omega) ?_))
      rw [nxt64 (by omega)]
      refine Ev.eq (ih (i + 1) _ (by omega) (by simp; omega)) ?_
      rw [EvKit.drop_cons l i z52 (by omega)]
      have e : rd_T52 l (i : Int) = l.getD i z52 := by unfold rd_T52; rw [Int.toNat_natCast]
      rw [e]
      simp
  have := key l.length 0 [] (by omega) rfl
  rw [List.drop_zero, List.nil_append] at this
  exact this
theorem same_changes (l : List S69) (hl : l.length < 1000000) : Ev (fun k => r_SameChanges.f k l l) true := by
  unfold r_SameChanges.f
  have key : ∀ m i, l.length = i + m → Ev (fun k => r_SameChanges.l0 k l l (i : Int)) true := by
    intro m
    induction m with
    | zero =>
      intro i hi
      refine Ev.succ ?_
      simp only [r_SameChanges.l0]
      exact Ev.neg (by omega) (Ev.now _)
    | succ m ih =>
      intro i hi
      refine Ev.succ ?_
      simp only [r_SameChanges.l0]
      refine Ev.pos (by omega) (Ev.pos (by omega) (Ev.pos (by omega) (Ev.neg (by simp) ?_)))
      rw [nxt64 (by omega)]
      exact ih (i + 1) (by omega)
  exact Ev.pos rfl (key l.length 0 (by omega))
theorem same_ints (l : List Int) (hl : l.length < 1000000) : Ev (fun k => r_SameInts.f k l l) true := by
  unfold r_SameInts.f
  have key : ∀ m i, l.length = i + m → Ev (fun k => r_SameInts.l0 k l l (i : Int)) true := by
    intro m
    induction m with
    | zero =>
      intro i hi
      refine Ev.succ ?_
      simp only [r_SameInts.l0]
      exact Ev.neg (by omega) (Ev.now _)
    | succ m ih =>
      intro i hi
      refine Ev.succ ?_
      simp only [r_SameInts.l0]
      refine Ev.pos (by omega) (Ev.pos (by omega) (Ev.pos (by omega) (Ev.pos (by trivial) ?_)))
      rw [nxt64 (by omega)]
      exact ih (i + 1) (by omega)
  exact Ev.pos rfl (key l.length 0 (by omega))
end Go.Proofs.Ytkeomlmlimkebaa.Rq
