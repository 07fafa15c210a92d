import Derived.Test.YtpjgmlnnhcnelaaDCSh1
import Derived.Test.YtpjgmlnnhcnelaaDCQAx6
import Derived.Test.YtpjgmlnnhcnelaaDCQAx7
import Derived.Test.YtpjgmlnnhcnelaaDCQAx8
import Derived.Test.YtpjgmlnnhcnelaaDCQAx5
/-
  Lists of ranges that lie in order: which minutes they hold, how many; and what the loops over them come to.
-/
namespace Go.Proofs.Ytpjgmlnnhcnelaa.Sh
open Go.RowKit Go.Proofs.Ytpjgmlnnhcnelaa.QA Go.Proofs.YtpjgmlnnhcnelaaW.PrintWords Go.Proofs.YtpjgmlnnhcnelaaW.PrintLast Go.Proofs.YtpjgmlnnhcnelaaW.PrintMore Go.Proofs.Ytpjgmlnnhcnelaa.EvKit
set_option linter.unusedVariables false
set_option linter.unusedSimpArgs false
abbrev R := Int × Int
structure Srt (Z : List R) : Prop where
  p : Z.Pairwise (fun x y => x.2 ≤ y.1)
  v : ∀ x ∈ Z, x.1 < x.2 ∧ 0 ≤ x.1 ∧ x.2 ≤ 14400000
theorem Srt.lt {x : R} {Z : List R} (h : Srt (x :: Z)) : ∀ y ∈ Z, x.2 ≤ y.1 := (List.pairwise_cons.1 h.p).1
def opn (Z : List R) (m : Int) : Prop := ∃ x ∈ Z, x.1 ≤ m ∧ m < x.2
theorem opn_nil (m : Int) : ¬ opn [] m := fun ⟨x, h, _⟩ => by simp at h
theorem opn_cons (x : R) (Z : List R) (m : Int) : opn (x :: Z) m ↔ (x.1 ≤ m ∧ m < x.2) ∨ opn Z m := by
  constructor
  · rintro ⟨y, hy, h⟩
    rcases List.mem_cons.1 hy with rfl | hy
    · exact .inl h
    · exact .inr ⟨y, hy, h⟩
  · rintro (h | ⟨y, hy, h⟩)
    · exact ⟨x, by simp, h⟩
    · exact ⟨y, by simp [hy], h⟩
theorem opn_append (Y Z : List R) (m : Int) : opn (Y ++ Z) m ↔ opn Y m ∨ opn Z m := by
  induction Y with
  | nil => simp [opn_nil]
  | cons x Y ih => rw [List.cons_append, opn_cons, ih, opn_cons, or_assoc]
/-- Ranges that lie in the other order. -/
structure Dsc (Z : List R) : Prop where
  p : Z.Pairwise (fun x y => y.2 ≤ x.1)
  v : ∀ x ∈ Z, x.1 < x.2 ∧ 0 ≤ x.1 ∧ x.2 ≤ 14400000
def rawK (sh : List S54) (fr : List Int) (d0 : Int) : Nat → List R
  | 0 => []
  | k + 1 => rawK sh fr d0 k ++ ofL sh fr (d0 + k)
/-- All days' ranges; behind a choice, so that nothing unfolds ten thousand days. -/
theorem Z0_ex (sh : List S54) (fr : List Int) : ∃ Z, Z = rawK sh fr 0 10000 := ⟨_, rfl⟩
noncomputable def Z0 (sh : List S54) (fr : List Int) : List R := Classical.choose (Z0_ex sh fr)
theorem Z0_eq (sh : List S54) (fr : List Int) : Z0 sh fr = rawK sh fr 0 10000 := Classical.choose_spec (Z0_ex sh fr)
theorem ofL_mem {sh : List S54} {fr : List Int} (hV : Val sh fr) {d : Int} {x : R} (h : x ∈ ofL sh fr d) : 0 ≤ d ∧ d < 10000 ∧ d * 1440 ≤ x.1 ∧ x.1 < x.2 ∧ x.2 ≤ d * 1440 + 1440 := by
  unfold ofL at h
  split at h
  case isFalse => simp at h
  case isTrue hd =>
    unfold dayOn at hd
    simp only [Bool.and_eq_true, decide_eq_true_eq] at hd
    unfold ofS at h
    obtain ⟨s, hs, rfl⟩ := List.mem_map.1 h
    have := hV.s s (List.mem_filter.1 hs).1
    simp only
    omega
theorem ofS_srt {sh : List S54} {fr : List Int} (hV : Val sh fr) (d : Int) : (ofS sh d).Pairwise (fun x y => x.2 ≤ y.1) := by
  unfold ofS
  rw [List.pairwise_map]
  have h1 := hV.p.filter (fun s => s.f0 == d % 7 + 1)
  refine h1.imp_of_mem ?_
  intro a b ha hb h
  have e1 := (List.mem_filter.1 ha).2
  have e2 := (List.mem_filter.1 hb).2
  simp only [beq_iff_eq] at e1 e2
  simp only
  omega
theorem ofL_srt {sh : List S54} {fr : List Int} (hV : Val sh fr) (d : Int) : (ofL sh fr d).Pairwise (fun x y => x.2 ≤ y.1) := by
  unfold ofL
  split
  · exact ofS_srt hV d
  · exact List.Pairwise.nil
theorem rawK_mem {sh : List S54} {fr : List Int} (hV : Val sh fr) (d0 : Int) : ∀ k x, x ∈ rawK sh fr d0 k → x.1 < x.2 ∧ 0 ≤ x.1 ∧ x.2 ≤ 14400000 ∧ d0 * 1440 ≤ x.1 ∧ x.2 ≤ (d0 + k) * 1440 := by
  intro k
  induction k with
  | zero => intro x h; simp [rawK] at h
  | succ k ih =>
    intro x h
    rw [rawK] at h
    rcases List.mem_append.1 h with h | h
    · have := ih x h; omega
    · have := ofL_mem hV h; omega
theorem rawK_srt {sh : List S54} {fr : List Int} (hV : Val sh fr) (d0 : Int) : ∀ k, Srt (rawK sh fr d0 k) := by
  intro k
  refine ⟨?_, fun x hx => by have := rawK_mem hV d0 k x hx; omega⟩
  induction k with
  | zero => exact List.Pairwise.nil
  | succ k ih =>
    rw [rawK, List.pairwise_append]
    refine ⟨ih, ofL_srt hV _, fun x hx y hy => ?_⟩
    have h1 := rawK_mem hV d0 k x hx
    have h2 := ofL_mem hV hy
    omega
theorem Z0_srt {sh : List S54} {fr : List Int} (hV : Val sh fr) : Srt (Z0 sh fr) := by rw [Z0_eq]; exact rawK_srt hV 0 10000
theorem rawK_opn {sh : List S54} {fr : List Int} (hV : Val sh fr) (m d0 : Int) : ∀ k, opn (rawK sh fr d0 k) m ↔ d0 ≤ m / 1440 ∧ m / 1440 < d0 + k ∧ opn (ofL sh fr (m / 1440)) m := by
  intro k
  induction k with
  | zero => exact ⟨fun h => (opn_nil _ h).elim, fun h => by omega⟩
  | succ k ih =>
    rw [rawK, opn_append, ih]
    constructor
    · rintro (⟨q1, q2, q3⟩ | ⟨x, hx, q1, q2⟩)
      · exact ⟨q1, by omega, q3⟩
      · have := ofL_mem hV hx
        have e : m / 1440 = d0 + k := by omega
        exact ⟨by omega, by omega, ⟨x, by rw [e]; exact hx, q1, q2⟩⟩
    · rintro ⟨q1, q2, q3⟩
      by_cases e : m / 1440 = d0 + k
      · exact .inr (by rw [← e]; exact q3)
      · exact .inl ⟨q1, by omega, q3⟩
theorem open_is {sh : List S54} {fr : List Int} (hV : Val sh fr) (m : Int) : openR (ofL sh fr (m / 1440)) m = true ↔ opn (Z0 sh fr) m := by
  rw [Z0_eq]
  rw [rawK_opn hV]
  unfold openR
  rw [List.any_eq_true]
  unfold inside
  constructor
  · rintro ⟨x, hx, h⟩
    simp only [Bool.and_eq_true, decide_eq_true_eq] at h
    have := ofL_mem hV hx
    exact ⟨by omega, by omega, x, hx, h⟩
  · rintro ⟨_, _, x, hx, h⟩
    exact ⟨x, hx, by simp only [Bool.and_eq_true, decide_eq_true_eq]; exact h⟩
end Go.Proofs.Ytpjgmlnnhcnelaa.Sh
