/-
  Valid plans, and the stone that uses a piece.
-/
import Derived.Test.YtkeomlmlimkebaaZRp3
import Derived.Test.YtkeomlmlimkebaaZQAx12
import Derived.Test.YtkeomlmlimkebaaZQAx9
import Derived.Test.YtkeomlmlimkebaaZQAx10
import Derived.Test.YtkeomlmlimkebaaZQAx5
import Derived.Test.YtkeomlmlimkebaaZQAx3
import Derived.Test.YtkeomlmlimkebaaZQAx4
namespace Go.Proofs.Ytkeomlmlimkebaa.Rq
open Go.RowKit Go.Proofs.Ytkeomlmlimkebaa.QA Go.Proofs.YtkeomlmlimkebaaW.PrintWords Go.Proofs.YtkeomlmlimkebaaW.PrintMore Go.Proofs.Ytkeomlmlimkebaa.EvKit Go.Proofs.Ytkeomlmlimkebaa.MapKit
set_option linter.unusedVariables false
set_option linter.unusedSimpArgs false
theorem rdL (F : List (List Int)) (i : Nat) : rd_L1 F (i : Int) = F.getD i [] := by simp [rd_L1]
theorem rdB (l : List Bool) (i : Nat) : rdOf false l (i : Int) = l.getD i false := by simp [rdOf]
theorem user_ref_loop (F : List (List Int)) (p : Int) (U : List Int) (X : List Bool) (x : Int) (hl : U.length < 1099511627776) : ∀ m i, U.length = i + m → Ev (fun k => r_User.l0 k x (i : Int) F p U X) (if x ∈ U.drop i then ((i + (U.drop i).idxOf x : Nat) : Int) else -1) := by
  intro m
  induction m with
  | zero =>
    intro i hi
    refine Ev.succ ?_
    simp only [r_User.l0]
    rw [if_neg (show ¬ x ∈ U.drop i by rw [List.drop_eq_nil_of_le (by omega)]; simp)]
    exact Ev.neg (by omega) (Ev.now _)
  | succ m ih =>
    intro i hi
    have ed : U.drop i = U.getD i 0 :: U.drop (i + 1) := EvKit.drop_cons U i 0 (by omega)
    refine Ev.succ ?_
    simp only [r_User.l0]
    refine Ev.pos (by omega) (Ev.pos (by omega) ?_)
    rw [rdN]
    refine Ev.ite (fun h => ?_) (fun h => ?_)
    · rw [ed, if_pos (by rw [h]; exact List.mem_cons_self ..), h]
      simp only [List.idxOf_cons_self, Nat.add_zero]
      exact Ev.now _
    · rw [nxt64 (by omega)]
      refine Ev.eq (ih (i + 1) (by omega)) ?_
      rw [ed]
      by_cases hm : x ∈ U.drop (i + 1)
      · rw [if_pos hm, if_pos (List.mem_cons_of_mem _ hm), List.idxOf_cons, beq_eq_false_iff_ne.2 h]
        simp only [cond_false]
        omega
      · rw [if_neg hm, if_neg (fun hc => by rcases List.mem_cons.1 hc with hc | hc; exact h hc.symm; exact hm hc)]
theorem user_ref (F : List (List Int)) (p : Int) (U : List Int) (X : List Bool) (x : Int) (hl : U.length < 1099511627776) : Ev (fun k => r_User.f k F p U X x) (idxI U x) := by
  have h := user_ref_loop F p U X x hl U.length 0 (by omega)
  simp only [List.drop_zero, Nat.zero_add] at h
  exact h
theorem idx_usr (U : List Int) (x : Int) : idxI U x = match Rp.usrF U x with | some u => (u : Int) | none => -1 := Rp.usr_idx x
/-- A plan that Check accepts. -/
structure Good (F : List (List Int)) (p : Int) (U : List Int) (X : List Bool) : Prop where
  ok : Rp.PlanOk F U X p.toNat
  p0 : 0 ≤ p
  use : ∀ s, s < F.length → U.getD s 0 = -1 ∨ U.getD s 0 ∈ F.getD s []
  fx : ∀ s, s < F.length → X.getD s false = true → U.getD s 0 ≠ -1
  dup : ∀ j, j < U.length → dupA U j = false
section
variable {F : List (List Int)} {p : Int} {U : List Int} {X : List Bool}
theorem Good.of (h : replace_Check.f F p U X = some 0) : Good F p U X := by
  obtain ⟨h1, h2, h3, h4, h5, h6, h7, h8⟩ := check_ok h
  have hb : ∀ s, s < F.length → incB (F.getD s []) p = true ∧ (U.getD s 0 = -1 ∨ U.getD s 0 ∈ F.getD s []) ∧ (X.getD s false = true → U.getD s 0 ≠ -1) := by
    intro s hs
    have := h7 s hs
    unfold badF badR at this
    simp only [Bool.or_eq_false_iff, Bool.and_eq_false_iff, Bool.not_eq_false', bne_eq_false_iff_eq, decide_eq_true_eq, beq_eq_false_iff_ne, ne_eq] at this
    obtain ⟨⟨a1, a2⟩, a3⟩ := this
    refine ⟨a1, a2, fun hx => ?_⟩
    rcases a3 with a3 | a3
    · exact a3
    · rw [a3] at hx; cases hx
  have hout : ∀ s, ¬ s < F.length → F.getD s [] = [] := fun s hs => by
    rw [List.getD_eq_getElem?_getD, List.getElem?_eq_none (by omega)]; rfl
  refine ⟨⟨h1, h2, h3, fun s => ?_, fun s x hx => ?_, by omega⟩, h4, fun s hs => (hb s hs).2.1, fun s hs => (hb s hs).2.2, h8⟩
  · by_cases hs : s < F.length
    · exact ((incB_iff _ _).1 (hb s hs).1).1
    · show (F.getD s []).Pairwise _
      rw [hout s hs]; simp
  · by_cases hs : s < F.length
    · have := ((incB_iff _ _).1 (hb s hs).1).2 x hx
      omega
    · rw [show Rp.fitF F s = F.getD s [] from rfl, hout s hs] at hx
      simp at hx
theorem Good.lt (hG : Good F p U X) : ∀ x u, Rp.usrF U x = some u → u < F.length := fun x u h => by
  have := (Rp.usr_lt h).1
  have := hG.ok.n1
  omega
theorem Good.row (hG : Good F p U X) (s : Nat) : (F.getD s []).length ≤ 64 := by
  have h := Rp.nodup_len p.toNat (F.getD s []) ((hG.ok.inc s).imp (fun h e => by omega)) (fun x hx => hG.ok.rng s x hx)
  have := hG.ok.p64
  omega
/-- Every use is -1 or a piece. -/
theorem Good.useR (hG : Good F p U X) : ∀ u ∈ U, -1 ≤ u ∧ u ≤ 64 := by
  intro u hu
  obtain ⟨i, hi, rfl⟩ := List.getElem_of_mem hu
  have h1 := hG.use i (by have := hG.ok.n1; omega)
  have e : U.getD i 0 = U[i] := by rw [List.getD_eq_getElem?_getD, List.getElem?_eq_getElem hi]; rfl
  rw [e] at h1
  rcases h1 with h1 | h1
  · omega
  · have := hG.ok.rng i _ h1
    have := hG.ok.p64
    omega
end
end Go.Proofs.Ytkeomlmlimkebaa.Rq
