/-
  Free and the reference's Break; equal plans.
-/
import Derived.Test.YtkeomlmlimkebaaZRp10
import Derived.Test.YtkeomlmlimkebaaZQAx10
import Derived.Test.YtkeomlmlimkebaaZQAx12
import Derived.Test.YtkeomlmlimkebaaZQAx13
import Derived.Test.YtkeomlmlimkebaaZQAx11
import Derived.Test.YtkeomlmlimkebaaZQAx5
namespace Go.Proofs.Ytkeomlmlimkebaa.Rq
open Go.RowKit Go.Proofs.Ytkeomlmlimkebaa.QA Go.Proofs.YtkeomlmlimkebaaW.PrintWords Go.Proofs.YtkeomlmlimkebaaW.PrintMore Go.Proofs.Ytkeomlmlimkebaa.EvKit Go.Proofs.Ytkeomlmlimkebaa.MapKit
set_option linter.unusedVariables false
set_option linter.unusedSimpArgs false
def freeL (n : Nat) (U : List Int) (i : Nat) : List Int := (((List.range n).drop i).map fun i : Nat => (i : Int)).filter fun x => decide (idxI U x < 0)
section
variable {F : List (List Int)} {p : Int} {U : List Int} {X : List Bool}
theorem freeL_cons {n i : Nat} (hi : i < n) : freeL n U i = if idxI U (i : Int) < 0 then (i : Int) :: freeL n U (i + 1) else freeL n U (i + 1) := by
  unfold freeL
  rw [range_drop hi, List.map_cons, List.filter_cons]
  by_cases h : idxI U (i : Int) < 0
  · rw [decide_eq_true h, if_pos rfl, if_pos h]
  · rw [decide_eq_false h, if_neg (by decide), if_neg h]
theorem freeL_nil {n i : Nat} (hi : n ≤ i) : freeL n U i = [] := by
  unfold freeL
  rw [List.drop_eq_nil_of_le (by simpa using hi)]
  rfl
theorem free_prog (hG : Good F p U X) : Ev (fun k => replace_Free.l0 k [] p 0 F p U X) (freeL p.toNat U 0, 0) := by
  have hp := hG.ok.p64
  have hp0 := hG.p0
  have hn1 := hG.ok.n1
  have hn3 := hG.ok.n3
  have key : ∀ m i (acc : List Int), p.toNat = i + m → acc.length ≤ i → Ev (fun k => replace_Free.l0 k acc p (i : Int) F p U X) (acc ++ freeL p.toNat U i, 0) := by
    intro m
    induction m with
    | zero =>
      intro i acc hi ha
      refine Ev.succ ?_
      simp only [replace_Free.l0]
      rw [freeL_nil (by omega), List.append_nil]
      exact Ev.neg (by omega) (Ev.now _)
    | succ m ih =>
      intro i acc hi ha
      have hj : ∀ acc', acc'.length ≤ i + 1 → Ev (fun k => replace_Free.l0 k acc' p (wrap64 ((i : Int) + 1)) F p U X) (acc' ++ freeL p.toNat U (i + 1), 0) := by
        intro acc' h
        rw [nxt64 (by omega)]
        exact ih (i + 1) acc' (by omega) h
      refine Ev.succ ?_
      simp only [replace_Free.l0]
      refine Ev.pos (by omega) (Ev.bind (user_ev F p U X _ (by omega)) ?_)
      rw [freeL_cons (by omega)]
      refine Ev.ite (fun h => ?_) (fun h => ?_)
      · rw [if_pos h]
        refine Ev.pos (by omega) (Ev.eq (hj _ (by simp; omega)) ?_)
        simp
      · rw [if_neg h]
        exact hj acc (by omega)
  have := key p.toNat 0 [] (by omega) (by simp)
  rw [List.nil_append] at this
  exact this
theorem free_ref (hG : Good F p U X) : Ev (fun k => r_Free.f k F p U X) (freeL p.toNat U 0) := by
  have hp := hG.ok.p64
  have hp0 := hG.p0
  have hn1 := hG.ok.n1
  have hn3 := hG.ok.n3
  have key : ∀ m i (acc : List Int), p.toNat = i + m → acc.length ≤ i → Ev (fun k => r_Free.l0 k acc (i : Int) F p U X) (acc ++ freeL p.toNat U i) := by
    intro m
    induction m with
    | zero =>
      intro i acc hi ha
      refine Ev.succ ?_
      simp only [r_Free.l0]
      rw [freeL_nil (by omega), List.append_nil]
      exact Ev.neg (by omega) (Ev.now _)
    | succ m ih =>
      intro i acc hi ha
      refine Ev.succ ?_
      simp only [r_Free.l0]
      refine Ev.pos (by omega) (Ev.bind (user_ref F p U X _ (by omega)) ?_)
      rw [freeL_cons (by omega), nxt64 (by omega)]
      refine Ev.ite (fun h => ?_) (fun h => ?_)
      · rw [if_pos h]
        refine Ev.pos (by omega) (Ev.eq (ih (i + 1) _ (by omega) (by simp; omega)) ?_)
        simp
      · rw [if_neg h]
        exact ih (i + 1) acc (by omega) (by omega)
  have := key p.toNat 0 [] (by omega) (by simp)
  rw [List.nil_append] at this
  exact this
/-! ### the reference's Break -/
theorem rb_l1 (hG : Good F p U X) (x : Int) {i : Nat} (hi : i < F.length) {A : List (List Int)} {B : List Int} (hA : A.length = i) (hB : B.length = i) {C : List Bool} {R : List (List Int) × Int × List Int × List Bool}
    (hR : Ev (fun k => r_Break.l0 k x ((i + 1 : Nat) : Int) F p U X (A ++ [remP x (F.getD i [])]) p (B ++ [if U.getD i 0 = x then -1 else U.getD i 0]) C) R) :
    ∀ m j (acc : List Int), (F.getD i []).length = j + m → acc.length ≤ j → acc ++ remP x ((F.getD i []).drop j) = remP x (F.getD i []) → Ev (fun k => r_Break.l1 k x (i : Int) acc (j : Int) F p U X A p B C) R := by
  have hr := hG.row i
  have hn1 := hG.ok.n1
  have hn3 := hG.ok.n3
  intro m
  induction m with
  | zero =>
    intro j acc hj ha he
    rw [List.drop_eq_nil_of_le (by omega), show remP x [] = [] from rfl, List.append_nil] at he
    refine Ev.succ ?_
    simp only [r_Break.l1, rdL, rdN]
    refine Ev.pos (by omega) (Ev.pos (by omega) (Ev.neg (by omega) (Ev.pos (by omega) (Ev.cbind rfl (Ev.pos (by omega) ?_)))))
    rw [nxt64 (by omega), he]
    refine Ev.ite (fun h => Ev.pos (by omega) ?_) (fun h => Ev.pos (by omega) ?_)
    · rw [if_pos h] at hR; exact hR
    · rw [if_neg h] at hR; exact hR
  | succ m ih =>
    intro j acc hj ha he
    have ed := EvKit.drop_cons (F.getD i []) j 0 (by omega)
    rw [ed] at he
    refine Ev.succ ?_
    simp only [r_Break.l1, rdL, rdN]
    refine Ev.pos (by omega) (Ev.pos (by omega) (Ev.pos (by omega) (Ev.pos (by omega) ?_)))
    rw [nxt64 (by omega)]
    unfold remP at he
    rw [List.filter_cons] at he
    refine Ev.ite (fun h => ?_) (fun h => Ev.pos (by omega) ?_)
    · rw [if_neg (by rw [h]; simp)] at he
      exact ih (j + 1) acc (by omega) (by omega) he
    · rw [if_pos (by rw [show ((F.getD i []).getD j 0 == x) = false from beq_eq_false_iff_ne.2 h]; rfl)] at he
      refine ih (j + 1) _ (by omega) (by simp; omega) ?_
      unfold remP
      rw [List.append_assoc]
      exact he
theorem break_ref (hG : Good F p U X) (x : Int) : Ev (fun k => r_Break.f k F p U X x) (F.map (remP x), p, U.map (fun u => if u = x then -1 else u), X) := by
  have hn1 := hG.ok.n1
  have hn2 := hG.ok.n2
  have hn3 := hG.ok.n3
  have key : ∀ m i, F.length = i + m → Ev (fun k => r_Break.l0 k x (i : Int) F p U X ((F.take i).map (remP x)) p ((U.take i).map (fun u => if u = x then -1 else u)) X) (F.map (remP x), p, U.map (fun u => if u = x then -1 else u), X) := by
    intro m
    induction m with
    | zero =>
      intro i hi
      refine Ev.succ ?_
      simp only [r_Break.l0]
      refine Ev.neg (by omega) ?_
      rw [List.take_of_length_le (by omega), List.take_of_length_le (by omega)]
      exact Ev.now _
    | succ m ih =>
      intro i hi
      refine Ev.succ ?_
      simp only [r_Break.l0]
      refine Ev.pos (by omega) (rb_l1 hG x (i := i) (by omega) (by simp; omega) (by simp; omega) ?_ (F.getD i []).length 0 [] (by omega) (by simp) (by rw [List.nil_append, List.drop_zero]))
      have h := ih (i + 1) (by omega)
      have e1 : (F.take (i + 1)).map (remP x) = (F.take i).map (remP x) ++ [remP x (F.getD i [])] := by
        rw [List.take_add_one, List.map_append, List.getElem?_eq_getElem (show i < F.length by omega), List.getD_eq_getElem?_getD, List.getElem?_eq_getElem (show i < F.length by omega)]
        rfl
      have e2 : (U.take (i + 1)).map (fun u => if u = x then -1 else u) = (U.take i).map (fun u => if u = x then -1 else u) ++ [if U.getD i 0 = x then -1 else U.getD i 0] := by
        rw [List.take_add_one, List.map_append, List.getElem?_eq_getElem (show i < U.length by omega), List.getD_eq_getElem?_getD, List.getElem?_eq_getElem (show i < U.length by omega)]
        rfl
      rw [e1, e2] at h
      exact h
  unfold r_Break.f
  refine Ev.cbind rfl (Ev.pos (by simp; omega) ?_)
  exact key F.length 0 (by omega)
end
/-! ### equal plans -/
theorem same_refl (F : List (List Int)) (p : Int) (U : List Int) (X : List Bool) (h1 : F.length < 1000000) (h2 : U.length < 1000000) (h3 : X.length < 1000000) (h4 : ∀ j, j < F.length → (F.getD j []).length < 1000000) : Ev (fun k => r_Same.f k F p U X F p U X) true := by
  have k1 : ∀ m i, X.length = i + m → Ev (fun k => r_Same.l1 k (i : Int) F p U X F p U X) true := by
    intro m
    induction m with
    | zero =>
      intro i hi
      refine Ev.succ ?_
      simp only [r_Same.l1]
      exact Ev.neg (by omega) (Ev.now _)
    | succ m ih =>
      intro i hi
      refine Ev.succ ?_
      simp only [r_Same.l1]
      refine Ev.pos (by omega) (Ev.pos (by omega) (Ev.pos (by omega) (Ev.neg (by simp) ?_)))
      rw [nxt64 (by omega)]
      exact ih (i + 1) (by omega)
  have k0 : ∀ m i, F.length = i + m → Ev (fun k => r_Same.l0 k (i : Int) F p U X F p U X) true := by
    intro m
    induction m with
    | zero =>
      intro i hi
      refine Ev.succ ?_
      simp only [r_Same.l0]
      exact Ev.neg (by omega) (k1 X.length 0 (by omega))
    | succ m ih =>
      intro i hi
      refine Ev.succ ?_
      simp only [r_Same.l0, rdL]
      refine Ev.pos (by omega) (Ev.pos (by omega) (Ev.pos (by omega) (Ev.bind (same_ints _ (h4 i (by omega))) (Ev.pos rfl ?_))))
      rw [nxt64 (by omega)]
      exact ih (i + 1) (by omega)
  unfold r_Same.f
  refine Ev.pos rfl (Ev.pos rfl (Ev.bind (same_ints _ h2) (Ev.pos rfl ?_)))
  rw [bne_self_eq_false]
  refine Ev.succ ?_
  simp only [r_Same.j0]
  exact Ev.neg (by decide) (k0 F.length 0 (by omega))
end Go.Proofs.Ytkeomlmlimkebaa.Rq
