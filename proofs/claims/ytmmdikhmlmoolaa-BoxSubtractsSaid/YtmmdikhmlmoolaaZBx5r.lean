/-
  Chapter 06: the reference's CheckAll, Intersect, Subtract, Rest, Same.
-/
import Derived.Test.YtmmdikhmlmoolaaZBx5
import Derived.Test.YtmmdikhmlmoolaaZBx1
import Derived.Test.YtmmdikhmlmoolaaZQAx3
import Derived.Test.YtmmdikhmlmoolaaZQAx26
import Derived.Test.YtmmdikhmlmoolaaZQAx20
namespace Go.Proofs.Ytmmdikhmlmoolaa.Bx
open Go.RowKit Go.Proofs.Ytmmdikhmlmoolaa.QA Go.Proofs.YtmmdikhmlmoolaaW.PrintWords Go.Proofs.YtmmdikhmlmoolaaW.PrintLast Go.Proofs.YtmmdikhmlmoolaaW.PrintMore Go.Proofs.Ytmmdikhmlmoolaa.EvKit
set_option linter.unusedVariables false
set_option linter.unusedSimpArgs false
theorem rall_l0 (l : List S25) (hl : l.length ≤ 1000000) : ∀ m i, l.length = i + m → Ev (fun k => r_CheckAll.l0 k l (i : Int)) (chkL (l.drop i)) := by
  intro m
  induction m with
  | zero =>
    intro i hi
    refine Ev.succ ?_
    simp only [r_CheckAll.l0]
    rw [List.drop_of_length_le (by omega)]
    exact Ev.neg (by omega) (Ev.now _)
  | succ m ih =>
    intro i hi
    refine Ev.succ ?_
    simp only [r_CheckAll.l0]
    rw [drop_cons l i z25 (by omega), chkL, rdN, stp (by omega)]
    refine Ev.pos (by omega) (Ev.pos (by omega) (Ev.bind (rcheck_ev _) ?_))
    by_cases h : chk (l.getD i z25) = 0
    · rw [if_pos h]; exact Ev.pos h (ih (i + 1) (by omega))
    · rw [if_neg h]; exact Ev.neg h (Ev.now _)
theorem rall_ev (l : List S25) (hl : l.length ≤ 1000000) : Ev (fun k => r_CheckAll.f k l) (chkL l) := rall_l0 l hl l.length 0 (by omega)
def rintS (x y : S25) : Int × Int × Int × Int × Int × Int × Bool := if ovB x y = true then ((com x y).f0.f0, (com x y).f0.f1, (com x y).f0.f2, (com x y).f1.f0, (com x y).f1.f1, (com x y).f1.f2, true) else (0, 0, 0, 0, 0, 0, false)
theorem rint_ev (x y : S25) : Ev (fun k => r_Intersect.f k x.f0.f0 x.f0.f1 x.f0.f2 x.f1.f0 x.f1.f1 x.f1.f2 y.f0.f0 y.f0.f1 y.f0.f2 y.f1.f0 y.f1.f1 y.f1.f2) (rintS x y) := by
  unfold r_Intersect.f rintS
  exact Ev.cbind rfl (Ev.bind (full_ev _ _ _ _ _ _) (ifs (fun ho => Ev.now _) (fun ho => Ev.now _)))
def fullF (z : S25) : Bool := decide (z.f0.f0 < z.f1.f0) && (decide (z.f0.f1 < z.f1.f1) && decide (z.f0.f2 < z.f1.f2))
theorem rsub_l0 (l : List S25) (hl : l.length ≤ 1000) : ∀ m i acc, l.length = i + m → acc.length + m ≤ 1000000 → Ev (fun k => r_Subtract.l0 k l acc (i : Int)) (acc ++ (l.drop i).filter fullF) := by
  intro m
  induction m with
  | zero =>
    intro i acc hi ha
    refine Ev.succ ?_
    simp only [r_Subtract.l0]
    rw [List.drop_of_length_le (by omega), List.filter_nil, List.append_nil]
    exact Ev.neg (by omega) (Ev.now _)
  | succ m ih =>
    intro i acc hi ha
    refine Ev.succ ?_
    simp only [r_Subtract.l0]
    rw [drop_cons l i z25 (by omega), List.filter_cons, rdN, stp (by omega)]
    refine Ev.pos (by omega) (Ev.pos (by omega) (Ev.bind (full_ev _ _ _ _ _ _) ?_))
    by_cases h : fullF (l.getD i z25) = true
    · rw [if_pos h]
      refine Ev.pos h (Ev.pos (by omega) ?_)
      have := ih (i + 1) (acc ++ [l.getD i z25]) (by omega) (by simp; omega)
      rw [List.append_assoc] at this
      exact this
    · rw [if_neg h]
      exact Ev.neg h (ih (i + 1) acc (by omega) (by omega))
theorem fF (a b c d e f : Int) : (fullF ⟨⟨a, b, c⟩, ⟨d, e, f⟩⟩ = true) = (a < d ∧ b < e ∧ c < f) := by simp [fullF]
theorem filter_one (p : S25 → Bool) (a : S25) (l : List S25) : (a :: l).filter p = (if p a = true then [a] else []) ++ l.filter p := by
  rw [List.filter_cons]; split <;> rfl
theorem rsub_ev (x y : S25) (hx : V x) : Ev (fun k => r_Subtract.f k x.f0.f0 x.f0.f1 x.f0.f2 x.f1.f0 x.f1.f1 x.f1.f2 y.f0.f0 y.f0.f1 y.f0.f2 y.f1.f0 y.f1.f1 y.f1.f2) (sub x y) := by
  unfold r_Subtract.f
  refine Ev.bind (rint_ev x y) ?_
  by_cases ho : ovB x y = true
  · have hs : sub x y = [] ++ ((([(⟨(⟨x.f0.f0, x.f0.f1, x.f0.f2⟩ : S23), (⟨x.f1.f0, x.f1.f1, (com x y).f0.f2⟩ : S23)⟩ : S25), (⟨(⟨x.f0.f0, x.f0.f1, (com x y).f1.f2⟩ : S23), (⟨x.f1.f0, x.f1.f1, x.f1.f2⟩ : S23)⟩ : S25), (⟨(⟨x.f0.f0, x.f0.f1, (com x y).f0.f2⟩ : S23), (⟨x.f1.f0, (com x y).f0.f1, (com x y).f1.f2⟩ : S23)⟩ : S25), (⟨(⟨x.f0.f0, (com x y).f1.f1, (com x y).f0.f2⟩ : S23), (⟨x.f1.f0, x.f1.f1, (com x y).f1.f2⟩ : S23)⟩ : S25), (⟨(⟨x.f0.f0, (com x y).f0.f1, (com x y).f0.f2⟩ : S23), (⟨(com x y).f0.f0, (com x y).f1.f1, (com x y).f1.f2⟩ : S23)⟩ : S25), (⟨(⟨(com x y).f1.f0, (com x y).f0.f1, (com x y).f0.f2⟩ : S23), (⟨x.f1.f0, (com x y).f1.f1, (com x y).f1.f2⟩ : S23)⟩ : S25)] : List S25).drop 0).filter fullF) := by
      rw [List.drop_zero]
      simp only [filter_one, List.filter_nil, List.nil_append, List.append_nil]
      unfold sub
      rw [if_pos ho]
      have ho := (ov_iff x y).1 ho
      obtain ⟨x0, x1, x2, x3, x4, x5, x6, x7, x8⟩ := hx
      simp only [subt, pt, com, nb, fF, if_true, if_false, List.nil_append, List.append_assoc]
      obtain ⟨o0, o1, o2⟩ := ho
      simp [o0, o1, o2, x6, x7, x8]
    have e : rintS x y = ((com x y).f0.f0, (com x y).f0.f1, (com x y).f0.f2, (com x y).f1.f0, (com x y).f1.f1, (com x y).f1.f2, true) := if_pos ho
    rw [e, hs]
    exact Ev.pos rfl (rsub_l0 _ (by simp) 6 0 [] rfl (by simp))
  · have e : rintS x y = (0, 0, 0, 0, 0, 0, false) := if_neg ho
    have hs : sub x y = [x] := if_neg ho
    rw [e, hs]
    exact Ev.neg (by simp) (Ev.now _)
theorem rrest_l1 (list out F : List S25) (i : Nat) (R : List S25 × Int) (ho : out.length ≤ 4096) (hV : ∀ z ∈ out, V z) (hi : i < list.length) (hl : list.length ≤ 1000000)
    (hR : F.length ≤ 4096 → Ev (fun k => r_Rest.l0 k list F ((i + 1 : Nat) : Int)) R) :
    ∀ m j next, out.length = j + m → next.length ≤ 6 * j → F = next ++ (out.drop j).flatMap (fun z => sub z (list.getD i z25)) →
    Ev (fun k => r_Rest.l1 k list out (i : Int) next (j : Int)) (if F.length > 4096 then ([], 7) else R) := by
  intro m
  induction m with
  | zero =>
    intro j next hj hn hF
    refine Ev.succ ?_
    simp only [r_Rest.l1]
    rw [List.drop_of_length_le (by omega), List.flatMap_nil, List.append_nil] at hF
    subst hF
    refine Ev.neg (by omega) ?_
    by_cases h : F.length > 4096
    · rw [if_pos h]; exact Ev.pos (by omega) (Ev.now _)
    · rw [if_neg h, stp (by omega)]; exact Ev.neg (by omega) (hR (by omega))
  | succ m ih =>
    intro j next hj hn hF
    refine Ev.succ ?_
    simp only [r_Rest.l1]
    rw [rdN, rdN, stp (by omega)]
    rw [drop_cons out j z25 (by omega), List.flatMap_cons] at hF
    have hs := sub_len (out.getD j z25) (list.getD i z25)
    refine Ev.pos (by omega) (Ev.pos (by omega) (Ev.pos (by omega) (Ev.pos (by omega) (Ev.bind (rsub_ev _ _ (hV _ (getD_mem (by omega)))) (Ev.pos (by omega) ?_)))))
    exact ih (j + 1) (next ++ sub (out.getD j z25) (list.getD i z25)) (by omega) (by rw [List.length_append]; omega) (by rw [hF, List.append_assoc])
theorem rrest_l0 (list : List S25) (hl : list.length ≤ 1000000) (hV : ∀ z ∈ list, V z) : ∀ m i out, list.length = i + m → out.length ≤ 4096 → (∀ z ∈ out, V z) → Ev (fun k => r_Rest.l0 k list out (i : Int)) (restL (list.drop i) out) := by
  intro m
  induction m with
  | zero =>
    intro i out hi ho hO
    refine Ev.succ ?_
    simp only [r_Rest.l0]
    rw [List.drop_of_length_le (by omega)]
    exact Ev.neg (by omega) (Ev.now _)
  | succ m ih =>
    intro i out hi ho hO
    refine Ev.succ ?_
    simp only [r_Rest.l0]
    rw [drop_cons list i z25 (by omega), restL]
    refine Ev.pos (by omega) ?_
    exact rrest_l1 list out _ i _ ho hO (by omega) hl (fun h => ih (i + 1) _ (by omega) h (flat_V _ _ (hV _ (getD_mem (by omega))) hO)) out.length 0 [] (by omega) (by simp) (by simp)
theorem rrest_ev (b : S25) (l : List S25) (hl : l.length ≤ 1000000) (hb : V b) (hV : ∀ z ∈ l, V z) : Ev (fun k => r_Rest.f k b.f0.f0 b.f0.f1 b.f0.f2 b.f1.f0 b.f1.f1 b.f1.f2 l) (restL l [b]) := by
  unfold r_Rest.f
  exact rrest_l0 l hl hV l.length 0 [b] (by omega) (by simp) (by simpa using hb)
theorem same_l0 (l : List S25) (hl : l.length ≤ 1000000) : ∀ m i, l.length = i + m → Ev (fun k => r_Same.l0 k l l (i : Int)) true := by
  intro m
  induction m with
  | zero =>
    intro i hi
    refine Ev.succ ?_
    simp only [r_Same.l0]
    exact Ev.neg (by omega) (Ev.now _)
  | succ m ih =>
    intro i hi
    refine Ev.succ ?_
    simp only [r_Same.l0]
    rw [stp (by omega)]
    exact Ev.pos (by omega) (Ev.pos (by omega) (Ev.pos (by omega) (Ev.neg (by simp) (ih (i + 1) (by omega)))))
theorem same_ev (l : List S25) (hl : l.length ≤ 1000000) : Ev (fun k => r_Same.f k l l) true := by
  unfold r_Same.f
  exact Ev.pos rfl (same_l0 l hl l.length 0 (by omega))
end Go.Proofs.Ytmmdikhmlmoolaa.Bx
