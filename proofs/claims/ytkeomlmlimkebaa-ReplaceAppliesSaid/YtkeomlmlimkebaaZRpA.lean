/-
  Apply of the reference.
-/
import Derived.Test.YtkeomlmlimkebaaZRp12
import Derived.Test.YtkeomlmlimkebaaZRpS
import Derived.Test.YtkeomlmlimkebaaZQAx23
import Derived.Test.YtkeomlmlimkebaaZQAx22
namespace Go.Proofs.Ytkeomlmlimkebaa.Rq
open Go.RowKit Go.Proofs.Ytkeomlmlimkebaa.QA Go.Proofs.YtkeomlmlimkebaaW.PrintWords Go.Proofs.YtkeomlmlimkebaaW.PrintMore Go.Proofs.Ytkeomlmlimkebaa.EvKit Go.Proofs.Ytkeomlmlimkebaa.MapKit
set_option linter.unusedVariables false
set_option linter.unusedSimpArgs false
def c52 (x : S69) : S52 := ⟨x.f0, x.f1, x.f2⟩
theorem back_ev (l : List S69) (hl : l.length < 1000000) : Ev (fun k => w_back.f k l) (l.map c52) := by
  unfold w_back.f
  have key : ∀ m i (acc : List S52), l.length = i + m → acc.length = i → Ev (fun k => w_back.l0 k l acc (i : Int)) (acc ++ (l.drop i).map c52) := by
    intro m
    induction m with
    | zero =>
      intro i acc hi ha
      refine Ev.succ ?_
      simp only [w_back.l0]
      rw [List.drop_eq_nil_of_le (by omega)]
      refine Ev.neg (by omega) ?_
      simp only [List.map_nil, List.append_nil]
      exact Ev.now _
    | succ m ih =>
      intro i acc hi ha
      refine Ev.succ ?_
      simp only [w_back.l0]
      refine Ev.pos (by omega) (Ev.pos (by omega) (Ev.pos (by omega) ?_))
      rw [nxt64 (by omega)]
      refine Ev.eq (ih (i + 1) _ (by omega) (by simp; omega)) ?_
      rw [EvKit.drop_cons l i z69 (by omega)]
      have e : rd_T69 l (i : Int) = l.getD i z69 := by unfold rd_T69; rw [Int.toNat_natCast]
      rw [e]
      simp [c52]
  have := key l.length 0 [] (by omega) rfl
  rw [List.drop_zero, List.nil_append] at this
  exact this
section
variable {F : List (List Int)} {p : Int} {U : List Int} {X : List Bool}
theorem ref_apply (hG : Good F p U X) (l : List S69) (hl : l.length ≤ 1000) : Ev (fun k => r_Apply.f k F p U X l) (finR F p X (aplL F U X (l.map c52) [] U)) := by
  have hn1 := hG.ok.n1
  have hn2 := hG.ok.n2
  have hn3 := hG.ok.n3
  have key : ∀ m i (D V : List Int), l.length = i + m → V.length = U.length → D.length ≤ i → Ev (fun k => r_Apply.l0 k l D (i : Int) F p U X F p V X) (finR F p X (aplL F U X ((l.drop i).map c52) D V)) := by
    intro m
    induction m with
    | zero =>
      intro i D V hi hV hD
      refine Ev.succ ?_
      simp only [r_Apply.l0]
      rw [List.drop_eq_nil_of_le (by omega)]
      refine Ev.neg (by omega) (Ev.bind (rtwice_ev V (by omega)) ?_)
      show Ev _ (if twB V = true then _ else _)
      refine Ev.ite (fun h => ?_) (fun h => ?_)
      · rw [if_pos h]; exact Ev.now _
      · rw [if_neg h]; exact Ev.now _
    | succ m ih =>
      intro i D V hi hV hD
      have e : rd_T69 l (i : Int) = l.getD i z69 := by unfold rd_T69; rw [Int.toNat_natCast]
      refine Ev.succ ?_
      simp only [r_Apply.l0]
      rw [EvKit.drop_cons l i z69 (by omega), e]
      obtain ⟨f0, f1, f2⟩ := l.getD i z69
      rw [List.map_cons]
      dsimp only
      refine Ev.pos (by omega) (Ev.pos (by omega) ?_)
      have hT : (f0 < 0 ∨ f0 ≥ (F.length : Int)) → Ev (fun k => r_Apply.j1 k l D (i : Int) true F p U X F p V X f0 f1 f2) (finR F p X (aplL F U X (c52 ⟨f0, f1, f2⟩ :: (l.drop (i + 1)).map c52) D V)) := by
        intro hc
        have e1 : aplL F U X (c52 ⟨f0, f1, f2⟩ :: (l.drop (i + 1)).map c52) D V = .inl 6 := by
          unfold aplL; exact if_pos hc
        rw [e1]
        refine Ev.succ ?_
        simp only [r_Apply.j1]
        exact Ev.pos (by trivial) (Ev.now _)
      refine Ev.ite (fun h1 => hT (Or.inl h1)) (fun h1 => ?_)
      by_cases h2 : f0 ≥ (F.length : Int)
      · rw [decide_eq_true h2]; exact hT (Or.inr h2)
      rw [decide_eq_false h2]
      clear hT
      obtain ⟨s, rfl⟩ : ∃ s : Nat, f0 = (s : Int) := ⟨f0.toNat, by omega⟩
      have eA : aplL F U X (c52 ⟨(s : Int), f1, f2⟩ :: (l.drop (i + 1)).map c52) D V = if U.getD s 0 ≠ f1 ∨ (s : Int) ∈ D then .inl 10 else if X.getD s false = true then .inl 8 else if ¬ f2 ∈ F.getD s [] then .inl 1 else aplL F U X ((l.drop (i + 1)).map c52) (D ++ [(s : Int)]) (V.set s f2) := by
        rw [aplL]
        show (if (s : Int) < 0 ∨ (s : Int) ≥ (F.length : Int) then _ else _) = _
        rw [if_neg (by omega)]
        simp only [c52, Int.toNat_natCast]
        try rfl
      rw [eA]
      refine Ev.succ ?_
      simp only [r_Apply.j1]
      refine Ev.neg (by decide) (Ev.pos (by omega) (Ev.pos (by omega) ?_))
      rw [rdN]
      have h10 : (U.getD s 0 ≠ f1 ∨ (s : Int) ∈ D) → Ev (fun k => r_Apply.j2 k l D (i : Int) true F p U X F p V X (s : Int) f1 f2) (finR F p X (if U.getD s 0 ≠ f1 ∨ (s : Int) ∈ D then .inl 10 else if X.getD s false = true then .inl 8 else if ¬ f2 ∈ F.getD s [] then .inl 1 else aplL F U X ((l.drop (i + 1)).map c52) (D ++ [(s : Int)]) (V.set s f2))) := by
        intro hc
        rw [if_pos hc]
        refine Ev.succ ?_
        simp only [r_Apply.j2]
        exact Ev.pos (by trivial) (Ev.now _)
      refine Ev.ite (fun h3 => ?_) (fun h3 => h10 (Or.inl h3))
      refine Ev.bind (rhas_ev D _ (by omega)) ?_
      by_cases h4 : (s : Int) ∈ D
      · rw [decide_eq_true h4]; exact h10 (Or.inr h4)
      rw [decide_eq_false h4, if_neg (fun h => h.elim (fun h => h h3) h4)]
      clear h10
      refine Ev.succ ?_
      simp only [r_Apply.j2]
      refine Ev.neg (by decide) (Ev.pos (by omega) (Ev.pos (by omega) ?_))
      rw [rdB]
      refine Ev.ite (fun h5 => ?_) (fun h5 => ?_)
      · rw [if_pos h5]; exact Ev.now _
      · rw [if_neg h5]
        have hr := hG.row s
        refine Ev.pos (by omega) ?_
        rw [rdL]
        refine Ev.bind (rhas_ev _ _ (by omega)) (Ev.ite (fun h6 => ?_) (fun h6 => ?_))
        · rw [if_neg (fun h => h (of_decide_eq_true h6))]
          refine Ev.pos (by omega) (Ev.pos (by omega) ?_)
          rw [nxt64 (by omega), Int.toNat_natCast]
          exact ih (i + 1) _ _ (by omega) (by rw [List.length_set]; exact hV) (by simp; omega)
        · rw [if_pos (fun h => h6 (decide_eq_true h))]
          exact Ev.now _
  unfold r_Apply.f
  refine Ev.cbind rfl (Ev.pos (by simp; omega) ?_)
  have := key l.length 0 [] U (by omega) rfl (by simp)
  rw [List.drop_zero] at this
  exact this
end
end Go.Proofs.Ytkeomlmlimkebaa.Rq
