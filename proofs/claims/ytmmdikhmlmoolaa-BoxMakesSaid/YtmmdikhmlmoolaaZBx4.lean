import Derived.Test.YtmmdikhmlmoolaaZBx3
import Derived.Test.YtmmdikhmlmoolaaZQAx4
import Derived.Test.YtmmdikhmlmoolaaZQAx3
import Derived.Test.YtmmdikhmlmoolaaZQAx6
import Derived.Test.YtmmdikhmlmoolaaZQAx5
namespace Go.Proofs.Ytmmdikhmlmoolaa.Bx
open Go.RowKit Go.Proofs.Ytmmdikhmlmoolaa.QA Go.Proofs.YtmmdikhmlmoolaaW.PrintWords Go.Proofs.YtmmdikhmlmoolaaW.PrintLast Go.Proofs.YtmmdikhmlmoolaaW.PrintMore Go.Proofs.Ytmmdikhmlmoolaa.EvKit
set_option linter.unusedVariables false
set_option linter.unusedSimpArgs false
theorem ifs {α : Type} {f g : Nat → Option α} {r s : α} {c : Prop} [Decidable c] (h1 : c → Ev f r) (h2 : ¬ c → Ev g s) : Ev (fun k => if c then f k else g k) (if c then r else s) := by
  by_cases hc : c
  · rw [if_pos hc]; exact Ev.pos hc (h1 hc)
  · rw [if_neg hc]; exact Ev.neg hc (h2 hc)
theorem stp {i : Nat} (h : i ≤ 1000000) : wrap64 ((i : Int) + 1) = ((i + 1 : Nat) : Int) := by rw [w64 (by omega) (by omega)]; omega
theorem rdN (l : List S25) (i : Nat) : rd_T25 l (i : Int) = l.getD i z25 := by simp [rd_T25]
def chkL : List S25 → Int
  | [] => 0
  | x :: l => if chk x = 0 then chkL l else chk x
theorem all_l0 (l : List S25) (hl : l.length ≤ 1000000) : ∀ m i, l.length = i + m → Ev (fun k => box_all.l0 k l (l.length : Int) (i : Int)) (chkL (l.drop i)) := by
  intro m
  induction m with
  | zero =>
    intro i hi
    refine Ev.succ ?_
    simp only [box_all.l0]
    rw [List.drop_of_length_le (by omega)]
    exact Ev.neg (by omega) (Ev.now _)
  | succ m ih =>
    intro i hi
    refine Ev.succ ?_
    simp only [box_all.l0]
    rw [drop_cons l i z25 (by omega), chkL, rdN, stp (by omega), check_is]
    refine Ev.pos (by omega) (Ev.pos (by omega) (Ev.pos (by omega) (Ev.cbind rfl ?_)))
    by_cases h : chk (l.getD i z25) = 0
    · rw [if_pos h]; exact Ev.pos h (ih (i + 1) (by omega))
    · rw [if_neg h]; exact Ev.neg h (Ev.now _)
theorem all_ev (l : List S25) (hl : l.length ≤ 1000000) : Ev (fun k => box_all.f k l) (chkL l) := all_l0 l hl l.length 0 (by omega)
theorem two_L (x y : S25) : chkL [x, y] = two x y := by
  unfold two
  simp only [chkL]
  by_cases h : chk x = 0
  · rw [if_pos h, if_pos h]
    by_cases h2 : chk y = 0
    · rw [if_pos h2, h2]
    · rw [if_neg h2]
  · rw [if_neg h, if_neg h]
def com (x y : S25) : S25 := ⟨⟨mx x.f0.f0 y.f0.f0, mx x.f0.f1 y.f0.f1, mx x.f0.f2 y.f0.f2⟩, ⟨mn x.f1.f0 y.f1.f0, mn x.f1.f1 y.f1.f1, mn x.f1.f2 y.f1.f2⟩⟩
def intS (x y : S25) : Int × Int × Int × Int × Int × Int × Int := if two x y = 0 then (if ovB x y = true then ((com x y).f0.f0, (com x y).f0.f1, (com x y).f0.f2, (com x y).f1.f0, (com x y).f1.f1, (com x y).f1.f2, 0) else (0, 0, 0, 0, 0, 0, 9)) else (0, 0, 0, 0, 0, 0, two x y)
theorem int_ev (x y : S25) : Ev (fun k => box_Intersect.f k x.f0.f0 x.f0.f1 x.f0.f2 x.f1.f0 x.f1.f1 x.f1.f2 y.f0.f0 y.f0.f1 y.f0.f2 y.f1.f0 y.f1.f1 y.f1.f2) (intS x y) := by
  unfold box_Intersect.f intS
  have h1 := all_ev [x, y] (by simp)
  rw [two_L] at h1
  exact Ev.bind h1 (ifs (fun h => Ev.cbind (a := ovB x y) rfl (ifs (fun ho => Ev.cbind rfl (Ev.cbind rfl (Ev.now _))) (fun ho => Ev.now _))) (fun h => Ev.now _))
end Go.Proofs.Ytmmdikhmlmoolaa.Bx
