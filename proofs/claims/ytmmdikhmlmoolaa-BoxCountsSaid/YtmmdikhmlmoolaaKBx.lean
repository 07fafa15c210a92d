import Derived.Test.YtmmdikhmlmoolaaKEvKit
import Derived.Test.YtmmdikhmlmoolaaKQAx4
import Derived.Test.YtmmdikhmlmoolaaKQAx13
import Derived.Test.YtmmdikhmlmoolaaKQAx3
import Derived.Test.YtmmdikhmlmoolaaKQAx6
import Derived.Test.YtmmdikhmlmoolaaKQAx18
import Derived.Test.YtmmdikhmlmoolaaKQAx0
import Derived.Test.YtmmdikhmlmoolaaKQAx23
import Derived.Test.YtmmdikhmlmoolaaKQAx20
import Derived.Test.YtmmdikhmlmoolaaKQAx10
import Derived.Test.YtmmdikhmlmoolaaKQAx5
import Derived.Test.YtmmdikhmlmoolaaKQAx26
import Derived.Test.YtmmdikhmlmoolaaKQAx7
import Derived.Test.YtmmdikhmlmoolaaKQAx8
import Derived.Test.YtmmdikhmlmoolaaKQAx9
import Derived.Test.YtmmdikhmlmoolaaKQAx11
import Derived.Test.YtmmdikhmlmoolaaKQAx28
import Derived.Test.YtmmdikhmlmoolaaKQAx29
import Derived.Test.YtmmdikhmlmoolaaKQAx30
import Derived.Test.YtmmdikhmlmoolaaKQAx14
namespace Go.Proofs.Ytmmdikhmlmoolaa.Bx
section
open Go.RowKit Go.Proofs.Ytmmdikhmlmoolaa.QA Go.Proofs.YtmmdikhmlmoolaaW.PrintWords Go.Proofs.YtmmdikhmlmoolaaW.PrintLast Go.Proofs.YtmmdikhmlmoolaaW.PrintMore Go.Proofs.Ytmmdikhmlmoolaa.EvKit
set_option linter.unusedVariables false
set_option linter.unusedSimpArgs false
theorem w1 : wrap64 (0 + 1) = 1 := w64 (by omega) (by omega)
theorem w2 : wrap64 (1 + 1) = 2 := w64 (by omega) (by omega)
theorem w3 : wrap64 (2 + 1) = 3 := w64 (by omega) (by omega)
def hasB (x : S25) (p0 p1 p2 : Int) : Bool := decide (x.f0.f0 ≤ p0 ∧ p0 < x.f1.f0 ∧ x.f0.f1 ≤ p1 ∧ p1 < x.f1.f1 ∧ x.f0.f2 ≤ p2 ∧ p2 < x.f1.f2)
def insB (x y : S25) : Bool := (decide (y.f0.f0 ≤ x.f0.f0) && decide (x.f1.f0 ≤ y.f1.f0)) && ((decide (y.f0.f1 ≤ x.f0.f1) && decide (x.f1.f1 ≤ y.f1.f1)) && (decide (y.f0.f2 ≤ x.f0.f2) && decide (x.f1.f2 ≤ y.f1.f2)))
def ovB (x y : S25) : Bool := decide ((mx x.f0.f0 y.f0.f0) < (mn x.f1.f0 y.f1.f0)) && (decide ((mx x.f0.f1 y.f0.f1) < (mn x.f1.f1 y.f1.f1)) && decide ((mx x.f0.f2 y.f0.f2) < (mn x.f1.f2 y.f1.f2)))
end
section
open Go.RowKit Go.Proofs.Ytmmdikhmlmoolaa.QA Go.Proofs.YtmmdikhmlmoolaaW.PrintWords Go.Proofs.YtmmdikhmlmoolaaW.PrintLast Go.Proofs.YtmmdikhmlmoolaaW.PrintMore Go.Proofs.Ytmmdikhmlmoolaa.EvKit
set_option linter.unusedVariables false
set_option linter.unusedSimpArgs false
theorem at0 (x y z : Int) : r_At.f x y z 0 = some x := rfl
theorem at1 (x y z : Int) : r_At.f x y z 1 = some y := rfl
theorem at2 (x y z : Int) : r_At.f x y z 2 = some z := rfl
theorem l03 : ((0 : Int) < 3) = True := by simp
theorem l13 : ((1 : Int) < 3) = True := by simp
theorem l23 : ((2 : Int) < 3) = True := by simp
theorem l33 : ((3 : Int) < 3) = False := by simp
theorem rcheck_ev (x : S25) : Ev (fun k => r_Check.f k x.f0.f0 x.f0.f1 x.f0.f2 x.f1.f0 x.f1.f1 x.f1.f2) (chk x) := by
  refine ⟨12, fun k hk => ?_⟩
  obtain ⟨n, rfl⟩ : ∃ n, k = n + 12 := ⟨k - 12, by omega⟩
  obtain ⟨⟨x0, x1, x2⟩, ⟨x3, x4, x5⟩⟩ := x
  simp only [r_Check.f, r_Check.l0, r_Check.j1, r_Check.l1, Option.bind_some, w1, w2, w3, at0, at1, at2, l03, l13, l23, l33, if_true, if_false]
  unfold chk inR
  simp only [Bool.and_eq_true, decide_eq_true_eq]
  by_cases hr : (((((-1000000 ≤ x0 ∧ x0 ≤ 1000000) ∧ -1000000 ≤ x3 ∧ x3 ≤ 1000000) ∧ -1000000 ≤ x1 ∧ x1 ≤ 1000000) ∧ -1000000 ≤ x4 ∧ x4 ≤ 1000000) ∧ -1000000 ≤ x2 ∧ x2 ≤ 1000000) ∧ -1000000 ≤ x5 ∧ x5 ≤ 1000000
  · rw [if_pos hr, if_neg (by omega), if_neg (by omega), if_neg (by omega), if_neg (by omega), if_neg (by omega), if_neg (by omega), if_neg (by omega), if_neg (by omega), if_neg (by omega), if_neg (by omega), if_neg (by omega), if_neg (by omega)]
    by_cases hv : x0 < x3 ∧ x1 < x4 ∧ x2 < x5
    · rw [if_pos hv, if_neg (by omega), if_neg (by omega), if_neg (by omega)]
    · rw [if_neg hv]
      by_cases c0 : x0 ≥ x3
      · rw [if_pos c0]
      by_cases c1 : x1 ≥ x4
      · rw [if_neg c0, if_pos c1]
      · rw [if_neg c0, if_neg c1, if_pos (by omega)]
  · rw [if_neg hr]
    have st : ∀ (c : Prop) [Decidable c] (o : Option Int), (¬ c → o = some 6) → (if c then some 6 else o) = some 6 := fun c _ o h => by
      by_cases hc : c
      · rw [if_pos hc]
      · rw [if_neg hc, h hc]
    refine st _ _ fun h1 => st _ _ fun h2 => st _ _ fun h3 => st _ _ fun h4 => st _ _ fun h5 => st _ _ fun h6 => st _ _ fun h7 => st _ _ fun h8 => st _ _ fun h9 => st _ _ fun h10 => st _ _ fun h11 => st _ _ fun h12 => ?_
    exact absurd (show _ from ⟨⟨⟨⟨⟨⟨by omega, by omega⟩, by omega, by omega⟩, by omega, by omega⟩, by omega, by omega⟩, by omega, by omega⟩, by omega, by omega⟩) hr
theorem rinside_ev (x y : S25) : Ev (fun k => r_Inside.f k x.f0.f0 x.f0.f1 x.f0.f2 x.f1.f0 x.f1.f1 x.f1.f2 y.f0.f0 y.f0.f1 y.f0.f2 y.f1.f0 y.f1.f1 y.f1.f2) (insB x y) := by
  refine ⟨6, fun k hk => ?_⟩
  obtain ⟨n, rfl⟩ : ∃ n, k = n + 6 := ⟨k - 6, by omega⟩
  simp only [r_Inside.f, r_Inside.l0, Option.bind_some, w1, w2, w3, at0, at1, at2, l03, l13, l23, l33, if_true, if_false]
  unfold insB
  repeat' split
  all_goals (congr 1; simp only [Bool.true_eq, Bool.false_eq, Bool.and_eq_true, Bool.and_eq_false_imp, decide_eq_true_eq, decide_eq_false_iff_not]; omega)
theorem full_ev (a b c d e f : Int) : Ev (fun k => r_full.f k a b c d e f) (decide (a < d) && (decide (b < e) && decide (c < f))) := by
  refine ⟨2, fun k hk => ?_⟩
  obtain ⟨n, rfl⟩ : ∃ n, k = n + 2 := ⟨k - 2, by omega⟩
  simp only [r_full.f, r_full.j0]
  repeat' split
  all_goals simp [*]
theorem roverlap_ev (x y : S25) : Ev (fun k => r_Overlap.f k x.f0.f0 x.f0.f1 x.f0.f2 x.f1.f0 x.f1.f1 x.f1.f2 y.f0.f0 y.f0.f1 y.f0.f2 y.f1.f0 y.f1.f1 y.f1.f2) (ovB x y) := by
  unfold r_Overlap.f
  exact Ev.cbind rfl (Ev.bind (full_ev _ _ _ _ _ _) (Ev.now _))
end
section
open Go.RowKit Go.Proofs.Ytmmdikhmlmoolaa.QA Go.Proofs.YtmmdikhmlmoolaaW.PrintWords Go.Proofs.YtmmdikhmlmoolaaW.PrintLast Go.Proofs.YtmmdikhmlmoolaaW.PrintMore Go.Proofs.Ytmmdikhmlmoolaa.EvKit
set_option linter.unusedVariables false
set_option linter.unusedSimpArgs false
structure V (x : S25) : Prop where
  r0 : -1000000 ≤ x.f0.f0 ∧ x.f0.f0 ≤ 1000000
  r1 : -1000000 ≤ x.f0.f1 ∧ x.f0.f1 ≤ 1000000
  r2 : -1000000 ≤ x.f0.f2 ∧ x.f0.f2 ≤ 1000000
  r3 : -1000000 ≤ x.f1.f0 ∧ x.f1.f0 ≤ 1000000
  r4 : -1000000 ≤ x.f1.f1 ∧ x.f1.f1 ≤ 1000000
  r5 : -1000000 ≤ x.f1.f2 ∧ x.f1.f2 ≤ 1000000
  l0 : x.f0.f0 < x.f1.f0
  l1 : x.f0.f1 < x.f1.f1
  l2 : x.f0.f2 < x.f1.f2
theorem inR_iff (n : Int) : inR n = true ↔ -1000000 ≤ n ∧ n ≤ 1000000 := by simp [inR]
theorem chk0 (x : S25) : chk x = 0 ↔ V x := by
  unfold chk
  simp only [Bool.and_eq_true, inR_iff]
  constructor
  · intro h
    by_cases hr : (((((-1000000 ≤ x.f0.f0 ∧ x.f0.f0 ≤ 1000000) ∧ -1000000 ≤ x.f1.f0 ∧ x.f1.f0 ≤ 1000000) ∧ -1000000 ≤ x.f0.f1 ∧ x.f0.f1 ≤ 1000000) ∧ -1000000 ≤ x.f1.f1 ∧ x.f1.f1 ≤ 1000000) ∧ -1000000 ≤ x.f0.f2 ∧ x.f0.f2 ≤ 1000000) ∧ -1000000 ≤ x.f1.f2 ∧ x.f1.f2 ≤ 1000000
    · rw [if_pos hr] at h
      by_cases hv : x.f0.f0 < x.f1.f0 ∧ x.f0.f1 < x.f1.f1 ∧ x.f0.f2 < x.f1.f2
      · exact ⟨by omega, by omega, by omega, by omega, by omega, by omega, hv.1, hv.2.1, hv.2.2⟩
      · rw [if_neg hv] at h; cases h
    · rw [if_neg hr] at h; cases h
  · rintro ⟨⟩
    rw [if_pos ⟨⟨⟨⟨⟨by assumption, by assumption⟩, by assumption⟩, by assumption⟩, by assumption⟩, by assumption⟩, if_pos ⟨by assumption, by assumption, by assumption⟩]
theorem mul_bd {a b m n : Int} (ha : 0 ≤ a) (hm : a ≤ m) (hb : 0 ≤ b) (hn : b ≤ n) : 0 ≤ a * b ∧ a * b ≤ m * n :=
  ⟨Int.mul_nonneg ha hb, Int.mul_le_mul hm hn hb (by omega)⟩
def volS (x : S25) : Int := (x.f1.f0 - x.f0.f0) * (x.f1.f1 - x.f0.f1) * (x.f1.f2 - x.f0.f2)
theorem volume_is (x : S25) (hv : V x) : box_volume.f x.f0.f0 x.f0.f1 x.f0.f2 x.f1.f0 x.f1.f1 x.f1.f2 = some (volS x) ∧ 0 < volS x ∧ volS x ≤ 8000000000000000000 := by
  obtain ⟨r0, r1, r2, r3, r4, r5, l0, l1, l2⟩ := hv
  have e0 : wrap64 (x.f1.f0 - x.f0.f0) = x.f1.f0 - x.f0.f0 := w64 (by omega) (by omega)
  have e1 : wrap64 (x.f1.f1 - x.f0.f1) = x.f1.f1 - x.f0.f1 := w64 (by omega) (by omega)
  have e2 : wrap64 (x.f1.f2 - x.f0.f2) = x.f1.f2 - x.f0.f2 := w64 (by omega) (by omega)
  have p1 := mul_bd (a := x.f1.f0 - x.f0.f0) (b := x.f1.f1 - x.f0.f1) (m := 2000000) (n := 2000000) (by omega) (by omega) (by omega) (by omega)
  have p2 := mul_bd (a := (x.f1.f0 - x.f0.f0) * (x.f1.f1 - x.f0.f1)) (b := x.f1.f2 - x.f0.f2) (m := 4000000000000) (n := 2000000) p1.1 (by omega) (by omega) (by omega)
  have p3 : 0 < volS x := Int.mul_pos (Int.mul_pos (by omega) (by omega)) (by omega)
  refine ⟨?_, p3, by unfold volS; omega⟩
  have q1 : wrap64 ((x.f1.f0 - x.f0.f0) * (x.f1.f1 - x.f0.f1)) = (x.f1.f0 - x.f0.f0) * (x.f1.f1 - x.f0.f1) := w64 (by omega) (by omega)
  have q2 : wrap64 ((x.f1.f0 - x.f0.f0) * (x.f1.f1 - x.f0.f1) * (x.f1.f2 - x.f0.f2)) = volS x := w64 (by omega) (by omega)
  simp only [box_volume.f, box_Size.f, Option.bind_some, e0, e1, e2, q1, q2]
end
section
open Go.RowKit Go.Proofs.Ytmmdikhmlmoolaa.QA Go.Proofs.YtmmdikhmlmoolaaW.PrintWords Go.Proofs.YtmmdikhmlmoolaaW.PrintLast Go.Proofs.YtmmdikhmlmoolaaW.PrintMore Go.Proofs.Ytmmdikhmlmoolaa.EvKit
set_option linter.unusedVariables false
set_option linter.unusedSimpArgs false
theorem ifs {α : Type} {f g : Nat → Option α} {r s : α} {c : Prop} [Decidable c] (h1 : c → Ev f r) (h2 : ¬ c → Ev g s) : Ev (fun k => if c then f k else g k) (if c then r else s) := by
  by_cases hc : c
  · rw [if_pos hc]; exact Ev.pos hc (h1 hc)
  · rw [if_neg hc]; exact Ev.neg hc (h2 hc)
theorem stp {i : Nat} (h : i ≤ 1000000) : wrap64 ((i : Int) + 1) = ((i + 1 : Nat) : Int) := by rw [w64 (by omega) (by omega)]; omega
theorem rdN (l : List S25) (i : Nat) : rd_T25 l (i : Int) = l.getD i z25 := by simp [rd_T25]
def chkL : List S25 → Int
  | [] => 0
  | x :: l => if chk x = 0 then chkL l else chk x
theorem chkL_0 : ∀ l : List S25, chkL l = 0 ↔ ∀ x ∈ l, V x
  | [] => by simp [chkL]
  | x :: l => by
    rw [chkL]
    by_cases h : chk x = 0
    · rw [if_pos h, chkL_0 l]
      have := (chk0 x).1 h
      simp [this]
    · rw [if_neg h]
      constructor
      · intro h2; exact absurd h2 h
      · intro h2; exact absurd ((chk0 x).2 (h2 x (by simp))) h
theorem all_l0 (l : List S25) (hl : l.length ≤ 1000000) : ∀ m i, l.length = i + m → Ev (fun k => box_all.l0 k l (l.length : Int) (i : Int)) (chkL (l.drop i)) := by
  intro m
  induction m with
  | zero =>
    intro i hi
    refine Ev.succ ?_
    simp only [box_all.l0]
    rw [List.drop_of_length_le (by omega)]
    exact Ev.neg (by omega) (Ev.now _)
  | succ m ih =>
    intro i hi
    refine Ev.succ ?_
    simp only [box_all.l0]
    rw [drop_cons l i z25 (by omega), chkL, rdN, stp (by omega), check_is]
    refine Ev.pos (by omega) (Ev.pos (by omega) (Ev.pos (by omega) (Ev.cbind rfl ?_)))
    by_cases h : chk (l.getD i z25) = 0
    · rw [if_pos h]; exact Ev.pos h (ih (i + 1) (by omega))
    · rw [if_neg h]; exact Ev.neg h (Ev.now _)
theorem all_ev (l : List S25) (hl : l.length ≤ 1000000) : Ev (fun k => box_all.f k l) (chkL l) := all_l0 l hl l.length 0 (by omega)
theorem one_L (x : S25) : chkL [x] = chk x := by
  simp only [chkL]
  by_cases h : chk x = 0
  · rw [if_pos h, h]
  · rw [if_neg h]
def manyS (b : S25) (l : List S25) : Int := if l.length > 256 then 7 else if chk b = 0 then chkL l else chk b
theorem many_ev (b : S25) (l : List S25) (hl : l.length ≤ 1000000) : Ev (fun k => box_many.f k l [b]) (manyS b l) := by
  unfold box_many.f manyS
  by_cases h : l.length > 256
  · rw [if_pos h]; exact Ev.pos (by omega) (Ev.now _)
  · rw [if_neg h]
    have h1 := all_ev [b] (by simp)
    rw [one_L] at h1
    refine Ev.neg (by omega) (Ev.bind h1 ?_)
    by_cases h2 : chk b = 0
    · rw [if_pos h2]; exact Ev.pos h2 (Ev.bind (all_ev l hl) (Ev.now _))
    · rw [if_neg h2]; exact Ev.neg h2 (Ev.now _)
def com (x y : S25) : S25 := ⟨⟨mx x.f0.f0 y.f0.f0, mx x.f0.f1 y.f0.f1, mx x.f0.f2 y.f0.f2⟩, ⟨mn x.f1.f0 y.f1.f0, mn x.f1.f1 y.f1.f1, mn x.f1.f2 y.f1.f2⟩⟩
def sub (x y : S25) : List S25 := if ovB x y = true then subt x.f0.f0 x.f0.f1 x.f0.f2 x.f1.f0 x.f1.f1 x.f1.f2 (mx x.f0.f0 y.f0.f0) (mn x.f1.f0 y.f1.f0) (mx x.f0.f1 y.f0.f1) (mn x.f1.f1 y.f1.f1) (mx x.f0.f2 y.f0.f2) (mn x.f1.f2 y.f1.f2) else [x]
theorem sub_len (x y : S25) : (sub x y).length ≤ 6 := by
  unfold sub subt
  split
  · simp only [List.length_append, List.length_nil]
    have h := fun k l0 l1 l2 l3 l4 l5 lo hi => pt_len k l0 l1 l2 l3 l4 l5 lo hi
    have h1 := h 2 x.f0.f0 x.f1.f0 x.f0.f1 x.f1.f1 x.f0.f2 x.f1.f2 x.f0.f2 (mx x.f0.f2 y.f0.f2)
    have h2 := h 2 x.f0.f0 x.f1.f0 x.f0.f1 x.f1.f1 x.f0.f2 x.f1.f2 (mn x.f1.f2 y.f1.f2) x.f1.f2
    have h3 := h 1 x.f0.f0 x.f1.f0 x.f0.f1 x.f1.f1 (mx x.f0.f2 y.f0.f2) (mn x.f1.f2 y.f1.f2) x.f0.f1 (mx x.f0.f1 y.f0.f1)
    have h4 := h 1 x.f0.f0 x.f1.f0 x.f0.f1 x.f1.f1 (mx x.f0.f2 y.f0.f2) (mn x.f1.f2 y.f1.f2) (mn x.f1.f1 y.f1.f1) x.f1.f1
    have h5 := h 0 x.f0.f0 x.f1.f0 (mx x.f0.f1 y.f0.f1) (mn x.f1.f1 y.f1.f1) (mx x.f0.f2 y.f0.f2) (mn x.f1.f2 y.f1.f2) x.f0.f0 (mx x.f0.f0 y.f0.f0)
    have h6 := h 0 x.f0.f0 x.f1.f0 (mx x.f0.f1 y.f0.f1) (mn x.f1.f1 y.f1.f1) (mx x.f0.f2 y.f0.f2) (mn x.f1.f2 y.f1.f2) (mn x.f1.f0 y.f1.f0) x.f1.f0
    omega
  · simp
theorem ov_iff (x y : S25) : ovB x y = true ↔ (mx x.f0.f0 y.f0.f0 < mn x.f1.f0 y.f1.f0) ∧ (mx x.f0.f1 y.f0.f1 < mn x.f1.f1 y.f1.f1) ∧ (mx x.f0.f2 y.f0.f2 < mn x.f1.f2 y.f1.f2) := by
  unfold ovB; simp only [Bool.and_eq_true, decide_eq_true_eq]
theorem mx_le {a b c : Int} : mx a b ≤ c ↔ a ≤ c ∧ b ≤ c := by unfold mx; split <;> omega
theorem le_mx {a b c : Int} : c ≤ mx a b ↔ c ≤ a ∨ c ≤ b := by unfold mx; split <;> omega
theorem mn_le {a b c : Int} : mn a b ≤ c ↔ a ≤ c ∨ b ≤ c := by unfold mn; split <;> omega
theorem le_mn {a b c : Int} : c ≤ mn a b ↔ c ≤ a ∧ c ≤ b := by unfold mn; split <;> omega
theorem mx_lt {a b c : Int} : mx a b < c ↔ a < c ∧ b < c := by unfold mx; split <;> omega
theorem lt_mx {a b c : Int} : c < mx a b ↔ c < a ∨ c < b := by unfold mx; split <;> omega
theorem mn_lt {a b c : Int} : mn a b < c ↔ a < c ∨ b < c := by unfold mn; split <;> omega
theorem lt_mn {a b c : Int} : c < mn a b ↔ c < a ∧ c < b := by unfold mn; split <;> omega
theorem pt_mem {k : Nat} {l0 l1 l2 l3 l4 l5 lo hi : Int} {z : S25} : z ∈ pt k l0 l1 l2 l3 l4 l5 lo hi ↔ lo < hi ∧ z = nb k l0 l1 l2 l3 l4 l5 lo hi := by
  unfold pt; split <;> simp [*]
theorem sub_V (x y : S25) (hx : V x) (hy : V y) : ∀ z ∈ sub x y, V z := by
  intro z hz
  unfold sub at hz
  by_cases ho : ovB x y = true
  · rw [if_pos ho] at hz
    have ho := (ov_iff x y).1 ho
    obtain ⟨x0, x1, x2, x3, x4, x5, x6, x7, x8⟩ := hx
    obtain ⟨y0, y1, y2, y3, y4, y5, y6, y7, y8⟩ := hy
    simp only [subt, List.mem_append, List.not_mem_nil, false_or, pt_mem] at hz
    simp only [mx_lt, lt_mn] at ho
    rcases hz with ((((⟨hl, rfl⟩ | ⟨hl, rfl⟩) | ⟨hl, rfl⟩) | ⟨hl, rfl⟩) | ⟨hl, rfl⟩) | ⟨hl, rfl⟩ <;> simp only [lt_mx, mn_lt] at hl <;> (constructor <;> simp [nb, mx_le, le_mx, mn_le, le_mn, mx_lt, lt_mx, mn_lt, lt_mn] <;> omega)
  · rw [if_neg ho] at hz
    obtain rfl : z = x := by simpa using hz
    exact hx
end
section
open Go.RowKit Go.Proofs.Ytmmdikhmlmoolaa.QA Go.Proofs.YtmmdikhmlmoolaaW.PrintWords Go.Proofs.YtmmdikhmlmoolaaW.PrintLast Go.Proofs.YtmmdikhmlmoolaaW.PrintMore Go.Proofs.Ytmmdikhmlmoolaa.EvKit
set_option linter.unusedVariables false
set_option linter.unusedSimpArgs false
def restL : List S25 → List S25 → List S25 × Int
  | [], out => (out, 0)
  | x :: l, out => if (out.flatMap (fun z => sub z x)).length > 4096 then ([], 7) else restL l (out.flatMap (fun z => sub z x))
theorem flat_V (l : List S25) (x : S25) (hx : V x) (h : ∀ z ∈ l, V z) : ∀ z ∈ l.flatMap (fun z => sub z x), V z := by
  intro z hz
  obtain ⟨y, hy, hz⟩ := List.mem_flatMap.1 hz
  exact sub_V y x (h y hy) hx z hz
theorem getD_mem {l : List S25} {i : Nat} (h : i < l.length) : l.getD i z25 ∈ l := by
  rw [List.getD_eq_getElem?_getD, List.getElem?_eq_getElem h]; simp
theorem restL_len : ∀ (l out : List S25), out.length ≤ 4096 → (restL l out).1.length ≤ 4096
  | [], out, h => h
  | x :: l, out, h => by
    rw [restL]
    split
    · simp
    · exact restL_len l _ (by omega)
end
section
open Go.RowKit Go.Proofs.Ytmmdikhmlmoolaa.QA Go.Proofs.YtmmdikhmlmoolaaW.PrintWords Go.Proofs.YtmmdikhmlmoolaaW.PrintLast Go.Proofs.YtmmdikhmlmoolaaW.PrintMore Go.Proofs.Ytmmdikhmlmoolaa.EvKit
set_option linter.unusedVariables false
set_option linter.unusedSimpArgs false
theorem rall_l0 (l : List S25) (hl : l.length ≤ 1000000) : ∀ m i, l.length = i + m → Ev (fun k => r_CheckAll.l0 k l (i : Int)) (chkL (l.drop i)) := by
  intro m
  induction m with
  | zero =>
    intro i hi
    refine Ev.succ ?_
    simp only [r_CheckAll.l0]
    rw [List.drop_of_length_le (by omega)]
    exact Ev.neg (by omega) (Ev.now _)
  | succ m ih =>
    intro i hi
    refine Ev.succ ?_
    simp only [r_CheckAll.l0]
    rw [drop_cons l i z25 (by omega), chkL, rdN, stp (by omega)]
    refine Ev.pos (by omega) (Ev.pos (by omega) (Ev.bind (rcheck_ev _) ?_))
    by_cases h : chk (l.getD i z25) = 0
    · rw [if_pos h]; exact Ev.pos h (ih (i + 1) (by omega))
    · rw [if_neg h]; exact Ev.neg h (Ev.now _)
theorem rall_ev (l : List S25) (hl : l.length ≤ 1000000) : Ev (fun k => r_CheckAll.f k l) (chkL l) := rall_l0 l hl l.length 0 (by omega)
def rintS (x y : S25) : Int × Int × Int × Int × Int × Int × Bool := if ovB x y = true then ((com x y).f0.f0, (com x y).f0.f1, (com x y).f0.f2, (com x y).f1.f0, (com x y).f1.f1, (com x y).f1.f2, true) else (0, 0, 0, 0, 0, 0, false)
theorem rint_ev (x y : S25) : Ev (fun k => r_Intersect.f k x.f0.f0 x.f0.f1 x.f0.f2 x.f1.f0 x.f1.f1 x.f1.f2 y.f0.f0 y.f0.f1 y.f0.f2 y.f1.f0 y.f1.f1 y.f1.f2) (rintS x y) := by
  unfold r_Intersect.f rintS
  exact Ev.cbind rfl (Ev.bind (full_ev _ _ _ _ _ _) (ifs (fun ho => Ev.now _) (fun ho => Ev.now _)))
def fullF (z : S25) : Bool := decide (z.f0.f0 < z.f1.f0) && (decide (z.f0.f1 < z.f1.f1) && decide (z.f0.f2 < z.f1.f2))
theorem rsub_l0 (l : List S25) (hl : l.length ≤ 1000) : ∀ m i acc, l.length = i + m → acc.length + m ≤ 1000000 → Ev (fun k => r_Subtract.l0 k l acc (i : Int)) (acc ++ (l.drop i).filter fullF) := by
  intro m
  induction m with
  | zero =>
    intro i acc hi ha
    refine Ev.succ ?_
    simp only [r_Subtract.l0]
    rw [List.drop_of_length_le (by omega), List.filter_nil, List.append_nil]
    exact Ev.neg (by omega) (Ev.now _)
  | succ m ih =>
    intro i acc hi ha
    refine Ev.succ ?_
    simp only [r_Subtract.l0]
    rw [drop_cons l i z25 (by omega), List.filter_cons, rdN, stp (by omega)]
    refine Ev.pos (by omega) (Ev.pos (by omega) (Ev.bind (full_ev _ _ _ _ _ _) ?_))
    by_cases h : fullF (l.getD i z25) = true
    · rw [if_pos h]
      refine Ev.pos h (Ev.pos (by omega) ?_)
      have := ih (i + 1) (acc ++ [l.getD i z25]) (by omega) (by simp; omega)
      rw [List.append_assoc] at this
      exact this
    · rw [if_neg h]
      exact Ev.neg h (ih (i + 1) acc (by omega) (by omega))
theorem fF (a b c d e f : Int) : (fullF ⟨⟨a, b, c⟩, ⟨d, e, f⟩⟩ = true) = (a < d ∧ b < e ∧ c < f) := by simp [fullF]
theorem filter_one (p : S25 → Bool) (a : S25) (l : List S25) : (a :: l).filter p = (if p a = true then [a] else []) ++ l.filter p := by
  rw [List.filter_cons]; split <;> rfl
theorem rsub_ev (x y : S25) (hx : V x) : Ev (fun k => r_Subtract.f k x.f0.f0 x.f0.f1 x.f0.f2 x.f1.f0 x.f1.f1 x.f1.f2 y.f0.f0 y.f0.f1 y.f0.f2 y.f1.f0 y.f1.f1 y.f1.f2) (sub x y) := by
  unfold r_Subtract.f
  refine Ev.bind (rint_ev x y) ?_
  by_cases ho : ovB x y = true
  · have hs : sub x y = [] ++ ((([(⟨(⟨x.f0.f0, x.f0.f1, x.f0.f2⟩ : S23), (⟨x.f1.f0, x.f1.f1, (com x y).f0.f2⟩ : S23)⟩ : S25), (⟨(⟨x.f0.f0, x.f0.f1, (com x y).f1.f2⟩ : S23), (⟨x.f1.f0, x.f1.f1, x.f1.f2⟩ : S23)⟩ : S25), (⟨(⟨x.f0.f0, x.f0.f1, (com x y).f0.f2⟩ : S23), (⟨x.f1.f0, (com x y).f0.f1, (com x y).f1.f2⟩ : S23)⟩ : S25), (⟨(⟨x.f0.f0, (com x y).f1.f1, (com x y).f0.f2⟩ : S23), (⟨x.f1.f0, x.f1.f1, (com x y).f1.f2⟩ : S23)⟩ : S25), (⟨(⟨x.f0.f0, (com x y).f0.f1, (com x y).f0.f2⟩ : S23), (⟨(com x y).f0.f0, (com x y).f1.f1, (com x y).f1.f2⟩ : S23)⟩ : S25), (⟨(⟨(com x y).f1.f0, (com x y).f0.f1, (com x y).f0.f2⟩ : S23), (⟨x.f1.f0, (com x y).f1.f1, (com x y).f1.f2⟩ : S23)⟩ : S25)] : List S25).drop 0).filter fullF) := by
      rw [List.drop_zero]
      simp only [filter_one, List.filter_nil, List.nil_append, List.append_nil]
      unfold sub
      rw [if_pos ho]
      have ho := (ov_iff x y).1 ho
      obtain ⟨x0, x1, x2, x3, x4, x5, x6, x7, x8⟩ := hx
      simp only [subt, pt, com, nb, fF, if_true, if_false, List.nil_append, List.append_assoc]
      obtain ⟨o0, o1, o2⟩ := ho
      simp [o0, o1, o2, x6, x7, x8]
    have e : rintS x y = ((com x y).f0.f0, (com x y).f0.f1, (com x y).f0.f2, (com x y).f1.f0, (com x y).f1.f1, (com x y).f1.f2, true) := if_pos ho
    rw [e, hs]
    exact Ev.pos rfl (rsub_l0 _ (by simp) 6 0 [] rfl (by simp))
  · have e : rintS x y = (0, 0, 0, 0, 0, 0, false) := if_neg ho
    have hs : sub x y = [x] := if_neg ho
    rw [e, hs]
    exact Ev.neg (by simp) (Ev.now _)
theorem rrest_l1 (list out F : List S25) (i : Nat) (R : List S25 × Int) (ho : out.length ≤ 4096) (hV : ∀ z ∈ out, V z) (hi : i < list.length) (hl : list.length ≤ 1000000)
    (hR : F.length ≤ 4096 → Ev (fun k => r_Rest.l0 k list F ((i + 1 : Nat) : Int)) R) :
    ∀ m j next, out.length = j + m → next.length ≤ 6 * j → F = next ++ (out.drop j).flatMap (fun z => sub z (list.getD i z25)) →
    Ev (fun k => r_Rest.l1 k list out (i : Int) next (j : Int)) (if F.length > 4096 then ([], 7) else R) := by
  intro m
  induction m with
  | zero =>
    intro j next hj hn hF
    refine Ev.succ ?_
    simp only [r_Rest.l1]
    rw [List.drop_of_length_le (by omega), List.flatMap_nil, List.append_nil] at hF
    subst hF
    refine Ev.neg (by omega) ?_
    by_cases h : F.length > 4096
    · rw [if_pos h]; exact Ev.pos (by omega) (Ev.now _)
    · rw [if_neg h, stp (by omega)]; exact Ev.neg (by omega) (hR (by omega))
  | succ m ih =>
    intro j next hj hn hF
    refine Ev.succ ?_
    simp only [r_Rest.l1]
    rw [rdN, rdN, stp (by omega)]
    rw [drop_cons out j z25 (by omega), List.flatMap_cons] at hF
    have hs := sub_len (out.getD j z25) (list.getD i z25)
    refine Ev.pos (by omega) (Ev.pos (by omega) (Ev.pos (by omega) (Ev.pos (by omega) (Ev.bind (rsub_ev _ _ (hV _ (getD_mem (by omega)))) (Ev.pos (by omega) ?_)))))
    exact ih (j + 1) (next ++ sub (out.getD j z25) (list.getD i z25)) (by omega) (by rw [List.length_append]; omega) (by rw [hF, List.append_assoc])
theorem rrest_l0 (list : List S25) (hl : list.length ≤ 1000000) (hV : ∀ z ∈ list, V z) : ∀ m i out, list.length = i + m → out.length ≤ 4096 → (∀ z ∈ out, V z) → Ev (fun k => r_Rest.l0 k list out (i : Int)) (restL (list.drop i) out) := by
  intro m
  induction m with
  | zero =>
    intro i out hi ho hO
    refine Ev.succ ?_
    simp only [r_Rest.l0]
    rw [List.drop_of_length_le (by omega)]
    exact Ev.neg (by omega) (Ev.now _)
  | succ m ih =>
    intro i out hi ho hO
    refine Ev.succ ?_
    simp only [r_Rest.l0]
    rw [drop_cons list i z25 (by omega), restL]
    refine Ev.pos (by omega) ?_
    exact rrest_l1 list out _ i _ ho hO (by omega) hl (fun h => ih (i + 1) _ (by omega) h (flat_V _ _ (hV _ (getD_mem (by omega))) hO)) out.length 0 [] (by omega) (by simp) (by simp)
theorem rrest_ev (b : S25) (l : List S25) (hl : l.length ≤ 1000000) (hb : V b) (hV : ∀ z ∈ l, V z) : Ev (fun k => r_Rest.f k b.f0.f0 b.f0.f1 b.f0.f2 b.f1.f0 b.f1.f1 b.f1.f2 l) (restL l [b]) := by
  unfold r_Rest.f
  exact rrest_l0 l hl hV l.length 0 [b] (by omega) (by simp) (by simpa using hb)
end
section
open Go.RowKit Go.Proofs.Ytmmdikhmlmoolaa.QA Go.Proofs.YtmmdikhmlmoolaaW.PrintWords Go.Proofs.YtmmdikhmlmoolaaW.PrintLast Go.Proofs.YtmmdikhmlmoolaaW.PrintMore Go.Proofs.Ytmmdikhmlmoolaa.EvKit
set_option linter.unusedVariables false
set_option linter.unusedSimpArgs false
def sm (f : Int → Int) (lo : Int) : Nat → Int
  | 0 => 0
  | n + 1 => sm f lo n + f (lo + n)
theorem sm_congr {f g : Int → Int} (lo : Int) : ∀ n : Nat, (∀ i, lo ≤ i → i < lo + n → f i = g i) → sm f lo n = sm g lo n
  | 0, _ => rfl
  | n + 1, h => by
    rw [sm, sm, sm_congr lo n (fun i h1 h2 => h i h1 (by omega)), h (lo + n) (by omega) (by omega)]
theorem sm_add (f g : Int → Int) (lo : Int) : ∀ n : Nat, sm (fun i => f i + g i) lo n = sm f lo n + sm g lo n
  | 0 => rfl
  | n + 1 => by rw [sm, sm, sm, sm_add f g lo n]; omega
theorem sm_mul (c : Int) (f : Int → Int) (lo : Int) : ∀ n : Nat, sm (fun i => c * f i) lo n = c * sm f lo n
  | 0 => by rw [sm, sm, Int.mul_zero]
  | n + 1 => by rw [sm, sm, sm_mul c f lo n, Int.mul_add]
theorem sm_split (f : Int → Int) (lo : Int) (m : Nat) : ∀ n : Nat, sm f lo (m + n) = sm f lo m + sm f (lo + m) n
  | 0 => by rw [Nat.add_zero, sm, Int.add_zero]
  | n + 1 => by
    rw [← Nat.add_assoc, sm, sm, sm_split f lo m n, show lo + ((m + n : Nat) : Int) = lo + m + n by omega]; omega
theorem sm_const (c lo : Int) : ∀ n : Nat, sm (fun _ => c) lo n = n * c
  | 0 => by rw [sm]; simp
  | n + 1 => by rw [sm, sm_const c lo n, show ((n + 1 : Nat) : Int) = (n : Int) + 1 by omega, Int.add_mul, Int.one_mul]
theorem sm_nonneg {f : Int → Int} (h : ∀ i, 0 ≤ f i) (lo : Int) : ∀ n : Nat, 0 ≤ sm f lo n
  | 0 => Int.le_refl _
  | n + 1 => by rw [sm]; have := sm_nonneg h lo n; have := h (lo + n); omega
theorem sm_mono {f g : Int → Int} (h : ∀ i, f i ≤ g i) (lo : Int) : ∀ n : Nat, sm f lo n ≤ sm g lo n
  | 0 => Int.le_refl _
  | n + 1 => by rw [sm, sm]; have := sm_mono h lo n; have := h (lo + n); omega
def si (f : Int → Int) (a b : Int) : Int := sm f a (b - a).toNat
theorem si_congr {f g : Int → Int} {a b : Int} (h : ∀ i, a ≤ i → i < b → f i = g i) : si f a b = si g a b := by
  unfold si
  by_cases hab : a ≤ b
  · exact sm_congr a _ (fun i h1 h2 => h i h1 (by omega))
  · rw [show (b - a).toNat = 0 by omega]; rfl
theorem si_add (f g : Int → Int) (a b : Int) : si (fun i => f i + g i) a b = si f a b + si g a b := sm_add f g a _
theorem si_mul (c : Int) (f : Int → Int) (a b : Int) : si (fun i => c * f i) a b = c * si f a b := sm_mul c f a _
theorem si_split (f : Int → Int) {a b c : Int} (h1 : a ≤ b) (h2 : b ≤ c) : si f a c = si f a b + si f b c := by
  unfold si
  rw [show (c - a).toNat = (b - a).toNat + (c - b).toNat by omega, sm_split, show a + (((b - a).toNat : Nat) : Int) = b by omega]
theorem si_const {f : Int → Int} {a b c : Int} (hab : a ≤ b) (h : ∀ i, a ≤ i → i < b → f i = c) : si f a b = (b - a) * c := by
  rw [si_congr (g := fun _ => c) h]
  unfold si
  rw [sm_const, show (((b - a).toNat : Nat) : Int) = b - a by omega]
theorem si_nonneg {f : Int → Int} (h : ∀ i, 0 ≤ f i) (a b : Int) : 0 ≤ si f a b := sm_nonneg h a _
theorem si_mono {f g : Int → Int} (h : ∀ i, f i ≤ g i) (a b : Int) : si f a b ≤ si g a b := sm_mono h a _
def S1 (f : Int → Int) : Int := si f (-1000000) 1000000
def S3 (f : Int → Int → Int → Int) : Int := S1 fun z => S1 fun y => S1 fun x => f x y z
theorem S1_congr {f g : Int → Int} (h : ∀ i, -1000000 ≤ i → i < 1000000 → f i = g i) : S1 f = S1 g := si_congr h
theorem S1_add (f g : Int → Int) : S1 (fun i => f i + g i) = S1 f + S1 g := si_add f g _ _
theorem S3_congr {f g : Int → Int → Int → Int} (h : ∀ x y z, f x y z = g x y z) : S3 f = S3 g := S1_congr fun z _ _ => S1_congr fun y _ _ => S1_congr fun x _ _ => h x y z
theorem S3_add (f g : Int → Int → Int → Int) : S3 (fun x y z => f x y z + g x y z) = S3 f + S3 g := by
  unfold S3
  rw [← S1_add]
  refine S1_congr fun z _ _ => ?_
  rw [← S1_add]
  exact S1_congr fun y _ _ => S1_add _ _
theorem S3_nonneg {f : Int → Int → Int → Int} (h : ∀ x y z, 0 ≤ f x y z) : 0 ≤ S3 f := si_nonneg (fun z => si_nonneg (fun y => si_nonneg (fun x => h x y z) _ _) _ _) _ _
theorem S3_mono {f g : Int → Int → Int → Int} (h : ∀ x y z, f x y z ≤ g x y z) : S3 f ≤ S3 g := si_mono (fun z => si_mono (fun y => si_mono (fun x => h x y z) _ _) _ _) _ _
theorem S3_zero : S3 (fun _ _ _ => 0) = 0 := by
  have h : S1 (fun _ => 0) = 0 := by unfold S1; rw [si_const (c := 0) (by omega) (fun _ _ _ => rfl), Int.mul_zero]
  show S1 (fun _ => S1 fun _ => S1 fun _ => 0) = 0
  rw [h, h, h]
def ind (b : Bool) : Int := if b = true then 1 else 0
theorem ind_and (a b : Bool) : ind (a && b) = ind a * ind b := by cases a <;> cases b <;> rfl
theorem ind_nonneg (b : Bool) : 0 ≤ ind b := by cases b <;> decide
theorem ind_le (b : Bool) : ind b ≤ 1 := by cases b <;> decide
def inI (a b i : Int) : Bool := decide (a ≤ i) && decide (i < b)
theorem inI_iff (a b i : Int) : inI a b i = true ↔ a ≤ i ∧ i < b := by simp [inI]
theorem hasB_is (b : S25) (x y z : Int) : hasB b x y z = (inI b.f0.f2 b.f1.f2 z && (inI b.f0.f1 b.f1.f1 y && inI b.f0.f0 b.f1.f0 x)) := by
  rw [Bool.eq_iff_iff]
  unfold hasB
  simp only [Bool.and_eq_true, inI_iff, decide_eq_true_eq]
  omega
theorem S1_inI {a b : Int} (h1 : -1000000 ≤ a) (h2 : a ≤ b) (h3 : b ≤ 1000000) : S1 (fun i => ind (inI a b i)) = b - a := by
  unfold S1
  rw [si_split _ h1 (by omega : a ≤ 1000000), si_split _ h2 h3, si_const (c := 0) h1 (fun i h4 h5 => ?_), si_const (c := 1) h2 (fun i h4 h5 => ?_), si_const (c := 0) h3 (fun i h4 h5 => ?_)]
  · omega
  · have : inI a b i = false := by rw [← Bool.not_eq_true, inI_iff]; omega
    rw [this]; rfl
  · have : inI a b i = true := by rw [inI_iff]; omega
    rw [this]; rfl
  · have : inI a b i = false := by rw [← Bool.not_eq_true, inI_iff]; omega
    rw [this]; rfl
theorem S3_has (b : S25) (hv : V b) : S3 (fun x y z => ind (hasB b x y z)) = volS b := by
  obtain ⟨r0, r1, r2, r3, r4, r5, l0, l1, l2⟩ := hv
  have e : ∀ x y z, ind (hasB b x y z) = ind (inI b.f0.f2 b.f1.f2 z) * (ind (inI b.f0.f1 b.f1.f1 y) * ind (inI b.f0.f0 b.f1.f0 x)) := fun x y z => by rw [hasB_is, ind_and, ind_and]
  rw [S3_congr e]
  have f : ∀ z y : Int, S1 (fun x => ind (inI b.f0.f2 b.f1.f2 z) * (ind (inI b.f0.f1 b.f1.f1 y) * ind (inI b.f0.f0 b.f1.f0 x))) = ind (inI b.f0.f2 b.f1.f2 z) * (ind (inI b.f0.f1 b.f1.f1 y) * (b.f1.f0 - b.f0.f0)) := fun z y => by
    have h := S1_inI r0.1 (Int.le_of_lt l0) r3.2
    unfold S1 at h ⊢
    rw [si_mul, si_mul, h]
  have g : ∀ z : Int, S1 (fun y => ind (inI b.f0.f2 b.f1.f2 z) * (ind (inI b.f0.f1 b.f1.f1 y) * (b.f1.f0 - b.f0.f0))) = ind (inI b.f0.f2 b.f1.f2 z) * ((b.f1.f1 - b.f0.f1) * (b.f1.f0 - b.f0.f0)) := fun z => by
    have h := S1_inI r1.1 (Int.le_of_lt l1) r4.2
    rw [S1_congr (g := fun y => ind (inI b.f0.f2 b.f1.f2 z) * ((b.f1.f0 - b.f0.f0) * ind (inI b.f0.f1 b.f1.f1 y))) (fun y _ _ => by rw [Int.mul_comm (b.f1.f0 - b.f0.f0)])]
    unfold S1 at h ⊢
    rw [si_mul, si_mul, h, Int.mul_comm (b.f1.f0 - b.f0.f0)]
  unfold S3
  rw [S1_congr (g := fun z => ind (inI b.f0.f2 b.f1.f2 z) * ((b.f1.f1 - b.f0.f1) * (b.f1.f0 - b.f0.f0))) (fun z _ _ => by rw [← g z]; exact S1_congr fun y _ _ => f z y)]
  have h := S1_inI r2.1 (Int.le_of_lt l2) r5.2
  rw [S1_congr (g := fun z => ((b.f1.f1 - b.f0.f1) * (b.f1.f0 - b.f0.f0)) * ind (inI b.f0.f2 b.f1.f2 z)) (fun y _ _ => by rw [Int.mul_comm])]
  unfold S1 at h ⊢
  rw [si_mul, h]
  unfold volS
  rw [Int.mul_comm (b.f1.f1 - b.f0.f1)]
def cn : List S25 → Int → Int → Int → Int
  | [], _, _, _ => 0
  | b :: l, x, y, z => ind (hasB b x y z) + cn l x y z
def volL : List S25 → Int
  | [] => 0
  | b :: l => volS b + volL l
theorem S3_cn : ∀ l : List S25, (∀ b ∈ l, V b) → S3 (cn l) = volL l
  | [], _ => S3_zero
  | b :: l, h => by
    have e : S3 (cn (b :: l)) = S3 (fun x y z => ind (hasB b x y z) + cn l x y z) := S3_congr fun x y z => rfl
    rw [e, S3_add, S3_has b (h b (by simp)), S3_cn l (fun c hc => h c (by simp [hc])), volL]
theorem cn_app : ∀ (l m : List S25) (x y z : Int), cn (l ++ m) x y z = cn l x y z + cn m x y z
  | [], m, x, y, z => by simp [cn]
  | b :: l, m, x, y, z => by rw [List.cons_append, cn, cn, cn_app l m]; omega
theorem cn_nonneg : ∀ (l : List S25) (x y z : Int), 0 ≤ cn l x y z
  | [], _, _, _ => Int.le_refl _
  | b :: l, x, y, z => by rw [cn]; have := ind_nonneg (hasB b x y z); have := cn_nonneg l x y z; omega
def anyB (l : List S25) (x y z : Int) : Bool := l.any fun b => hasB b x y z
theorem cn_pos : ∀ (l : List S25) (x y z : Int), anyB l x y z = true ↔ 0 < cn l x y z
  | [], _, _, _ => by simp [anyB, cn]
  | b :: l, x, y, z => by
    have h := cn_pos l x y z
    have h2 := cn_nonneg l x y z
    unfold anyB at h ⊢
    rw [List.any_cons, cn, Bool.or_eq_true, h]
    unfold ind
    split
    · simp [*]; omega
    · simp [*]
theorem cn_pt (k : Nat) (l0 l1 l2 l3 l4 l5 lo hi : Int) (hk : k < 3) (x y z : Int) : cn (pt k l0 l1 l2 l3 l4 l5 lo hi) x y z = ind (hasB (nb k l0 l1 l2 l3 l4 l5 lo hi) x y z) := by
  unfold pt
  by_cases h : lo < hi
  · rw [if_pos h]; simp [cn]
  · rw [if_neg h]
    have : hasB (nb k l0 l1 l2 l3 l4 l5 lo hi) x y z = false := by
      rw [← Bool.not_eq_true, hasB_is]
      simp only [Bool.and_eq_true, inI_iff]
      rcases k with _ | _ | _ | k
      · simp [nb]; omega
      · simp [nb]; omega
      · simp [nb]; omega
      · omega
    rw [this]; rfl
theorem six_key : ∀ i0 i1 i2 a0 b0 a1 b1 a2 b2 : Bool, (a0 && b0) = false → (a1 && b1) = false → (a2 && b2) = false →
    ind ((i2 && a2) && (i1 && i0)) + ind ((i2 && b2) && (i1 && i0)) + ind ((i2 && (!a2 && !b2)) && ((i1 && a1) && i0)) + ind ((i2 && (!a2 && !b2)) && ((i1 && b1) && i0)) + ind ((i2 && (!a2 && !b2)) && ((i1 && (!a1 && !b1)) && (i0 && a0))) + ind ((i2 && (!a2 && !b2)) && ((i1 && (!a1 && !b1)) && (i0 && b0))) = ind ((i2 && (i1 && i0)) && !((!a2 && !b2) && ((!a1 && !b1) && (!a0 && !b0)))) := by decide +kernel
theorem inI_lo (a b c i : Int) (h : mx a c < b) : inI a (mx a c) i = (inI a b i && decide (i < c)) := by
  rw [Bool.eq_iff_iff, Bool.and_eq_true, inI_iff, inI_iff, decide_eq_true_eq, lt_mx]; rw [mx_lt] at h; omega
theorem inI_hi (a b c i : Int) (h : a < mn b c) : inI (mn b c) b i = (inI a b i && decide (c ≤ i)) := by
  rw [Bool.eq_iff_iff, Bool.and_eq_true, inI_iff, inI_iff, decide_eq_true_eq, mn_le]; rw [lt_mn] at h; omega
theorem inI_mid (a b c d i : Int) : inI (mx a c) (mn b d) i = (inI a b i && (!decide (i < c) && !decide (d ≤ i))) := by
  rw [Bool.eq_iff_iff, Bool.and_eq_true, Bool.and_eq_true, inI_iff, inI_iff, Bool.not_eq_true', Bool.not_eq_true', decide_eq_false_iff_not, decide_eq_false_iff_not, mx_le, lt_mn]; omega
theorem inI_y (c d i : Int) : inI c d i = (!decide (i < c) && !decide (d ≤ i)) := by
  rw [Bool.eq_iff_iff, Bool.and_eq_true, inI_iff, Bool.not_eq_true', Bool.not_eq_true', decide_eq_false_iff_not, decide_eq_false_iff_not]; omega
theorem nb_0 (l0 l1 l2 l3 l4 l5 lo hi : Int) : nb 0 l0 l1 l2 l3 l4 l5 lo hi = ⟨⟨lo, l2, l4⟩, ⟨hi, l3, l5⟩⟩ := rfl
theorem nb_1 (l0 l1 l2 l3 l4 l5 lo hi : Int) : nb 1 l0 l1 l2 l3 l4 l5 lo hi = ⟨⟨l0, lo, l4⟩, ⟨l1, hi, l5⟩⟩ := rfl
theorem nb_2 (l0 l1 l2 l3 l4 l5 lo hi : Int) : nb 2 l0 l1 l2 l3 l4 l5 lo hi = ⟨⟨l0, l2, lo⟩, ⟨l1, l3, hi⟩⟩ := rfl
theorem cn_sub (a b : S25) (x y z : Int) : cn (sub a b) x y z = ind (hasB a x y z && !hasB b x y z) := by
  unfold sub
  by_cases ho : ovB a b = true
  · rw [if_pos ho]
    obtain ⟨o0, o1, o2⟩ := (ov_iff a b).1 ho
    have p0 := mx_lt.1 (Int.lt_of_lt_of_le o0 (le_mn.1 (Int.le_refl _)).1)
    unfold subt
    simp only [cn_app, cn, cn_pt _ _ _ _ _ _ _ _ _ (show 0 < 3 by omega), cn_pt _ _ _ _ _ _ _ _ _ (show 1 < 3 by omega), cn_pt _ _ _ _ _ _ _ _ _ (show 2 < 3 by omega)]
    have q0 : mx a.f0.f0 b.f0.f0 < a.f1.f0 := (lt_mn.1 o0).1
    have q1 : mx a.f0.f1 b.f0.f1 < a.f1.f1 := (lt_mn.1 o1).1
    have q2 : mx a.f0.f2 b.f0.f2 < a.f1.f2 := (lt_mn.1 o2).1
    have r0 : a.f0.f0 < mn a.f1.f0 b.f1.f0 := (mx_lt.1 o0).1
    have r1 : a.f0.f1 < mn a.f1.f1 b.f1.f1 := (mx_lt.1 o1).1
    have r2 : a.f0.f2 < mn a.f1.f2 b.f1.f2 := (mx_lt.1 o2).1
    have s0 : b.f0.f0 < b.f1.f0 := (lt_mn.1 (mx_lt.1 o0).2).2
    have s1 : b.f0.f1 < b.f1.f1 := (lt_mn.1 (mx_lt.1 o1).2).2
    have s2 : b.f0.f2 < b.f1.f2 := (lt_mn.1 (mx_lt.1 o2).2).2
    have ex : ∀ c d i : Int, c < d → (decide (i < c) && decide (d ≤ i)) = false := fun c d i h => by
      rw [Bool.and_eq_false_imp, decide_eq_true_eq, decide_eq_false_iff_not]; omega
    have key := six_key (inI a.f0.f0 a.f1.f0 x) (inI a.f0.f1 a.f1.f1 y) (inI a.f0.f2 a.f1.f2 z) _ _ _ _ _ _ (ex _ _ x s0) (ex _ _ y s1) (ex _ _ z s2)
    simp only [hasB_is, nb_0, nb_1, nb_2, inI_lo _ _ _ _ q0, inI_lo _ _ _ _ q1, inI_lo _ _ _ _ q2, inI_hi _ _ _ _ r0, inI_hi _ _ _ _ r1, inI_hi _ _ _ _ r2, inI_mid, inI_y b.f0.f0, inI_y b.f0.f1, inI_y b.f0.f2]
    rw [← key]
    simp
  · rw [if_neg ho]
    have : (hasB a x y z && !hasB b x y z) = hasB a x y z := by
      cases h : hasB a x y z with
      | false => rfl
      | true =>
        cases h2 : hasB b x y z with
        | false => rfl
        | true =>
          exfalso
          apply ho
          rw [ov_iff, mx_lt, mx_lt, mx_lt, lt_mn, lt_mn, lt_mn, lt_mn, lt_mn, lt_mn]
          unfold hasB at h h2
          rw [decide_eq_true_eq] at h h2
          omega
    rw [this]; simp [cn]
theorem cn_flat (c : S25) : ∀ (l : List S25) (x y z : Int), cn (l.flatMap (fun b => sub b c)) x y z = if hasB c x y z = true then 0 else cn l x y z
  | [], x, y, z => by simp [cn]
  | b :: l, x, y, z => by
    rw [List.flatMap_cons, cn_app, cn_flat c l, cn_sub, cn]
    by_cases h : hasB c x y z = true
    · rw [if_pos h, if_pos h, h]; simp [ind]
    · rw [if_neg h, if_neg h]; simp at h; rw [h]; simp
theorem cn_rest : ∀ (l out : List S25) (x y z : Int), (restL l out).2 = 0 → cn (restL l out).1 x y z = if anyB l x y z = true then 0 else cn out x y z
  | [], out, x, y, z, _ => by simp [restL, anyB]
  | c :: l, out, x, y, z, h => by
    rw [restL] at h ⊢
    by_cases hc : (out.flatMap (fun z => sub z c)).length > 4096
    · rw [if_pos hc] at h; cases h
    · rw [if_neg hc] at h ⊢
      rw [cn_rest l _ x y z h, cn_flat]
      unfold anyB
      rw [List.any_cons]
      by_cases h1 : (l.any fun b => hasB b x y z) = true
      · simp [h1]
      · simp at h1
        by_cases h2 : hasB c x y z = true
        · simp [h2]
        · simp [h1, h2]
theorem restL_V : ∀ (l out : List S25), (∀ b ∈ l, V b) → (∀ b ∈ out, V b) → ∀ b ∈ (restL l out).1, V b
  | [], out, _, h => h
  | c :: l, out, hl, h => by
    rw [restL]
    split
    · intro b hb; cases hb
    · exact restL_V l _ (fun b hb => hl b (by simp [hb])) (flat_V out c (hl c (by simp)) h)
end
section
open Go.RowKit Go.Proofs.Ytmmdikhmlmoolaa.QA Go.Proofs.YtmmdikhmlmoolaaW.PrintWords Go.Proofs.YtmmdikhmlmoolaaW.PrintLast Go.Proofs.YtmmdikhmlmoolaaW.PrintMore Go.Proofs.Ytmmdikhmlmoolaa.EvKit
set_option linter.unusedVariables false
set_option linter.unusedSimpArgs false
def loA (a : Int) (b : S25) : Int := if a = 0 then b.f0.f0 else if a = 1 then b.f0.f1 else b.f0.f2
def hiA (a : Int) (b : S25) : Int := if a = 0 then b.f1.f0 else if a = 1 then b.f1.f1 else b.f1.f2
def atL (a n : Int) (l : List S25) : List S25 := l.filter fun b => decide (loA a b ≤ n) && decide (n < hiA a b)
theorem atL_pos {a n : Int} {b : S25} {l : List S25} (h1 : loA a b ≤ n) (h2 : n < hiA a b) : atL a n (b :: l) = b :: atL a n l := by simp [atL, h1, h2]
theorem atL_neg {a n : Int} {b : S25} {l : List S25} (h : ¬ (loA a b ≤ n ∧ n < hiA a b)) : atL a n (b :: l) = atL a n l := by
  unfold atL
  rw [List.filter_cons_of_neg (by simpa using h)]
theorem atL_len (a n : Int) (l : List S25) : (atL a n l).length ≤ l.length := List.length_filter_le _ _
theorem atL_mem {a n : Int} {l : List S25} {b : S25} : b ∈ atL a n l ↔ b ∈ l ∧ loA a b ≤ n ∧ n < hiA a b := by simp [atL]
theorem at_l0 (a n : Int) (ha : a = 0 ∨ a = 1 ∨ a = 2) (l : List S25) (hl : l.length ≤ 1000000) : ∀ m i acc, l.length = i + m → acc.length ≤ i → Ev (fun k => box_at.l0 k a n acc l (l.length : Int) (i : Int)) (acc ++ atL a n (l.drop i)) := by
  intro m
  induction m with
  | zero =>
    intro i acc hi h
    refine Ev.succ ?_
    simp only [box_at.l0]
    rw [List.drop_of_length_le (by omega), show atL a n [] = [] from rfl, List.append_nil]
    exact Ev.neg (by omega) (Ev.now _)
  | succ m ih =>
    intro i acc hi h
    refine Ev.succ ?_
    simp only [box_at.l0]
    rw [drop_cons l i z25 (by omega), rdN, stp (by omega)]
    generalize l.getD i z25 = b
    have go : ∀ h1 : loA a b ≤ n, n < hiA a b → Ev (fun k => box_at.l0 k a n (acc ++ [b]) l (l.length : Int) ((i + 1 : Nat) : Int)) (acc ++ atL a n (b :: l.drop (i + 1))) := fun h1 h2 => by
      rw [atL_pos h1 h2]
      have := ih (i + 1) (acc ++ [b]) (by omega) (by simp; omega)
      rwa [List.append_assoc] at this
    have no : ¬ (loA a b ≤ n ∧ n < hiA a b) → Ev (fun k => box_at.l0 k a n acc l (l.length : Int) ((i + 1 : Nat) : Int)) (acc ++ atL a n (b :: l.drop (i + 1))) := fun h1 => by
      rw [atL_neg h1]
      exact ih (i + 1) acc (by omega) (by omega)
    refine Ev.pos (by omega) (Ev.pos (by omega) (Ev.pos (by omega) (Ev.cbind rfl ?_)))
    rcases ha with rfl | rfl | rfl
    · exact Ev.pos rfl (Ev.ite (fun c1 => Ev.ite (fun c2 => Ev.pos (by omega) (go c1 c2)) (fun c2 => no (fun h => c2 h.2))) (fun c1 => no (fun h => c1 h.1)))
    · exact Ev.neg (by decide) (Ev.pos rfl (Ev.ite (fun c1 => Ev.ite (fun c2 => Ev.pos (by omega) (go c1 c2)) (fun c2 => no (fun h => c2 h.2))) (fun c1 => no (fun h => c1 h.1))))
    · exact Ev.neg (by decide) (Ev.neg (by decide) (Ev.pos rfl (Ev.ite (fun c1 => Ev.ite (fun c2 => Ev.pos (by omega) (go c1 c2)) (fun c2 => no (fun h => c2 h.2))) (fun c1 => no (fun h => c1 h.1)))))
theorem at_ev (a n : Int) (ha : a = 0 ∨ a = 1 ∨ a = 2) (l : List S25) (hl : l.length ≤ 1000000) : Ev (fun k => box_at.f k l a n) (atL a n l) := at_l0 a n ha l hl l.length 0 [] (by omega) (by simp)
theorem comp_inc (l : List Int) (h : l.Pairwise (· ≤ ·)) : ∀ m, m ≤ l.length → (Go.Lib.compactUpTo l.toArray m).Pairwise (· < ·) ∧ ∀ v, v ∈ Go.Lib.compactUpTo l.toArray m ↔ ∃ j, j < m ∧ l.toArray[j]! = v := by
  intro m
  induction m with
  | zero => intro _; exact ⟨List.Pairwise.nil, fun v => ⟨fun hv => absurd hv (by simp [Go.Lib.compactUpTo]), fun ⟨j, hj, _⟩ => absurd hj (by omega)⟩⟩
  | succ m ih =>
    intro hm
    obtain ⟨i1, i2⟩ := ih (by omega)
    have hget : ∀ j, j < l.length → l.toArray[j]! = l.getD j 0 := fun j hj => by
      rw [getElem!_pos l.toArray j (by simpa using hj)]
      simp [hj]
    have mono : ∀ i j, i ≤ j → j < l.length → l.getD i 0 ≤ l.getD j 0 := fun i j hij hj => by
      rcases Nat.lt_or_eq_of_le hij with h1 | rfl
      · have := List.pairwise_iff_getElem.1 h i j (by omega) hj h1
        simpa [show i < l.length by omega, hj] using this
      · exact Int.le_refl _
    rw [Go.Lib.compactUpTo_succ]
    by_cases hk : Go.Lib.keeps l.toArray m = true
    · rw [if_pos hk]
      refine ⟨List.pairwise_append.2 ⟨i1, List.pairwise_singleton _ _, fun v hv u hu => ?_⟩, fun v => ?_⟩
      · obtain rfl := List.mem_singleton.1 hu
        obtain ⟨j, hj, rfl⟩ := (i2 v).1 hv
        simp only [Go.Lib.keeps, decide_eq_true_eq] at hk
        have q1 := mono j (m - 1) (by omega) (by omega)
        have q2 := mono (m - 1) m (by omega) (by omega)
        rw [hget j (by omega), hget m (by omega)]
        rcases hk with hk | hk
        · omega
        · rw [hget m (by omega), hget (m - 1) (by omega)] at hk
          omega
      · rw [List.mem_append, i2]
        constructor
        · rintro (⟨j, hj, e⟩ | hv)
          · exact ⟨j, by omega, e⟩
          · exact ⟨m, by omega, (List.mem_singleton.1 hv).symm⟩
        · rintro ⟨j, hj, e⟩
          by_cases hjm : j = m
          · subst hjm; exact .inr (by simp [e])
          · exact .inl ⟨j, by omega, e⟩
    · rw [if_neg hk, List.append_nil]
      refine ⟨i1, fun v => ?_⟩
      rw [i2]
      simp only [Go.Lib.keeps, decide_eq_true_eq, not_or, ne_eq, Decidable.not_not] at hk
      constructor
      · rintro ⟨j, hj, e⟩; exact ⟨j, by omega, e⟩
      · rintro ⟨j, hj, e⟩
        by_cases hjm : j = m
        · subst hjm; exact ⟨j - 1, by omega, by rw [← hk.2]; exact e⟩
        · exact ⟨j, by omega, e⟩
def cmpL (l : List Int) : List Int := Go.Lib.compactUpTo (insL l).toArray (insL l).length
theorem cmpL_inc (l : List Int) : (cmpL l).Pairwise (· < ·) := (comp_inc _ (insL_sorted l) _ (Nat.le_refl _)).1
theorem cmpL_mem (l : List Int) (v : Int) : v ∈ cmpL l ↔ v ∈ l := by
  unfold cmpL
  rw [(comp_inc _ (insL_sorted l) _ (Nat.le_refl _)).2, ← (insL_perm l).mem_iff, List.mem_iff_getElem]
  constructor
  · rintro ⟨j, hj, e⟩
    refine ⟨j, hj, ?_⟩
    rw [getElem!_pos (insL l).toArray j (by simpa using hj)] at e
    simpa using e
  · rintro ⟨j, hj, e⟩
    refine ⟨j, hj, ?_⟩
    rw [getElem!_pos (insL l).toArray j (by simpa using hj)]
    simpa using e
theorem cmpL_len (l : List Int) : (cmpL l).length ≤ l.length := by
  unfold cmpL
  rw [← (insL_perm l).length_eq]
  exact compactUpTo_length _
theorem cmp_ev (l : List Int) (hl : l.length ≤ 10000000) : ((slices_Sort_int_int.f l).bind fun t => ((slices_Compact_int_int.f t).bind fun u => (some u))) = some (cmpL l) := by
  have h1 : slices_Sort_int_int.f l = some (insL l) := if_pos (by omega)
  have h2 : slices_Compact_int_int.f (insL l) = some (cmpL l) := if_pos (by rw [(insL_perm l).length_eq]; omega)
  rw [h1, Option.bind_some, h2, Option.bind_some]
def endR (a fr up : Int) (l : List S25) : List Int := (l.map (hiA a)).filter fun n => decide (fr < n) && decide (n < up)
theorem endR_pos {a fr up : Int} {b : S25} {l : List S25} (h1 : fr < hiA a b) (h2 : hiA a b < up) : endR a fr up (b :: l) = hiA a b :: endR a fr up l := by simp [endR, h1, h2]
theorem endR_neg {a fr up : Int} {b : S25} {l : List S25} (h : ¬ (fr < hiA a b ∧ hiA a b < up)) : endR a fr up (b :: l) = endR a fr up l := by
  unfold endR
  rw [List.map_cons, List.filter_cons_of_neg (by simpa using h)]
def endsL (a fr up : Int) (l : List S25) : List Int := cmpL (fr :: endR a fr up l)
theorem endsL_mem {a fr up : Int} {l : List S25} {v : Int} : v ∈ endsL a fr up l ↔ v = fr ∨ ∃ b ∈ l, hiA a b = v ∧ fr < v ∧ v < up := by
  unfold endsL
  rw [cmpL_mem, List.mem_cons]
  unfold endR
  rw [List.mem_filter, List.mem_map, Bool.and_eq_true, decide_eq_true_eq, decide_eq_true_eq]
  constructor
  · rintro (h | ⟨⟨b, hb, e⟩, h⟩)
    · exact .inl h
    · exact .inr ⟨b, hb, e, h⟩
  · rintro (h | ⟨b, hb, e, h⟩)
    · exact .inl h
    · exact .inr ⟨⟨b, hb, e⟩, h⟩
theorem endsL_len (a fr up : Int) (l : List S25) : (endsL a fr up l).length ≤ l.length + 1 := by
  unfold endsL
  refine Nat.le_trans (cmpL_len _) ?_
  rw [List.length_cons]
  have := List.length_filter_le (fun n => decide (fr < n) && decide (n < up)) (l.map (hiA a))
  rw [List.length_map] at this
  unfold endR
  omega
theorem ends_l0 (a fr up : Int) (ha : a = 0 ∨ a = 1 ∨ a = 2) (l : List S25) (hl : l.length ≤ 1000000) : ∀ m i acc, l.length = i + m → acc.length ≤ i + 1 → Ev (fun k => box_ends.l0 k a fr up acc l (l.length : Int) (i : Int)) (cmpL (acc ++ endR a fr up (l.drop i))) := by
  intro m
  induction m with
  | zero =>
    intro i acc hi h
    refine Ev.succ ?_
    simp only [box_ends.l0]
    rw [List.drop_of_length_le (by omega), show endR a fr up [] = [] from rfl, List.append_nil]
    exact Ev.neg (by omega) (Ev.const (cmp_ev acc (by omega)))
  | succ m ih =>
    intro i acc hi h
    refine Ev.succ ?_
    simp only [box_ends.l0]
    rw [drop_cons l i z25 (by omega), rdN, stp (by omega)]
    generalize l.getD i z25 = b
    have go : fr < hiA a b → hiA a b < up → Ev (fun k => box_ends.l0 k a fr up (acc ++ [hiA a b]) l (l.length : Int) ((i + 1 : Nat) : Int)) (cmpL (acc ++ endR a fr up (b :: l.drop (i + 1)))) := fun h1 h2 => by
      rw [endR_pos h1 h2]
      have := ih (i + 1) (acc ++ [hiA a b]) (by omega) (by simp; omega)
      rwa [List.append_assoc] at this
    have no : ¬ (fr < hiA a b ∧ hiA a b < up) → Ev (fun k => box_ends.l0 k a fr up acc l (l.length : Int) ((i + 1 : Nat) : Int)) (cmpL (acc ++ endR a fr up (b :: l.drop (i + 1)))) := fun h1 => by
      rw [endR_neg h1]
      exact ih (i + 1) acc (by omega) (by omega)
    refine Ev.pos (by omega) (Ev.pos (by omega) (Ev.pos (by omega) (Ev.cbind rfl ?_)))
    rcases ha with rfl | rfl | rfl
    · exact Ev.pos rfl (Ev.ite (fun c1 => Ev.ite (fun c2 => Ev.pos (by omega) (go c1 c2)) (fun c2 => no (fun h => c2 h.2))) (fun c1 => no (fun h => c1 h.1)))
    · exact Ev.neg (by decide) (Ev.pos rfl (Ev.ite (fun c1 => Ev.ite (fun c2 => Ev.pos (by omega) (go c1 c2)) (fun c2 => no (fun h => c2 h.2))) (fun c1 => no (fun h => c1 h.1))))
    · exact Ev.neg (by decide) (Ev.neg (by decide) (Ev.pos rfl (Ev.ite (fun c1 => Ev.ite (fun c2 => Ev.pos (by omega) (go c1 c2)) (fun c2 => no (fun h => c2 h.2))) (fun c1 => no (fun h => c1 h.1)))))
theorem ends_ev (a fr up : Int) (ha : a = 0 ∨ a = 1 ∨ a = 2) (l : List S25) (hl : l.length ≤ 1000000) : Ev (fun k => box_ends.f k l a fr up) (endsL a fr up l) := ends_l0 a fr up ha l hl l.length 0 [fr] (by omega) (by simp)
end
section
open Go.RowKit Go.Proofs.Ytmmdikhmlmoolaa.QA Go.Proofs.YtmmdikhmlmoolaaW.PrintWords Go.Proofs.YtmmdikhmlmoolaaW.PrintLast Go.Proofs.YtmmdikhmlmoolaaW.PrintMore Go.Proofs.Ytmmdikhmlmoolaa.EvKit
set_option linter.unusedVariables false
set_option linter.unusedSimpArgs false
def cutR (a : Int) (l : List S25) : List Int := l.flatMap fun b => [loA a b, hiA a b]
def cuts (a : Int) (l : List S25) : List Int := cmpL (cutR a l)
theorem cutR_len (a : Int) : ∀ l : List S25, (cutR a l).length = 2 * l.length
  | [] => rfl
  | b :: l => by
    have := cutR_len a l
    unfold cutR at this ⊢
    rw [List.flatMap_cons, List.length_append, this]; simp; omega
theorem cuts_len (a : Int) (l : List S25) : (cuts a l).length ≤ 2 * l.length := by
  rw [← cutR_len a l]; exact cmpL_len _
theorem cuts_mem {a : Int} {l : List S25} {v : Int} : v ∈ cuts a l ↔ ∃ b ∈ l, v = loA a b ∨ v = hiA a b := by
  unfold cuts cutR
  rw [cmpL_mem, List.mem_flatMap]
  simp
theorem cuts_l0 (a : Int) (ha : a = 0 ∨ a = 1 ∨ a = 2) (l : List S25) (hl : l.length ≤ 1000000) : ∀ m i acc, l.length = i + m → acc.length ≤ 2 * i → Ev (fun k => box_cuts.l0 k a acc l (l.length : Int) (i : Int)) (cmpL (acc ++ cutR a (l.drop i))) := by
  intro m
  induction m with
  | zero =>
    intro i acc hi h
    refine Ev.succ ?_
    simp only [box_cuts.l0]
    rw [List.drop_of_length_le (by omega), show cutR a [] = [] from rfl, List.append_nil]
    exact Ev.neg (by omega) (Ev.const (cmp_ev acc (by omega)))
  | succ m ih =>
    intro i acc hi h
    refine Ev.succ ?_
    simp only [box_cuts.l0]
    rw [drop_cons l i z25 (by omega), rdN]
    generalize l.getD i z25 = b
    have go : Ev (fun k => box_cuts.j1 k a (acc ++ [loA a b, hiA a b]) l (l.length : Int) (i : Int)) (cmpL (acc ++ cutR a (b :: l.drop (i + 1)))) := by
      refine Ev.succ ?_
      simp only [box_cuts.j1]
      rw [stp (by omega)]
      have := ih (i + 1) (acc ++ [loA a b, hiA a b]) (by omega) (by simp; omega)
      rw [List.append_assoc] at this
      exact this
    have hlen : acc.length + 2 < 17592186044416 := by omega
    refine Ev.pos (by omega) (Ev.pos (by omega) (Ev.pos (by omega) (Ev.cbind rfl ?_)))
    rcases ha with rfl | rfl | rfl
    · exact Ev.pos rfl (Ev.cbind rfl (Ev.pos hlen go))
    · exact Ev.neg (by decide) (Ev.pos rfl (Ev.cbind rfl (Ev.pos hlen go)))
    · exact Ev.neg (by decide) (Ev.neg (by decide) (Ev.pos rfl (Ev.cbind rfl (Ev.pos hlen go))))
theorem cuts_ev (a : Int) (ha : a = 0 ∨ a = 1 ∨ a = 2) (l : List S25) (hl : l.length ≤ 1000000) : Ev (fun k => box_cuts.f k l a) (cuts a l) := cuts_l0 a ha l hl l.length 0 [] (by omega) (by simp)
section
open Go.Sort
theorem sortB_sorted {α : Type} [Inhabited α] (lt : α → α → Bool) (hO : SWO lt) (l : List α) : (Go.Proofs.Ytmmdikhmlmoolaa.SortRow.sortL lt l).Pairwise (fun a b => lt b a = false) := by
  have h := (pdq_sorts lt hO l.toArray 0 l.toArray.size (Lib.bitLen l.toArray.size) true true (Nat.zero_le _) (Nat.le_refl _) (Or.inl rfl))
  have hs := h.1.1
  have h2 := h.2
  rw [List.pairwise_iff_getElem]
  intro i j hi hj hij
  have hj' : j < (pdq lt l.toArray 0 l.toArray.size (Lib.bitLen l.toArray.size) true true).size := by simpa [Go.Proofs.Ytmmdikhmlmoolaa.SortRow.sortL] using hj
  have := h2 i j (Nat.zero_le _) hij (by omega)
  rw [getElem!_pos (pdq lt l.toArray 0 l.toArray.size (Lib.bitLen l.toArray.size) true true) _ hj', getElem!_pos (pdq lt l.toArray 0 l.toArray.size (Lib.bitLen l.toArray.size) true true) _ (by omega)] at this
  simpa [Go.Proofs.Ytmmdikhmlmoolaa.SortRow.sortL] using this
end
def anyX (l : List S25) (x : Int) : Bool := l.any fun b => inI b.f0.f0 b.f1.f0 x
theorem anyX_perm {l m : List S25} (h : l.Perm m) (x : Int) : anyX l x = anyX m x := by
  rw [Bool.eq_iff_iff]
  unfold anyX
  rw [List.any_eq_true, List.any_eq_true]
  constructor
  · rintro ⟨b, hb, e⟩; exact ⟨b, h.mem_iff.1 hb, e⟩
  · rintro ⟨b, hb, e⟩; exact ⟨b, h.mem_iff.2 hb, e⟩
def cF (e : Int) (l : List S25) : Int := S1 fun x => ind (decide (e ≤ x) && anyX l x)
theorem S1_inI2 {a b : Int} (h1 : -1000000 ≤ a) (h3 : b ≤ 1000000) (h4 : a ≤ 1000000) : S1 (fun i => ind (inI a b i)) = mx 0 (b - a) := by
  by_cases h : a ≤ b
  · rw [S1_inI h1 h h3]; unfold mx; split <;> omega
  · rw [S1_congr (g := fun _ => 0) (fun i _ _ => ?_)]
    · unfold S1; rw [si_const (c := 0) (by omega) (fun _ _ _ => rfl)]; unfold mx; split <;> omega
    · have : inI a b i = false := by rw [← Bool.not_eq_true, inI_iff]; omega
      rw [this]; rfl
theorem mx_or (a b : Int) : (mx a b = a ∧ b ≤ a) ∨ (mx a b = b ∧ a ≤ b) := by unfold mx; split <;> omega
theorem cF_cons (e : Int) (b : S25) (l : List S25) (hv : V b) (hs : ∀ c ∈ l, b.f0.f0 ≤ c.f0.f0) (he : -1000001 ≤ e) (he2 : e ≤ 1000000) : cF e (b :: l) = mx 0 (b.f1.f0 - mx e b.f0.f0) + cF (mx e b.f1.f0) l := by
  have r0 := hv.r0
  have r3 := hv.r3
  have l0 := hv.l0
  have q := mx_or e b.f0.f0
  rw [← S1_inI2 (a := mx e b.f0.f0) (b := b.f1.f0) (by omega) r3.2 (by omega)]
  unfold cF
  rw [← S1_add]
  refine S1_congr fun x _ _ => ?_
  have q2 := mx_or e b.f1.f0
  unfold anyX
  rw [List.any_cons]
  cases ha : (l.any fun c => inI c.f0.f0 c.f1.f0 x) with
  | false =>
    rw [Bool.or_false, Bool.and_false]
    have : (decide (e ≤ x) && inI b.f0.f0 b.f1.f0 x) = inI (mx e b.f0.f0) b.f1.f0 x := by
      rw [Bool.eq_iff_iff, Bool.and_eq_true, inI_iff, inI_iff, decide_eq_true_eq]; omega
    rw [this]; simp [ind]
  | true =>
    rw [Bool.or_true, Bool.and_true, Bool.and_true]
    obtain ⟨c, hc, hx⟩ := List.any_eq_true.1 ha
    have hx := (inI_iff _ _ _).1 hx
    have hlo := hs c hc
    by_cases h1 : e ≤ x
    · by_cases h2 : x < b.f1.f0
      · rw [decide_eq_true h1, (inI_iff (mx e b.f0.f0) b.f1.f0 x).2 ⟨by omega, h2⟩, decide_eq_false (by omega : ¬ mx e b.f1.f0 ≤ x)]; rfl
      · have : inI (mx e b.f0.f0) b.f1.f0 x = false := by rw [← Bool.not_eq_true, inI_iff]; omega
        rw [decide_eq_true h1, this, decide_eq_true (by omega : mx e b.f1.f0 ≤ x)]; rfl
    · have : inI (mx e b.f0.f0) b.f1.f0 x = false := by rw [← Bool.not_eq_true, inI_iff]; omega
      rw [decide_eq_false h1, this, decide_eq_false (by omega : ¬ mx e b.f1.f0 ≤ x)]; rfl
theorem cF_nonneg (e : Int) (l : List S25) : 0 ≤ cF e l := si_nonneg (fun x => ind_nonneg _) _ _
theorem cF_nil (e : Int) : cF e [] = 0 := by
  unfold cF
  rw [S1_congr (g := fun _ => 0) (fun x _ _ => by simp [anyX, ind])]
  unfold S1; rw [si_const (c := 0) (by omega) (fun _ _ _ => rfl), Int.mul_zero]
theorem S1_le (f : Int → Int) (h : ∀ x, f x ≤ 1) : S1 f ≤ 2000000 := by
  have := si_mono h (-1000000) 1000000
  rw [si_const (f := fun _ => 1) (c := 1) (by omega) (fun _ _ _ => rfl)] at this
  unfold S1; omega
theorem covered_l0 (s : List S25) (hV : ∀ b ∈ s, V b) (hl : s.length ≤ 1000000) (hs : s.Pairwise (fun a b => a.f0.f0 ≤ b.f0.f0)) (T : Int) (hT : T ≤ 2000000) : ∀ m i (n e : Int), s.length = i + m → n + cF e (s.drop i) = T → 0 ≤ n → -1000001 ≤ e → e ≤ 1000000 → Ev (fun k => box_covered.l0 k n e s (s.length : Int) (i : Int)) T := by
  intro m
  induction m with
  | zero =>
    intro i n e hi h h0 h1 h2
    refine Ev.succ ?_
    simp only [box_covered.l0]
    rw [List.drop_of_length_le (by omega), cF_nil, Int.add_zero] at h
    subst h
    exact Ev.neg (by omega) (Ev.now _)
  | succ m ih =>
    intro i n e hi h h0 h1 h2
    refine Ev.succ ?_
    simp only [box_covered.l0]
    have hm := getD_mem (l := s) (i := i) (by omega)
    have hd := drop_cons s i z25 (by omega)
    have hsort : ∀ c ∈ s.drop (i + 1), (s.getD i z25).f0.f0 ≤ c.f0.f0 := by
      have := hs.sublist (List.drop_sublist i s)
      rw [hd, List.pairwise_cons] at this
      exact this.1
    rw [hd] at h
    rw [rdN, stp (by omega)]
    have hv := hV _ hm
    generalize s.getD i z25 = b at h hsort hv ⊢
    rw [cF_cons e b _ hv hsort h1 h2] at h
    have r0 := hv.r0
    have r3 := hv.r3
    have hn := cF_nonneg (mx e b.f1.f0) (s.drop (i + 1))
    have q := mx_or e b.f0.f0
    have q2 := mx_or e b.f1.f0
    have q3 := mx_or 0 (b.f1.f0 - mx e b.f0.f0)
    rw [w64 (n := b.f1.f0 - mx e b.f0.f0) (by omega) (by omega), w64 (n := n + mx 0 (b.f1.f0 - mx e b.f0.f0)) (by omega) (by omega)]
    exact Ev.pos (by omega) (Ev.pos (by omega) (Ev.pos (by omega) (ih (i + 1) _ _ (by omega) (by omega) (by omega) (by omega) (by omega))))
def cX (row : List S25) : Int := S1 fun x => ind (anyX row x)
theorem cX_nonneg (row : List S25) : 0 ≤ cX row := si_nonneg (fun x => ind_nonneg _) _ _
theorem cX_le (row : List S25) : cX row ≤ 2000000 := S1_le _ (fun x => ind_le _)
theorem covered_ev (row : List S25) (hV : ∀ b ∈ row, V b) (hl : row.length ≤ 1000000) : Ev (fun k => box_covered.f k row) (cX row) := by
  unfold box_covered.f
  have hp := Go.Proofs.Ytmmdikhmlmoolaa.SortRow.sortL_perm ltB swoB row
  have hs := sortB_sorted ltB swoB row
  have h1 : api_Box_70.f row = some row := if_pos (by omega)
  have h2 : api_Box_71.f row 72 = some (Go.Proofs.Ytmmdikhmlmoolaa.SortRow.sortL ltB row) := if_pos ⟨rfl, by omega⟩
  refine Ev.cbind h1 (Ev.cbind h2 ?_)
  have hlen := hp.length_eq
  rw [← hlen]
  refine covered_l0 _ (fun b hb => hV b (hp.mem_iff.1 hb)) (by omega) (hs.imp (fun {a b} h => by
    simp only [ltB, decide_eq_false_iff_not] at h; omega)) _ (cX_le row) _ 0 0 (-1000001) (Nat.zero_add _).symm ?_ (by omega) (by omega) (by omega)
  rw [List.drop_zero, Int.zero_add]
  unfold cF cX
  refine S1_congr fun x h1 h2 => ?_
  rw [decide_eq_true (by omega : -1000001 ≤ x), Bool.true_and, anyX_perm hp]
def swp (f : Int → Int) : List Int → Int
  | [] => 0
  | a :: t => (match t with | [] => 0 | b :: _ => f a * (b - a)) + swp f t
theorem swp_two (f : Int → Int) (a b : Int) (t : List Int) : swp f (a :: b :: t) = f a * (b - a) + swp f (b :: t) := rfl
theorem swp_one (f : Int → Int) (a : Int) : swp f [a] = 0 := rfl
theorem swp_nonneg (f : Int → Int) (hf : ∀ i, 0 ≤ f i) : ∀ l : List Int, l.Pairwise (· < ·) → 0 ≤ swp f l
  | [], _ => Int.le_refl _
  | [a], _ => Int.le_refl _
  | a :: b :: t, h => by
    obtain ⟨h1, h2⟩ := List.pairwise_cons.1 h
    have := h1 b (by simp)
    have h3 := swp_nonneg f hf (b :: t) h2
    have h4 := Int.mul_nonneg (hf a) (show 0 ≤ b - a by omega)
    rw [swp_two]; omega
theorem sweep_from (f : Int → Int) (E : List Int) (h1 : ∀ a y, a ≤ y → (∀ e ∈ E, ¬ (a < e ∧ e ≤ y)) → f y = f a) (h3 : ∀ y, (∀ e ∈ E, e ≤ y) → f y = 0) (hE : ∀ e ∈ E, e ≤ 1000000) :
    ∀ (t : List Int) (a : Int), (a :: t).Pairwise (· < ·) → (∀ e ∈ E, e ≤ a ∨ e ∈ t) → (∀ e ∈ a :: t, e ∈ E) → si f a 1000000 = swp f (a :: t)
  | [], a, hs, hp, hm => by
    rw [swp_one, si_const (c := 0) (hE a (hm a (by simp))) (fun i h4 h5 => h3 i (fun e he => ?_)), Int.mul_zero]
    rcases hp e he with h | h
    · omega
    · cases h
  | b :: t, a, hs, hp, hm => by
    obtain ⟨h4, h5⟩ := List.pairwise_cons.1 hs
    have hab := h4 b (by simp)
    rw [swp_two, si_split f (Int.le_of_lt hab) (hE b (hm b (by simp))), sweep_from f E h1 h3 hE t b h5 (fun e he => ?_) (fun e he => hm e (by simp at he ⊢; exact .inr he)), si_const (c := f a) (Int.le_of_lt hab) (fun i h6 h7 => h1 a i h6 (fun e he hh => ?_)), Int.mul_comm]
    · rcases hp e he with h | h
      · omega
      · rcases List.mem_cons.1 h with rfl | h
        · omega
        · have := (List.pairwise_cons.1 h5).1 e h
          omega
    · rcases hp e he with h | h
      · exact .inl (by omega)
      · rcases List.mem_cons.1 h with rfl | h
        · exact .inl (Int.le_refl _)
        · exact .inr h
theorem sweep (f : Int → Int) (E : List Int) (hs : E.Pairwise (· < ·)) (h1 : ∀ a y, a ≤ y → (∀ e ∈ E, ¬ (a < e ∧ e ≤ y)) → f y = f a) (h2 : ∀ y, (∀ e ∈ E, y < e) → f y = 0) (h3 : ∀ y, (∀ e ∈ E, e ≤ y) → f y = 0) (hE : ∀ e ∈ E, -1000000 ≤ e ∧ e ≤ 1000000) : S1 f = swp f E := by
  unfold S1
  match E, hs, h1, h2, h3, hE with
  | [], hs, h1, h2, h3, hE => rw [si_const (c := 0) (by omega) (fun i _ _ => h2 i (by simp)), Int.mul_zero]; rfl
  | a :: t, hs, h1, h2, h3, hE =>
    have hpw := List.pairwise_cons.1 hs
    have ha := hE a (by simp)
    rw [si_split f ha.1 ha.2, si_const (c := 0) ha.1 (fun i h4 h5 => h2 i (fun e he => ?_)), Int.mul_zero, Int.zero_add]
    · exact sweep_from f (a :: t) h1 h3 (fun e he => (hE e he).2) t a hs (fun e he => by
        rcases List.mem_cons.1 he with rfl | he
        · exact .inl (Int.le_refl _)
        · exact .inr he) (fun e he => he)
    · rcases List.mem_cons.1 he with rfl | he
      · exact h5
      · have := hpw.1 e he; omega
theorem at_same (c : Int) (l : List S25) (a y : Int) (hay : a ≤ y) (h : ∀ e ∈ cuts c l, ¬ (a < e ∧ e ≤ y)) : atL c y l = atL c a l := by
  unfold atL
  refine List.filter_congr fun b hb => ?_
  have h1 := h _ (cuts_mem.2 ⟨b, hb, .inl rfl⟩)
  have h2 := h _ (cuts_mem.2 ⟨b, hb, .inr rfl⟩)
  rw [Bool.eq_iff_iff, Bool.and_eq_true, Bool.and_eq_true]
  simp only [decide_eq_true_eq]
  omega
theorem at_low (c : Int) (l : List S25) (y : Int) (h : ∀ e ∈ cuts c l, y < e) : atL c y l = [] := by
  unfold atL
  rw [List.filter_eq_nil_iff]
  intro b hb
  have h1 := h _ (cuts_mem.2 ⟨b, hb, .inl rfl⟩)
  simp; omega
theorem at_high (c : Int) (l : List S25) (y : Int) (h : ∀ e ∈ cuts c l, e ≤ y) : atL c y l = [] := by
  unfold atL
  rw [List.filter_eq_nil_iff]
  intro b hb
  have h1 := h _ (cuts_mem.2 ⟨b, hb, .inr rfl⟩)
  simp; omega
theorem cuts_in (c : Int) (hc : c = 0 ∨ c = 1 ∨ c = 2) (l : List S25) (hV : ∀ b ∈ l, V b) : ∀ e ∈ cuts c l, -1000000 ≤ e ∧ e ≤ 1000000 := by
  intro e he
  obtain ⟨b, hb, h⟩ := cuts_mem.1 he
  have hv := hV b hb
  obtain ⟨r0, r1, r2, r3, r4, r5, _, _, _⟩ := hv
  rcases hc with rfl | rfl | rfl <;> rcases h with rfl | rfl <;> simp only [loA, hiA] <;> simp <;> omega
def fY (plane : List S25) (y : Int) : Int := cX (atL 1 y plane)
theorem cX_nil : cX [] = 0 := by
  unfold cX
  rw [S1_congr (g := fun _ => 0) (fun x _ _ => by simp [anyX, ind])]
  unfold S1; rw [si_const (c := 0) (by omega) (fun _ _ _ => rfl), Int.mul_zero]
theorem sweepY (plane : List S25) (hV : ∀ b ∈ plane, V b) : S1 (fY plane) = swp (fY plane) (cuts 1 plane) := by
  refine sweep _ _ (cmpL_inc _) (fun a y h1 h2 => ?_) (fun y h => ?_) (fun y h => ?_) (cuts_in 1 (by simp) plane hV)
  · unfold fY; rw [at_same 1 plane a y h1 h2]
  · unfold fY; rw [at_low 1 plane y h, cX_nil]
  · unfold fY; rw [at_high 1 plane y h, cX_nil]
def fZ (list : List S25) (z : Int) : Int := S1 (fY (atL 2 z list))
theorem fZ_nil : S1 (fY []) = 0 := by
  rw [S1_congr (f := fY []) (g := fun _ => 0) (fun x _ _ => cX_nil)]
  unfold S1; rw [si_const (c := 0) (by omega) (fun _ _ _ => rfl), Int.mul_zero]
theorem sweepZ (list : List S25) (hV : ∀ b ∈ list, V b) : S1 (fZ list) = swp (fZ list) (cuts 2 list) := by
  refine sweep _ _ (cmpL_inc _) (fun a y h1 h2 => ?_) (fun y h => ?_) (fun y h => ?_) (cuts_in 2 (by simp) list hV)
  · unfold fZ; rw [at_same 2 list a y h1 h2]
  · unfold fZ; rw [at_low 2 list y h, fZ_nil]
  · unfold fZ; rw [at_high 2 list y h, fZ_nil]
theorem any_at (list : List S25) (x y z : Int) : anyX (atL 1 y (atL 2 z list)) x = anyB list x y z := by
  rw [Bool.eq_iff_iff]
  unfold anyX anyB
  rw [List.any_eq_true, List.any_eq_true]
  constructor
  · rintro ⟨b, hb, e⟩
    obtain ⟨hb, h1⟩ := atL_mem.1 hb
    obtain ⟨hb, h2⟩ := atL_mem.1 hb
    refine ⟨b, hb, ?_⟩
    rw [hasB_is, Bool.and_eq_true, Bool.and_eq_true]
    exact ⟨(inI_iff _ _ _).2 h2, (inI_iff _ _ _).2 h1, e⟩
  · rintro ⟨b, hb, e⟩
    rw [hasB_is, Bool.and_eq_true, Bool.and_eq_true] at e
    exact ⟨b, atL_mem.2 ⟨atL_mem.2 ⟨hb, (inI_iff _ _ _).1 e.1⟩, (inI_iff _ _ _).1 e.2.1⟩, e.2.2⟩
def uni (list : List S25) : Int := S3 fun x y z => ind (anyB list x y z)
theorem uni_is (list : List S25) : uni list = S1 (fZ list) := by
  unfold uni S3
  refine S1_congr fun z _ _ => S1_congr fun y _ _ => S1_congr fun x _ _ => ?_
  rw [any_at]
theorem uni_le (list : List S25) : uni list ≤ 8000000000000000000 := by
  have h : uni list ≤ S3 (fun _ _ _ => 1) := S3_mono (fun x y z => ind_le _)
  have e : S3 (fun _ _ _ => 1) = 8000000000000000000 := by
    show S1 (fun _ => S1 fun _ => S1 fun _ => 1) = _
    have e1 : ∀ c : Int, S1 (fun _ => c) = 2000000 * c := fun c => by unfold S1; rw [si_const (c := c) (by omega) (fun _ _ _ => rfl)]; omega
    rw [e1, e1, e1]; rfl
  omega
theorem uni_nonneg (list : List S25) : 0 ≤ uni list := S3_nonneg (fun x y z => ind_nonneg _)
end
section
open Go.RowKit Go.Proofs.Ytmmdikhmlmoolaa.QA Go.Proofs.YtmmdikhmlmoolaaW.PrintWords Go.Proofs.YtmmdikhmlmoolaaW.PrintLast Go.Proofs.YtmmdikhmlmoolaaW.PrintMore Go.Proofs.Ytmmdikhmlmoolaa.EvKit
set_option linter.unusedVariables false
set_option linter.unusedSimpArgs false
theorem rdJ (l : List Int) (i : Nat) : rd l (i : Int) = l.getD i 0 := by simp [rd]
theorem stm {j : Nat} (h : 1 ≤ j) (h2 : j ≤ 1000000) : wrap64 ((j : Int) - 1) = ((j - 1 : Nat) : Int) := by rw [w64 (by omega) (by omega)]; omega
theorem tot_l1 (list plane : List S25) (zs ys : List Int) (zi : Nat) (N : Int) (R : Int × Int) (hp : plane.length ≤ 1000) (hV : ∀ b ∈ plane, V b) (hys : ys.length ≤ 100000) (hy : ys.Pairwise (· < ·)) (hyb : ∀ e ∈ ys, -1000000 ≤ e ∧ e ≤ 1000000) (hz1 : 1 ≤ zi) (hz2 : zi < zs.length) (hz3 : zs.length ≤ 100000) (hzb : ∀ e ∈ zs, -1000000 ≤ e ∧ e ≤ 1000000) (hz : zs.getD (zi - 1) 0 < zs.getD zi 0) (hN : N ≤ 8000000000000000000)
    (hR : Ev (fun k => box_Total.l0 k list N zs ((zi + 1 : Nat) : Int)) R) :
    ∀ m j (n : Int), 1 ≤ j → ys.length ≤ j + m → 0 ≤ n → n + swp (fY plane) (ys.drop (j - 1)) * (zs.getD zi 0 - zs.getD (zi - 1) 0) = N →
    Ev (fun k => box_Total.l1 k list n zs (zi : Int) plane ys (j : Int)) R := by
  have hmem : ∀ i, i < zs.length → zs.getD i 0 ∈ zs := fun i hi => by rw [List.getD_eq_getElem?_getD, List.getElem?_eq_getElem hi]; simp
  have b1 := hzb _ (hmem zi hz2)
  have b0 := hzb _ (hmem (zi - 1) (by omega))
  have fin : ∀ (j : Nat) (n : Int), ys.length ≤ j → n = N → Ev (fun k => box_Total.l1 k list n zs (zi : Int) plane ys (j : Int)) R := fun j n hj hn => by
    subst hn
    refine Ev.succ ?_
    simp only [box_Total.l1]
    rw [stp (i := zi) (by omega)]
    exact Ev.neg (by omega) hR
  have last : ∀ (j : Nat), 1 ≤ j → ys.length ≤ j → swp (fY plane) (ys.drop (j - 1)) = 0 := fun j h1 hj => by
    have : (ys.drop (j - 1)).length ≤ 1 := by rw [List.length_drop]; omega
    match hd : ys.drop (j - 1), this with
    | [], _ => rfl
    | [a], _ => rfl
  intro m
  induction m with
  | zero =>
    intro j n h1 hj h0 hn
    rw [last j h1 (by omega), Int.zero_mul, Int.add_zero] at hn
    exact fin j n (by omega) hn
  | succ m ih =>
    intro j n h1 hj h0 hn
    by_cases hlt : j < ys.length
    rotate_left
    · rw [last j h1 (by omega), Int.zero_mul, Int.add_zero] at hn
      exact fin j n (by omega) hn
    have hd : ys.drop (j - 1) = ys.getD (j - 1) 0 :: ys.getD j 0 :: ys.drop (j + 1) := by
      rw [drop_cons ys (j - 1) 0 (by omega), show j - 1 + 1 = j by omega, drop_cons ys j 0 hlt]
    have hd2 : ys.drop (j + 1 - 1) = ys.getD j 0 :: ys.drop (j + 1) := by rw [show j + 1 - 1 = j by omega, drop_cons ys j 0 hlt]
    have hmy : ∀ i, i < ys.length → ys.getD i 0 ∈ ys := fun i hi => by rw [List.getD_eq_getElem?_getD, List.getElem?_eq_getElem hi]; simp
    have y1 := hyb _ (hmy j hlt)
    have y0 := hyb _ (hmy (j - 1) (by omega))
    have hpw := hy.sublist (List.drop_sublist (j - 1) ys)
    rw [hd] at hpw hn
    have hy2 := (List.pairwise_cons.1 hpw).1 (ys.getD j 0) (by simp)
    have hrest := swp_nonneg (fY plane) (fun i => cX_nonneg _) _ (List.pairwise_cons.1 hpw).2
    rw [swp_two] at hn
    refine Ev.succ ?_
    simp only [box_Total.l1]
    rw [stm h1 (by omega), rdJ, rdJ, stm hz1 (by omega), rdJ, rdJ, stp (by omega)]
    have hc := covered_ev (atL 1 (ys.getD (j - 1) 0) plane) (fun b hb => hV b (atL_mem.1 hb).1) (by have := atL_len 1 (ys.getD (j - 1) 0) plane; omega)
    have c0 := cX_nonneg (atL 1 (ys.getD (j - 1) 0) plane)
    have c1 := cX_le (atL 1 (ys.getD (j - 1) 0) plane)
    have hf : fY plane (ys.getD (j - 1) 0) = cX (atL 1 (ys.getD (j - 1) 0) plane) := rfl
    rw [hf] at hn
    refine Ev.pos (by omega) (Ev.pos (by omega) (Ev.pos (by omega) (Ev.bind (at_ev 1 _ (by simp) plane (by omega)) (Ev.bind hc (Ev.pos (by omega) (Ev.pos (by omega) (Ev.pos (by omega) (Ev.pos (by omega) (Ev.pos (by omega) ?_)))))))))
    have hnext := fun n' => ih (j + 1) n' (by omega) (by omega)
    rw [hd2] at hnext
    generalize cX (atL 1 (ys.getD (j - 1) 0) plane) = c at c0 c1 hn
    generalize ys.getD j 0 = q1 at hy2 y1 hn hnext hrest ⊢
    generalize ys.getD (j - 1) 0 = q0 at hy2 y0 hn hnext ⊢
    generalize zs.getD zi 0 = p1 at b1 hz hn hnext ⊢
    generalize zs.getD (zi - 1) 0 = p0 at b0 hz hn hnext ⊢
    generalize hS : swp (fY plane) (q1 :: ys.drop (j + 1)) = S at hn hrest hnext
    have m1 := mul_bd (a := c) (b := q1 - q0) (m := 2000000) (n := 2000000) c0 c1 (by omega) (by omega)
    have m2 := mul_bd (a := c * (q1 - q0)) (b := p1 - p0) (m := 4000000000000) (n := 2000000) m1.1 (by omega) (by omega) (by omega)
    have m3 := Int.mul_nonneg hrest (show 0 ≤ p1 - p0 by omega)
    rw [Int.add_mul] at hn
    rw [w64 (n := q1 - q0) (by omega) (by omega), w64 (n := p1 - p0) (by omega) (by omega), w64 (n := c * (q1 - q0)) (by omega) (by omega), w64 (n := c * (q1 - q0) * (p1 - p0)) (by omega) (by omega), w64 (n := n + c * (q1 - q0) * (p1 - p0)) (by omega) (by omega)]
    exact hnext _ (by omega) (by omega)
theorem tot_l0 (list : List S25) (zs : List Int) (T : Int) (hl : list.length ≤ 1000) (hV : ∀ b ∈ list, V b) (hz3 : zs.length ≤ 100000) (hz : zs.Pairwise (· < ·)) (hzb : ∀ e ∈ zs, -1000000 ≤ e ∧ e ≤ 1000000) (hT : T ≤ 8000000000000000000) :
    ∀ m j (n : Int), 1 ≤ j → zs.length ≤ j + m → 0 ≤ n → n + swp (fZ list) (zs.drop (j - 1)) = T → Ev (fun k => box_Total.l0 k list n zs (j : Int)) (T, 0) := by
  have fin : ∀ (j : Nat) (n : Int), zs.length ≤ j → n = T → Ev (fun k => box_Total.l0 k list n zs (j : Int)) (T, 0) := fun j n hj hn => by
    subst hn
    refine Ev.succ ?_
    simp only [box_Total.l0]
    exact Ev.neg (by omega) (Ev.now _)
  have last : ∀ (j : Nat), 1 ≤ j → zs.length ≤ j → swp (fZ list) (zs.drop (j - 1)) = 0 := fun j h1 hj => by
    have : (zs.drop (j - 1)).length ≤ 1 := by rw [List.length_drop]; omega
    match hd : zs.drop (j - 1), this with
    | [], _ => rfl
    | [a], _ => rfl
  intro m
  induction m with
  | zero =>
    intro j n h1 hj h0 hn
    rw [last j h1 (by omega), Int.add_zero] at hn
    exact fin j n (by omega) hn
  | succ m ih =>
    intro j n h1 hj h0 hn
    by_cases hlt : j < zs.length
    rotate_left
    · rw [last j h1 (by omega), Int.add_zero] at hn
      exact fin j n (by omega) hn
    have hd : zs.drop (j - 1) = zs.getD (j - 1) 0 :: zs.getD j 0 :: zs.drop (j + 1) := by
      rw [drop_cons zs (j - 1) 0 (by omega), show j - 1 + 1 = j by omega, drop_cons zs j 0 hlt]
    have hd2 : zs.drop (j + 1 - 1) = zs.getD j 0 :: zs.drop (j + 1) := by rw [show j + 1 - 1 = j by omega, drop_cons zs j 0 hlt]
    have hpw := hz.sublist (List.drop_sublist (j - 1) zs)
    rw [hd] at hpw hn
    have hz2 := (List.pairwise_cons.1 hpw).1 (zs.getD j 0) (by simp)
    have fnn : ∀ i, 0 ≤ fZ list i := fun i => si_nonneg (fun y => cX_nonneg _) _ _
    have hrest := swp_nonneg (fZ list) fnn _ (List.pairwise_cons.1 hpw).2
    rw [swp_two] at hn
    refine Ev.succ ?_
    simp only [box_Total.l0]
    rw [stm h1 (by omega), rdJ]
    have hplane : ∀ b ∈ atL 2 (zs.getD (j - 1) 0) list, V b := fun b hb => hV b (atL_mem.1 hb).1
    have hpl := atL_len 2 (zs.getD (j - 1) 0) list
    have hcl := cuts_len 1 (atL 2 (zs.getD (j - 1) 0) list)
    have hf : fZ list (zs.getD (j - 1) 0) = swp (fY (atL 2 (zs.getD (j - 1) 0) list)) (cuts 1 (atL 2 (zs.getD (j - 1) 0) list)) := sweepY _ hplane
    have hpos := Int.mul_nonneg (fnn (zs.getD (j - 1) 0)) (show 0 ≤ zs.getD j 0 - zs.getD (j - 1) 0 by omega)
    have hnext := ih (j + 1) (n + fZ list (zs.getD (j - 1) 0) * (zs.getD j 0 - zs.getD (j - 1) 0)) (by omega) (by omega) (by omega) (by rw [hd2]; omega)
    refine Ev.pos (by omega) (Ev.pos (by omega) (Ev.pos (by omega) (Ev.bind (at_ev 2 _ (by simp) list (by omega)) (Ev.bind (cuts_ev 1 (by simp) _ (by omega)) ?_))))
    exact tot_l1 list (atL 2 (zs.getD (j - 1) 0) list) zs (cuts 1 (atL 2 (zs.getD (j - 1) 0) list)) j _ _ (by omega) hplane (by omega) (cmpL_inc _) (cuts_in 1 (by simp) _ hplane) h1 hlt hz3 hzb hz2 (by omega) hnext (cuts 1 (atL 2 (zs.getD (j - 1) 0) list)).length 1 n (by omega) (by omega) h0 (by rw [show (1 : Nat) - 1 = 0 from rfl, List.drop_zero, ← hf])
def manyN (l : List S25) : Int := if l.length > 256 then 7 else chkL l
theorem manyN_ev (l : List S25) (hl : l.length ≤ 1000000) : Ev (fun k => box_many.f k l []) (manyN l) := by
  unfold box_many.f manyN
  have h1 := all_ev [] (by simp)
  exact Ev.ite (fun h => Ev.eq (Ev.now _) (by rw [if_pos (by omega)])) (fun h => Ev.bind h1 (Ev.pos rfl (Ev.bind (all_ev l hl) (Ev.eq (Ev.now _) (by rw [if_neg (by omega)])))))
theorem manyN_0 {l : List S25} (h : manyN l = 0) : l.length ≤ 256 ∧ ∀ c ∈ l, V c := by
  unfold manyN at h
  by_cases h1 : l.length > 256
  · rw [if_pos h1] at h; cases h
  · rw [if_neg h1] at h; exact ⟨by omega, (chkL_0 l).1 h⟩
def totS (l : List S25) : Int × Int := if manyN l = 0 then (uni l, 0) else (0, manyN l)
theorem tot_ev (l : List S25) (hl : l.length ≤ 1000000) : Ev (fun k => box_Total.f k l) (totS l) := by
  unfold box_Total.f totS
  refine Ev.bind (manyN_ev l hl) (ifs (fun h => ?_) (fun h => Ev.now _))
  obtain ⟨h1, hV⟩ := manyN_0 h
  have hc := cuts_len 2 l
  refine Ev.bind (cuts_ev 2 (by simp) l hl) ?_
  refine tot_l0 l (cuts 2 l) (uni l) (by omega) hV (by omega) (cmpL_inc _) (cuts_in 2 (by simp) l hV) (uni_le l) (cuts 2 l).length 1 0 (by omega) (by omega) (by omega) ?_
  rw [show (1 : Nat) - 1 = 0 from rfl, List.drop_zero, Int.zero_add, uni_is, sweepZ l hV]
end
section
open Go.RowKit Go.Proofs.Ytmmdikhmlmoolaa.QA Go.Proofs.YtmmdikhmlmoolaaW.PrintWords Go.Proofs.YtmmdikhmlmoolaaW.PrintLast Go.Proofs.YtmmdikhmlmoolaaW.PrintMore Go.Proofs.Ytmmdikhmlmoolaa.EvKit
set_option linter.unusedVariables false
set_option linter.unusedSimpArgs false
def firstO (a : S25) : Nat → List S25 → Option Nat
  | _, [] => none
  | j, c :: l => if ovB a c = true then some j else firstO a (j + 1) l
def pairO : Nat → List S25 → Option (Nat × Nat)
  | _, [] => none
  | i, a :: l => match firstO a (i + 1) l with
    | some j => some (i, j)
    | none => pairO (i + 1) l
def pairR : Option (Nat × Nat) → Int × Int
  | none => (-1, -1)
  | some (i, j) => ((i : Int), (j : Int))
theorem clash_l1 (l : List S25) (a : S25) (i : Nat) (R : Int × Int) (hl : l.length ≤ 1000000) (hi : i < l.length) (hR : Ev (fun k => box_clash.l0 k l l (l.length : Int) ((i + 1 : Nat) : Int)) R) :
    ∀ m j, l.length = j + m → Ev (fun k => box_clash.l1 k l (i : Int) (j : Int) l (l.length : Int) (i : Int) a.f0.f0 a.f0.f1 a.f0.f2 a.f1.f0 a.f1.f1 a.f1.f2) (match firstO a j (l.drop j) with | some q => ((i : Int), (q : Int)) | none => R) := by
  intro m
  induction m with
  | zero =>
    intro j hj
    refine Ev.succ ?_
    simp only [box_clash.l1]
    rw [List.drop_of_length_le (by omega), stp (i := i) (by omega)]
    exact Ev.neg (by omega) hR
  | succ m ih =>
    intro j hj
    refine Ev.succ ?_
    simp only [box_clash.l1]
    rw [drop_cons l j z25 (by omega), firstO, rdN, stp (i := j) (by omega)]
    have ho : ∀ c : S25, box_Overlap.f a.f0.f0 a.f0.f1 a.f0.f2 a.f1.f0 a.f1.f1 a.f1.f2 c.f0.f0 c.f0.f1 c.f0.f2 c.f1.f0 c.f1.f1 c.f1.f2 = some (ovB a c) := fun c => rfl
    refine Ev.pos (by omega) (Ev.pos (by omega) (Ev.cbind (ho _) ?_))
    by_cases h : ovB a (l.getD j z25) = true
    · rw [if_pos h]; exact Ev.pos h (Ev.now _)
    · rw [if_neg h]; exact Ev.neg h (ih (j + 1) (by omega))
theorem clash_l0 (l : List S25) (hl : l.length ≤ 1000000) : ∀ m i, l.length = i + m → Ev (fun k => box_clash.l0 k l l (l.length : Int) (i : Int)) (pairR (pairO i (l.drop i))) := by
  intro m
  induction m with
  | zero =>
    intro i hi
    refine Ev.succ ?_
    simp only [box_clash.l0]
    rw [List.drop_of_length_le (by omega)]
    exact Ev.neg (by omega) (Ev.now _)
  | succ m ih =>
    intro i hi
    refine Ev.succ ?_
    simp only [box_clash.l0]
    rw [drop_cons l i z25 (by omega), pairO, rdN, stp (i := i) (by omega)]
    refine Ev.pos (by omega) (Ev.pos (by omega) (Ev.pos (by omega) ?_))
    have h := clash_l1 l (l.getD i z25) i _ hl (by omega) (ih (i + 1) (by omega)) m (i + 1) (by omega)
    cases hf : firstO (l.getD i z25) (i + 1) (l.drop (i + 1)) with
    | none => rw [hf] at h; exact h
    | some q => rw [hf] at h; exact h
theorem clash_ev (l : List S25) (hl : l.length ≤ 1000000) : Ev (fun k => box_clash.f k l) (pairR (pairO 0 l)) := clash_l0 l hl l.length 0 (by omega)
def clashS (l : List S25) : Int × Int × Int := if manyN l = 0 then (match pairO 0 l with | none => (0, 0, 9) | some (i, j) => ((i : Int), (j : Int), 0)) else (0, 0, manyN l)
theorem Clash_ev (l : List S25) (hl : l.length ≤ 1000000) : Ev (fun k => box_Clash.f k l) (clashS l) := by
  unfold box_Clash.f clashS
  refine Ev.bind (manyN_ev l hl) (ifs (fun h => Ev.bind (clash_ev l hl) ?_) (fun h => Ev.now _))
  cases pairO 0 l with
  | none => exact Ev.pos (by simp [pairR]) (Ev.now _)
  | some p => exact Ev.neg (by simp [pairR]) (Ev.now _)
theorem ov_has (x y : S25) (p0 p1 p2 : Int) (hx : hasB x p0 p1 p2 = true) (hy : hasB y p0 p1 p2 = true) : ovB x y = true := by
  rw [ov_iff, mx_lt, mx_lt, mx_lt, lt_mn, lt_mn, lt_mn, lt_mn, lt_mn, lt_mn]
  unfold hasB at hx hy
  rw [decide_eq_true_eq] at hx hy
  omega
theorem corner_has (c : S25) (h : V c) : hasB c c.f0.f0 c.f0.f1 c.f0.f2 = true := by
  unfold hasB; rw [decide_eq_true_eq]; have := h.l0; have := h.l1; have := h.l2; omega
theorem cn_one : ∀ (l : List S25) (c : S25) (x y z : Int), c ∈ l → hasB c x y z = true → 1 ≤ cn l x y z
  | b :: l, c, x, y, z, hc, hh => by
    rw [cn]
    have h1 := ind_nonneg (hasB b x y z)
    have h2 := cn_nonneg l x y z
    rcases List.mem_cons.1 hc with rfl | hc
    · rw [hh]; simp [ind]; omega
    · have := cn_one l c x y z hc hh; omega
end
section
open Go.RowKit Go.Proofs.Ytmmdikhmlmoolaa.QA Go.Proofs.YtmmdikhmlmoolaaW.PrintWords Go.Proofs.YtmmdikhmlmoolaaW.PrintLast Go.Proofs.YtmmdikhmlmoolaaW.PrintMore Go.Proofs.Ytmmdikhmlmoolaa.EvKit
set_option linter.unusedVariables false
set_option linter.unusedSimpArgs false
abbrev G4 := Int × Int × Int × Int
def gX (row : List S25) (y z : Int) (R : G4) : List Int → G4
  | [] => R
  | x :: xs => if (atL 0 x row).length = 0 then (x, y, z, 0) else gX row y z R xs
def gY (plane : List S25) (b : S25) (z : Int) (R : G4) : List Int → G4
  | [] => R
  | y :: ys => gX (atL 1 y plane) y z (gY plane b z R ys) (endsL 0 b.f0.f0 b.f1.f0 (atL 1 y plane))
def gZ (list : List S25) (b : S25) : List Int → G4
  | [] => (0, 0, 0, 9)
  | z :: zs => gY (atL 2 z list) b z (gZ list b zs) (endsL 1 b.f0.f1 b.f1.f1 (atL 2 z list))
theorem rdI (l : List Int) (i : Nat) : rd l (i : Int) = l.getD i 0 := by simp [rd]
theorem gap_l2 (list plane row : List S25) (b : S25) (x y z : Int) (zs ys xs : List Int) (zi yi : Nat) (R : G4) (hr : row.length ≤ 1000000) (hx : xs.length ≤ 1000000) (hy : yi ≤ 1000000)
    (hR : Ev (fun k => box_Gap.l1 k list z plane zs (zs.length : Int) (zi : Int) ys (ys.length : Int) ((yi + 1 : Nat) : Int) b.f0.f0 b.f0.f1 b.f0.f2 b.f1.f0 b.f1.f1 b.f1.f2) R) :
    ∀ m i, xs.length = i + m → Ev (fun k => box_Gap.l2 k list z plane y row zs (zs.length : Int) (zi : Int) ys (ys.length : Int) (yi : Int) xs (xs.length : Int) (i : Int) b.f0.f0 b.f0.f1 b.f0.f2 b.f1.f0 b.f1.f1 b.f1.f2) (gX row y z R (xs.drop i)) := by
  intro m
  induction m with
  | zero =>
    intro i hi
    refine Ev.succ ?_
    simp only [box_Gap.l2]
    rw [List.drop_of_length_le (by omega), gX, stp hy]
    exact Ev.neg (by omega) hR
  | succ m ih =>
    intro i hi
    refine Ev.succ ?_
    simp only [box_Gap.l2]
    rw [drop_cons xs i 0 (by omega), gX, rdI, stp (by omega)]
    exact Ev.pos (by omega) (Ev.pos (by omega) (Ev.pos (by omega) (Ev.bind (at_ev 0 _ (by simp) row hr) (by
      by_cases h : (atL 0 (xs.getD i 0) row).length = 0
      · rw [if_pos h]; exact Ev.pos (by omega) (Ev.now _)
      · rw [if_neg h]; exact Ev.neg (by omega) (ih (i + 1) (by omega))))))
theorem gap_l1 (list plane : List S25) (b : S25) (z : Int) (zs ys : List Int) (zi : Nat) (R : G4) (hp : plane.length ≤ 1000) (hy : ys.length ≤ 100000) (hz : zi ≤ 1000000)
    (hR : Ev (fun k => box_Gap.l0 k list zs (zs.length : Int) ((zi + 1 : Nat) : Int) b.f0.f0 b.f0.f1 b.f0.f2 b.f1.f0 b.f1.f1 b.f1.f2) R) :
    ∀ m i, ys.length = i + m → Ev (fun k => box_Gap.l1 k list z plane zs (zs.length : Int) (zi : Int) ys (ys.length : Int) (i : Int) b.f0.f0 b.f0.f1 b.f0.f2 b.f1.f0 b.f1.f1 b.f1.f2) (gY plane b z R (ys.drop i)) := by
  intro m
  induction m with
  | zero =>
    intro i hi
    refine Ev.succ ?_
    simp only [box_Gap.l1]
    rw [List.drop_of_length_le (by omega), gY, stp hz]
    exact Ev.neg (by omega) hR
  | succ m ih =>
    intro i hi
    refine Ev.succ ?_
    simp only [box_Gap.l1]
    rw [drop_cons ys i 0 (by omega), gY, rdI]
    have ha := atL_len 1 (ys.getD i 0) plane
    have he := endsL_len 0 b.f0.f0 b.f1.f0 (atL 1 (ys.getD i 0) plane)
    exact Ev.pos (by omega) (Ev.pos (by omega) (Ev.pos (by omega) (Ev.bind (at_ev 1 _ (by simp) plane (by omega)) (Ev.bind (ends_ev 0 _ _ (by simp) _ (by omega)) (gap_l2 list plane _ b 0 _ z zs ys _ zi i _ (by omega) (by omega) (by omega) (ih (i + 1) (by omega)) _ 0 (Nat.zero_add _).symm)))))
theorem gap_l0 (list : List S25) (b : S25) (zs : List Int) (hl : list.length ≤ 1000) (hz : zs.length ≤ 100000) :
    ∀ m i, zs.length = i + m → Ev (fun k => box_Gap.l0 k list zs (zs.length : Int) (i : Int) b.f0.f0 b.f0.f1 b.f0.f2 b.f1.f0 b.f1.f1 b.f1.f2) (gZ list b (zs.drop i)) := by
  intro m
  induction m with
  | zero =>
    intro i hi
    refine Ev.succ ?_
    simp only [box_Gap.l0]
    rw [List.drop_of_length_le (by omega), gZ]
    exact Ev.neg (by omega) (Ev.now _)
  | succ m ih =>
    intro i hi
    refine Ev.succ ?_
    simp only [box_Gap.l0]
    rw [drop_cons zs i 0 (by omega), gZ, rdI]
    have ha := atL_len 2 (zs.getD i 0) list
    have he := endsL_len 1 b.f0.f1 b.f1.f1 (atL 2 (zs.getD i 0) list)
    exact Ev.pos (by omega) (Ev.pos (by omega) (Ev.pos (by omega) (Ev.bind (at_ev 2 _ (by simp) list (by omega)) (Ev.bind (ends_ev 1 _ _ (by simp) _ (by omega)) (gap_l1 list _ b _ zs _ i _ (by omega) (by omega) (by omega) (ih (i + 1) (by omega)) _ 0 (Nat.zero_add _).symm)))))
def gapS (b : S25) (l : List S25) : G4 := if manyS b l = 0 then gZ l b (endsL 2 b.f0.f2 b.f1.f2 l) else (0, 0, 0, manyS b l)
theorem many_256 {b : S25} {l : List S25} (h : manyS b l = 0) : l.length ≤ 256 ∧ V b ∧ ∀ c ∈ l, V c := by
  unfold manyS at h
  by_cases h1 : l.length > 256
  · rw [if_pos h1] at h; cases h
  · rw [if_neg h1] at h
    by_cases h2 : chk b = 0
    · rw [if_pos h2] at h
      exact ⟨by omega, (chk0 b).1 h2, (chkL_0 l).1 h⟩
    · rw [if_neg h2] at h; exact absurd h h2
theorem gap_ev (b : S25) (l : List S25) (hl : l.length ≤ 1000000) : Ev (fun k => box_Gap.f k b.f0.f0 b.f0.f1 b.f0.f2 b.f1.f0 b.f1.f1 b.f1.f2 l) (gapS b l) := by
  unfold box_Gap.f gapS
  refine Ev.bind (many_ev b l hl) (ifs (fun h => ?_) (fun h => Ev.now _))
  have h2 := (many_256 h).1
  have he := endsL_len 2 b.f0.f2 b.f1.f2 l
  exact Ev.bind (ends_ev 2 _ _ (by simp) _ (by omega)) (gap_l0 l b _ (by omega) (by omega) _ 0 (Nat.zero_add _).symm)
theorem descend (P : Int → Prop) (E : List Int) (lo hi : Int) (h0 : lo ∈ E) (hstep : ∀ n, lo < n → n < hi → P n → ¬ P (n - 1) → n ∈ E) : ∀ (d : Nat) (n : Int), n = lo + d → n < hi → P n → ∃ m ∈ E, m ≤ n ∧ lo ≤ m ∧ P m
  | 0, n, hd, hn, hp => ⟨lo, h0, by omega, by omega, by rw [show lo = n by omega]; exact hp⟩
  | d + 1, n, hd, hn, hp => by
    by_cases hq : P (n - 1)
    · obtain ⟨m, hm, h1, h2, h3⟩ := descend P E lo hi h0 hstep d (n - 1) (by omega) (by omega) hq
      exact ⟨m, hm, by omega, h2, h3⟩
    · exact ⟨n, hstep n (by omega) hn hp hq, by omega, by omega, hp⟩
def opn (list : List S25) (x y z : Int) : Prop := ∀ c ∈ list, ¬ hasB c x y z = true
theorem opn_iff (list : List S25) (x y z : Int) : opn list x y z ↔ anyB list x y z = false := by
  unfold opn anyB
  rw [List.any_eq_false]
theorem has_iff (c : S25) (x y z : Int) : hasB c x y z = true ↔ c.f0.f0 ≤ x ∧ x < c.f1.f0 ∧ c.f0.f1 ≤ y ∧ y < c.f1.f1 ∧ c.f0.f2 ≤ z ∧ z < c.f1.f2 := by simp [hasB]
theorem at_opn (list : List S25) (x y z : Int) : (atL 0 x (atL 1 y (atL 2 z list))).length = 0 ↔ opn list x y z := by
  rw [List.length_eq_zero_iff, List.eq_nil_iff_forall_not_mem]
  unfold opn
  constructor
  · intro h c hc hh
    rw [has_iff] at hh
    exact h c (atL_mem.2 ⟨atL_mem.2 ⟨atL_mem.2 ⟨hc, hh.2.2.2.2⟩, hh.2.2.1, hh.2.2.2.1⟩, hh.1, hh.2.1⟩)
  · intro h c hc
    obtain ⟨hc, h0⟩ := atL_mem.1 hc
    obtain ⟨hc, h1⟩ := atL_mem.1 hc
    obtain ⟨hc, h2⟩ := atL_mem.1 hc
    exact h c hc ((has_iff c x y z).2 ⟨h0.1, h0.2, h1.1, h1.2, h2.1, h2.2⟩)
theorem gX_spec (list : List S25) (y z : Int) (R : G4) : ∀ xs : List Int, xs.Pairwise (· < ·) →
    (gX (atL 1 y (atL 2 z list)) y z R xs = R ∧ ∀ x ∈ xs, ¬ opn list x y z) ∨ ∃ x ∈ xs, opn list x y z ∧ gX (atL 1 y (atL 2 z list)) y z R xs = (x, y, z, 0) ∧ ∀ x2 ∈ xs, opn list x2 y z → x ≤ x2
  | [], _ => .inl ⟨rfl, by simp⟩
  | x :: xs, hs => by
    rw [gX]
    obtain ⟨h1, h2⟩ := List.pairwise_cons.1 hs
    by_cases h : opn list x y z
    · rw [if_pos ((at_opn list x y z).2 h)]
      refine .inr ⟨x, by simp, h, rfl, fun x2 hx2 _ => ?_⟩
      rcases List.mem_cons.1 hx2 with rfl | hx2
      · exact Int.le_refl _
      · exact Int.le_of_lt (h1 x2 hx2)
    · rw [if_neg (fun e => h ((at_opn list x y z).1 e))]
      rcases gX_spec list y z R xs h2 with ⟨e, hn⟩ | ⟨x1, hx1, o1, e, hmin⟩
      · refine .inl ⟨e, fun x2 hx2 => ?_⟩
        rcases List.mem_cons.1 hx2 with rfl | hx2
        · exact h
        · exact hn x2 hx2
      · refine .inr ⟨x1, by simp [hx1], o1, e, fun x2 hx2 ho2 => ?_⟩
        rcases List.mem_cons.1 hx2 with rfl | hx2
        · exact absurd ho2 h
        · exact hmin x2 hx2 ho2
theorem X_down (list : List S25) (y z lo hi x : Int) (h1 : lo ≤ x) (h2 : x < hi) (ho : opn list x y z) : ∃ m ∈ endsL 0 lo hi (atL 1 y (atL 2 z list)), m ≤ x ∧ lo ≤ m ∧ opn list m y z := by
  refine descend (fun x => opn list x y z) _ lo hi (endsL_mem.2 (.inl rfl)) (fun n hn1 hn2 hp hq => ?_) (x - lo).toNat x (by omega) h2 ho
  unfold opn at hq
  obtain ⟨c, hc⟩ := Classical.not_forall.1 hq
  obtain ⟨hc, hh⟩ := Classical.not_imp.1 hc
  have hh := Classical.not_not.1 hh
  have hno := hp c hc
  rw [has_iff] at hh hno
  refine endsL_mem.2 (.inr ⟨c, atL_mem.2 ⟨atL_mem.2 ⟨hc, hh.2.2.2.2⟩, hh.2.2.1, hh.2.2.2.1⟩, ?_, hn1, hn2⟩)
  show c.f1.f0 = n
  omega
def oY (list : List S25) (b : S25) (y z : Int) : Prop := ∃ x, b.f0.f0 ≤ x ∧ x < b.f1.f0 ∧ opn list x y z
theorem X_found (list : List S25) (b : S25) (y z : Int) (R : G4) (hb : b.f0.f0 < b.f1.f0) :
    (gX (atL 1 y (atL 2 z list)) y z R (endsL 0 b.f0.f0 b.f1.f0 (atL 1 y (atL 2 z list))) = R ∧ ¬ oY list b y z) ∨ ∃ x, b.f0.f0 ≤ x ∧ x < b.f1.f0 ∧ opn list x y z ∧ gX (atL 1 y (atL 2 z list)) y z R (endsL 0 b.f0.f0 b.f1.f0 (atL 1 y (atL 2 z list))) = (x, y, z, 0) ∧ ∀ x2, b.f0.f0 ≤ x2 → x2 < b.f1.f0 → opn list x2 y z → x ≤ x2 := by
  rcases gX_spec list y z R _ (cmpL_inc _) with ⟨e, hn⟩ | ⟨x, hx, ho, e, hmin⟩
  · refine .inl ⟨e, ?_⟩
    rintro ⟨x, h1, h2, ho⟩
    obtain ⟨m, hm, _, _, hom⟩ := X_down list y z _ _ x h1 h2 ho
    exact hn m hm hom
  · refine .inr ⟨x, ?_, ?_, ho, e, fun x2 h1 h2 ho2 => ?_⟩
    · rcases endsL_mem.1 hx with rfl | ⟨_, _, _, h1, h2⟩ <;> omega
    · rcases endsL_mem.1 hx with rfl | ⟨_, _, _, h1, h2⟩ <;> omega
    · obtain ⟨m, hm, h3, _, hom⟩ := X_down list y z _ _ x2 h1 h2 ho2
      have := hmin m hm hom
      omega
theorem gY_spec (list : List S25) (b : S25) (z : Int) (R : G4) (hb : b.f0.f0 < b.f1.f0) : ∀ ys : List Int, ys.Pairwise (· < ·) →
    (gY (atL 2 z list) b z R ys = R ∧ ∀ y ∈ ys, ¬ oY list b y z) ∨ ∃ y ∈ ys, ∃ x, b.f0.f0 ≤ x ∧ x < b.f1.f0 ∧ opn list x y z ∧ gY (atL 2 z list) b z R ys = (x, y, z, 0) ∧ (∀ x2, b.f0.f0 ≤ x2 → x2 < b.f1.f0 → opn list x2 y z → x ≤ x2) ∧ ∀ y2 ∈ ys, oY list b y2 z → y ≤ y2
  | [], _ => .inl ⟨rfl, by simp⟩
  | y :: ys, hs => by
    rw [gY]
    obtain ⟨h1, h2⟩ := List.pairwise_cons.1 hs
    rcases X_found list b y z (gY (atL 2 z list) b z R ys) hb with ⟨e, hn⟩ | ⟨x, hx1, hx2, ho, e, hmin⟩
    · rw [e]
      rcases gY_spec list b z R hb ys h2 with ⟨e2, hn2⟩ | ⟨y1, hy1, x1, a1, a2, o1, e2, m1, m2⟩
      · refine .inl ⟨e2, fun y2 hy2 => ?_⟩
        rcases List.mem_cons.1 hy2 with rfl | hy2
        · exact hn
        · exact hn2 y2 hy2
      · refine .inr ⟨y1, by simp [hy1], x1, a1, a2, o1, e2, m1, fun y2 hy2 ho2 => ?_⟩
        rcases List.mem_cons.1 hy2 with rfl | hy2
        · exact absurd ho2 hn
        · exact m2 y2 hy2 ho2
    · refine .inr ⟨y, by simp, x, hx1, hx2, ho, e, hmin, fun y2 hy2 _ => ?_⟩
      rcases List.mem_cons.1 hy2 with rfl | hy2
      · exact Int.le_refl _
      · exact Int.le_of_lt (h1 y2 hy2)
theorem Y_down (list : List S25) (b : S25) (z lo hi y : Int) (h1 : lo ≤ y) (h2 : y < hi) (ho : oY list b y z) : ∃ m ∈ endsL 1 lo hi (atL 2 z list), m ≤ y ∧ lo ≤ m ∧ oY list b m z := by
  refine descend (fun y => oY list b y z) _ lo hi (endsL_mem.2 (.inl rfl)) (fun n hn1 hn2 hp hq => ?_) (y - lo).toNat y (by omega) h2 ho
  obtain ⟨x, hx1, hx2, hp⟩ := hp
  have hq2 : ¬ opn list x (n - 1) z := fun h => hq ⟨x, hx1, hx2, h⟩
  unfold opn at hq2
  obtain ⟨c, hc⟩ := Classical.not_forall.1 hq2
  obtain ⟨hc, hh⟩ := Classical.not_imp.1 hc
  have hh := Classical.not_not.1 hh
  have hno := hp c hc
  rw [has_iff] at hh hno
  refine endsL_mem.2 (.inr ⟨c, atL_mem.2 ⟨hc, hh.2.2.2.2⟩, ?_, hn1, hn2⟩)
  show c.f1.f1 = n
  omega
def oZ (list : List S25) (b : S25) (z : Int) : Prop := ∃ y, b.f0.f1 ≤ y ∧ y < b.f1.f1 ∧ oY list b y z
theorem Y_found (list : List S25) (b : S25) (z : Int) (R : G4) (hb : V b) :
    (gY (atL 2 z list) b z R (endsL 1 b.f0.f1 b.f1.f1 (atL 2 z list)) = R ∧ ¬ oZ list b z) ∨ ∃ y x, b.f0.f1 ≤ y ∧ y < b.f1.f1 ∧ b.f0.f0 ≤ x ∧ x < b.f1.f0 ∧ opn list x y z ∧ gY (atL 2 z list) b z R (endsL 1 b.f0.f1 b.f1.f1 (atL 2 z list)) = (x, y, z, 0) ∧ (∀ x2, b.f0.f0 ≤ x2 → x2 < b.f1.f0 → opn list x2 y z → x ≤ x2) ∧ ∀ y2, b.f0.f1 ≤ y2 → y2 < b.f1.f1 → oY list b y2 z → y ≤ y2 := by
  have l1 := hb.l1
  rcases gY_spec list b z R hb.l0 _ (cmpL_inc _) with ⟨e, hn⟩ | ⟨y, hy, x, a1, a2, ho, e, m1, m2⟩
  · refine .inl ⟨e, ?_⟩
    rintro ⟨y, h1, h2, ho⟩
    obtain ⟨m, hm, _, _, hom⟩ := Y_down list b z _ _ y h1 h2 ho
    exact hn m hm hom
  · refine .inr ⟨y, x, ?_, ?_, a1, a2, ho, e, m1, fun y2 h1 h2 ho2 => ?_⟩
    · rcases endsL_mem.1 hy with rfl | ⟨_, _, _, h1, h2⟩ <;> omega
    · rcases endsL_mem.1 hy with rfl | ⟨_, _, _, h1, h2⟩ <;> omega
    · obtain ⟨m, hm, h3, _, hom⟩ := Y_down list b z _ _ y2 h1 h2 ho2
      have := m2 m hm hom
      omega
theorem gZ_spec (list : List S25) (b : S25) (hb : V b) : ∀ zs : List Int, zs.Pairwise (· < ·) →
    (gZ list b zs = (0, 0, 0, 9) ∧ ∀ z ∈ zs, ¬ oZ list b z) ∨ ∃ z ∈ zs, ∃ y x, b.f0.f1 ≤ y ∧ y < b.f1.f1 ∧ b.f0.f0 ≤ x ∧ x < b.f1.f0 ∧ opn list x y z ∧ gZ list b zs = (x, y, z, 0) ∧ (∀ x2, b.f0.f0 ≤ x2 → x2 < b.f1.f0 → opn list x2 y z → x ≤ x2) ∧ (∀ y2, b.f0.f1 ≤ y2 → y2 < b.f1.f1 → oY list b y2 z → y ≤ y2) ∧ ∀ z2 ∈ zs, oZ list b z2 → z ≤ z2
  | [], _ => .inl ⟨rfl, by simp⟩
  | z :: zs, hs => by
    rw [gZ]
    obtain ⟨h1, h2⟩ := List.pairwise_cons.1 hs
    rcases Y_found list b z (gZ list b zs) hb with ⟨e, hn⟩ | ⟨y, x, a1, a2, a3, a4, ho, e, m1, m2⟩
    · rw [e]
      rcases gZ_spec list b hb zs h2 with ⟨e2, hn2⟩ | ⟨z1, hz1, y1, x1, b1, b2, b3, b4, o1, e2, m1, m2, m3⟩
      · refine .inl ⟨e2, fun z2 hz2 => ?_⟩
        rcases List.mem_cons.1 hz2 with rfl | hz2
        · exact hn
        · exact hn2 z2 hz2
      · refine .inr ⟨z1, by simp [hz1], y1, x1, b1, b2, b3, b4, o1, e2, m1, m2, fun z2 hz2 ho2 => ?_⟩
        rcases List.mem_cons.1 hz2 with rfl | hz2
        · exact absurd ho2 hn
        · exact m3 z2 hz2 ho2
    · refine .inr ⟨z, by simp, y, x, a1, a2, a3, a4, ho, e, m1, m2, fun z2 hz2 _ => ?_⟩
      rcases List.mem_cons.1 hz2 with rfl | hz2
      · exact Int.le_refl _
      · exact Int.le_of_lt (h1 z2 hz2)
theorem Z_down (list : List S25) (b : S25) (lo hi z : Int) (h1 : lo ≤ z) (h2 : z < hi) (ho : oZ list b z) : ∃ m ∈ endsL 2 lo hi list, m ≤ z ∧ lo ≤ m ∧ oZ list b m := by
  refine descend (fun z => oZ list b z) _ lo hi (endsL_mem.2 (.inl rfl)) (fun n hn1 hn2 hp hq => ?_) (z - lo).toNat z (by omega) h2 ho
  obtain ⟨y, hy1, hy2, x, hx1, hx2, hp⟩ := hp
  have hq2 : ¬ opn list x y (n - 1) := fun h => hq ⟨y, hy1, hy2, x, hx1, hx2, h⟩
  unfold opn at hq2
  obtain ⟨c, hc⟩ := Classical.not_forall.1 hq2
  obtain ⟨hc, hh⟩ := Classical.not_imp.1 hc
  have hh := Classical.not_not.1 hh
  have hno := hp c hc
  rw [has_iff] at hh hno
  refine endsL_mem.2 (.inr ⟨c, hc, ?_, hn1, hn2⟩)
  show c.f1.f2 = n
  omega
def le3 (x y z x2 y2 z2 : Int) : Prop := z < z2 ∨ z = z2 ∧ (y < y2 ∨ y = y2 ∧ x ≤ x2)
theorem gap_found (list : List S25) (b : S25) (hb : V b) :
    (gZ list b (endsL 2 b.f0.f2 b.f1.f2 list) = (0, 0, 0, 9) ∧ ∀ x y z, hasB b x y z = true → ¬ opn list x y z) ∨ ∃ x y z, hasB b x y z = true ∧ opn list x y z ∧ gZ list b (endsL 2 b.f0.f2 b.f1.f2 list) = (x, y, z, 0) ∧ ∀ x2 y2 z2, hasB b x2 y2 z2 = true → opn list x2 y2 z2 → le3 x y z x2 y2 z2 := by
  have l2 := hb.l2
  rcases gZ_spec list b hb _ (cmpL_inc _) with ⟨e, hn⟩ | ⟨z, hz, y, x, a1, a2, a3, a4, ho, e, m1, m2, m3⟩
  · refine .inl ⟨e, fun x y z hh ho => ?_⟩
    rw [has_iff] at hh
    obtain ⟨m, hm, _, _, hom⟩ := Z_down list b _ _ z hh.2.2.2.2.1 hh.2.2.2.2.2 ⟨y, hh.2.2.1, hh.2.2.2.1, x, hh.1, hh.2.1, ho⟩
    exact hn m hm hom
  · refine .inr ⟨x, y, z, (has_iff _ _ _ _).2 ⟨a3, a4, a1, a2, ?_, ?_⟩, ho, e, fun x2 y2 z2 hh ho2 => ?_⟩
    · rcases endsL_mem.1 hz with rfl | ⟨_, _, _, h1, h2⟩ <;> omega
    · rcases endsL_mem.1 hz with rfl | ⟨_, _, _, h1, h2⟩ <;> omega
    · rw [has_iff] at hh
      have hy : oY list b y2 z2 := ⟨x2, hh.1, hh.2.1, ho2⟩
      obtain ⟨m, hm, h3, _, hom⟩ := Z_down list b _ _ z2 hh.2.2.2.2.1 hh.2.2.2.2.2 ⟨y2, hh.2.2.1, hh.2.2.2.1, hy⟩
      have q1 := m3 m hm hom
      unfold le3
      by_cases e1 : z = z2
      · subst e1
        have q2 := m2 y2 hh.2.2.1 hh.2.2.2.1 hy
        by_cases e2 : y = y2
        · subst e2
          have q3 := m1 x2 hh.1 hh.2.1 ho2
          omega
        · omega
      · omega
end
section
open Go.RowKit Go.Proofs.Ytmmdikhmlmoolaa.QA Go.Proofs.YtmmdikhmlmoolaaW.PrintWords Go.Proofs.Ytmmdikhmlmoolaa.EvKit
set_option linter.unusedVariables false
set_option linter.unusedSimpArgs false
theorem pigeon {α : Type} [DecidableEq α] : ∀ (l m : List α), l.Nodup → (∀ a ∈ l, a ∈ m) → l.length ≤ m.length
  | [], _, _, _ => Nat.zero_le _
  | a :: l, m, hn, hs => by
    obtain ⟨h1, h2⟩ := List.nodup_cons.1 hn
    have ha := hs a (by simp)
    have := pigeon l (m.erase a) h2 (fun b hb => (List.mem_erase_of_ne (fun e => h1 (by rw [← e]; exact hb))).2 (hs b (by simp [hb])))
    rw [List.length_erase_of_mem ha] at this
    have := List.length_pos_of_mem ha
    rw [List.length_cons]; omega
abbrev P3 := Int × Int × Int
def crn (c : S25) : P3 := (c.f0.f0, c.f0.f1, c.f0.f2)
def prod (X Y Z : List Int) : List P3 := X.flatMap fun x => Y.flatMap fun y => Z.map fun z => (x, y, z)
theorem prod_mem {X Y Z : List Int} {x y z : Int} (hx : x ∈ X) (hy : y ∈ Y) (hz : z ∈ Z) : (x, y, z) ∈ prod X Y Z :=
  List.mem_flatMap.2 ⟨x, hx, List.mem_flatMap.2 ⟨y, hy, List.mem_map.2 ⟨z, hz, rfl⟩⟩⟩
theorem flat_const {α β : Type} (f : α → List β) (n : Nat) : ∀ l : List α, (∀ a ∈ l, (f a).length = n) → (l.flatMap f).length = l.length * n
  | [], _ => by simp
  | a :: l, h => by
    rw [List.flatMap_cons, List.length_append, h a (by simp), flat_const f n l (fun b hb => h b (by simp [hb])), List.length_cons, Nat.succ_mul]; omega
theorem prod_len (X Y Z : List Int) : (prod X Y Z).length = X.length * (Y.length * Z.length) := by
  unfold prod
  rw [flat_const _ (Y.length * Z.length)]
  intro x _
  rw [flat_const _ Z.length]
  intro y _
  rw [List.length_map]
theorem crn_nodup : ∀ (l : List S25), (∀ b ∈ l, V b) → (∀ x y z, cn l x y z ≤ 1) → (l.map crn).Nodup
  | [], _, _ => List.nodup_nil
  | a :: l, hV, h => by
    rw [List.map_cons, List.nodup_cons]
    refine ⟨fun hm => ?_, crn_nodup l (fun b hb => hV b (by simp [hb])) (fun x y z => ?_)⟩
    · obtain ⟨c, hc, e⟩ := List.mem_map.1 hm
      have h1 := h c.f0.f0 c.f0.f1 c.f0.f2
      have h2 := corner_has c (hV c (by simp [hc]))
      have h3 := corner_has a (hV a (by simp))
      simp only [crn, Prod.mk.injEq] at e
      rw [← e.1, ← e.2.1, ← e.2.2] at h3
      rw [cn, h3] at h1
      have h4 := cn_one l c _ _ _ hc h2
      have : ind true = 1 := rfl
      omega
    · have := h x y z
      rw [cn] at this
      have := ind_nonneg (hasB a x y z)
      omega
theorem sub_lo (x y : S25) (hx : V x) : ∀ z ∈ sub x y, (z.f0.f0 = x.f0.f0 ∨ z.f0.f0 = y.f0.f0 ∨ z.f0.f0 = y.f1.f0) ∧ (z.f0.f1 = x.f0.f1 ∨ z.f0.f1 = y.f0.f1 ∨ z.f0.f1 = y.f1.f1) ∧ (z.f0.f2 = x.f0.f2 ∨ z.f0.f2 = y.f0.f2 ∨ z.f0.f2 = y.f1.f2) := by
  intro z hz
  unfold sub at hz
  by_cases ho : ovB x y = true
  · rw [if_pos ho] at hz
    have a0 := mx_or x.f0.f0 y.f0.f0
    have a1 := mx_or x.f0.f1 y.f0.f1
    have a2 := mx_or x.f0.f2 y.f0.f2
    have b0 : mn x.f1.f0 y.f1.f0 = x.f1.f0 ∨ mn x.f1.f0 y.f1.f0 = y.f1.f0 := by unfold mn; split <;> simp
    have b1 : mn x.f1.f1 y.f1.f1 = x.f1.f1 ∨ mn x.f1.f1 y.f1.f1 = y.f1.f1 := by unfold mn; split <;> simp
    have b2 : mn x.f1.f2 y.f1.f2 = x.f1.f2 ∨ mn x.f1.f2 y.f1.f2 = y.f1.f2 := by unfold mn; split <;> simp
    simp only [subt, List.mem_append, List.not_mem_nil, false_or, pt_mem] at hz
    rcases hz with ((((⟨hl, rfl⟩ | ⟨hl, rfl⟩) | ⟨hl, rfl⟩) | ⟨hl, rfl⟩) | ⟨hl, rfl⟩) | ⟨hl, rfl⟩ <;> simp only [nb_0, nb_1, nb_2] <;> refine ⟨?_, ?_, ?_⟩ <;> first | exact .inl trivial | exact .inl rfl | omega
  · rw [if_neg ho] at hz
    obtain rfl : z = x := by simpa using hz
    exact ⟨.inl rfl, .inl rfl, .inl rfl⟩
theorem cube_le {k m : Nat} (h : k ≤ m) : k * (k * k) ≤ m * (m * m) := Nat.mul_le_mul h (Nat.mul_le_mul h h)
theorem rest_few : ∀ (l out : List S25) (X Y Z : List Int) (k : Nat), (∀ b ∈ l, V b) → (∀ b ∈ out, V b) → (∀ x y z, cn out x y z ≤ 1) → (∀ b ∈ out, b.f0.f0 ∈ X ∧ b.f0.f1 ∈ Y ∧ b.f0.f2 ∈ Z) → X.length = k → Y.length = k → Z.length = k →
    (k + 2 * l.length) * ((k + 2 * l.length) * (k + 2 * l.length)) ≤ 4096 → (restL l out).2 = 0
  | [], out, _, _, _, _, _, _, _, _, _, _, _, _ => rfl
  | c :: l, out, X, Y, Z, k, hl, ho, h1, hc, hX, hY, hZ, hk => by
    have fV := flat_V out c (hl c (by simp)) ho
    have f1 : ∀ x y z, cn (out.flatMap (fun z => sub z c)) x y z ≤ 1 := fun x y z => by
      rw [cn_flat]
      split
      · omega
      · exact h1 x y z
    have fC : ∀ b ∈ out.flatMap (fun z => sub z c), b.f0.f0 ∈ c.f0.f0 :: c.f1.f0 :: X ∧ b.f0.f1 ∈ c.f0.f1 :: c.f1.f1 :: Y ∧ b.f0.f2 ∈ c.f0.f2 :: c.f1.f2 :: Z := fun b hb => by
      obtain ⟨d, hd, hb⟩ := List.mem_flatMap.1 hb
      obtain ⟨e0, e1, e2⟩ := sub_lo d c (ho d hd) b hb
      obtain ⟨g0, g1, g2⟩ := hc d hd
      simp only [List.mem_cons]
      refine ⟨?_, ?_, ?_⟩
      · rcases e0 with e | e | e <;> rw [e] <;> simp [g0]
      · rcases e1 with e | e | e <;> rw [e] <;> simp [g1]
      · rcases e2 with e | e | e <;> rw [e] <;> simp [g2]
    have hlen : (out.flatMap (fun z => sub z c)).length ≤ 4096 := by
      have h2 := pigeon _ (prod (c.f0.f0 :: c.f1.f0 :: X) (c.f0.f1 :: c.f1.f1 :: Y) (c.f0.f2 :: c.f1.f2 :: Z)) (crn_nodup _ fV f1) (fun a ha => by
        obtain ⟨b, hb, rfl⟩ := List.mem_map.1 ha
        obtain ⟨g0, g1, g2⟩ := fC b hb
        exact prod_mem g0 g1 g2)
      rw [List.length_map, prod_len] at h2
      simp only [List.length_cons, hX, hY, hZ] at h2
      have h3 : (k + 1 + 1) * ((k + 1 + 1) * (k + 1 + 1)) ≤ (k + 2 * (c :: l).length) * ((k + 2 * (c :: l).length) * (k + 2 * (c :: l).length)) := cube_le (by rw [List.length_cons]; omega)
      omega
    rw [restL, if_neg (by omega)]
    refine rest_few l _ (c.f0.f0 :: c.f1.f0 :: X) (c.f0.f1 :: c.f1.f1 :: Y) (c.f0.f2 :: c.f1.f2 :: Z) (k + 2) (fun b hb => hl b (by simp [hb])) fV f1 fC (by simp [hX]) (by simp [hY]) (by simp [hZ]) ?_
    rw [show k + 2 + 2 * l.length = k + 2 * (c :: l).length by rw [List.length_cons]; omega]
    exact hk
theorem rest_7 (b : S25) (l : List S25) (hb : V b) (hl : ∀ c ∈ l, V c) (h : l.length ≤ 7) : (restL l [b]).2 = 0 := by
  refine rest_few l [b] [b.f0.f0] [b.f0.f1] [b.f0.f2] 1 hl (by simpa using hb) (fun x y z => ?_) (by simp) rfl rfl rfl ?_
  · simp only [cn]; have := ind_le (hasB b x y z); omega
  · have := cube_le (show 1 + 2 * l.length ≤ 15 by omega)
    omega
end
section
open Go.RowKit Go.Proofs.Ytmmdikhmlmoolaa.QA Go.Proofs.YtmmdikhmlmoolaaW.PrintWords Go.Proofs.Ytmmdikhmlmoolaa.EvKit
set_option linter.unusedVariables false
set_option linter.unusedSimpArgs false
def rpairR : Option (Nat × Nat) → Int × Int × Bool
  | none => (0, 0, false)
  | some (i, j) => ((i : Int), (j : Int), true)
theorem rclash_l1 (l : List S25) (i : Nat) (R : Int × Int × Bool) (hl : l.length ≤ 1000000) (hi : i < l.length) (hR : Ev (fun k => r_Clash.l0 k l ((i + 1 : Nat) : Int)) R) :
    ∀ m j, l.length = j + m → Ev (fun k => r_Clash.l1 k l (i : Int) (j : Int)) (match firstO (l.getD i z25) j (l.drop j) with | some q => ((i : Int), (q : Int), true) | none => R) := by
  intro m
  induction m with
  | zero =>
    intro j hj
    refine Ev.succ ?_
    simp only [r_Clash.l1]
    rw [List.drop_of_length_le (by omega), stp (i := i) (by omega)]
    exact Ev.neg (by omega) hR
  | succ m ih =>
    intro j hj
    refine Ev.succ ?_
    simp only [r_Clash.l1]
    rw [drop_cons l j z25 (by omega), firstO, rdN, rdN, stp (i := j) (by omega)]
    refine Ev.pos (by omega) (Ev.pos (by omega) (Ev.pos (by omega) (Ev.pos (by omega) (Ev.bind (roverlap_ev _ _) ?_))))
    by_cases h : ovB (l.getD i z25) (l.getD j z25) = true
    · rw [if_pos h]; exact Ev.pos h (Ev.now _)
    · rw [if_neg h]; exact Ev.neg h (ih (j + 1) (by omega))
theorem rclash_l0 (l : List S25) (hl : l.length ≤ 1000000) : ∀ m i, l.length = i + m → Ev (fun k => r_Clash.l0 k l (i : Int)) (rpairR (pairO i (l.drop i))) := by
  intro m
  induction m with
  | zero =>
    intro i hi
    refine Ev.succ ?_
    simp only [r_Clash.l0]
    rw [List.drop_of_length_le (by omega)]
    exact Ev.neg (by omega) (Ev.now _)
  | succ m ih =>
    intro i hi
    refine Ev.succ ?_
    simp only [r_Clash.l0]
    rw [drop_cons l i z25 (by omega), pairO, stp (i := i) (by omega)]
    refine Ev.pos (by omega) ?_
    have h := rclash_l1 l i _ hl (by omega) (ih (i + 1) (by omega)) m (i + 1) (by omega)
    cases hf : firstO (l.getD i z25) (i + 1) (l.drop (i + 1)) with
    | none => rw [hf] at h; exact h
    | some q => rw [hf] at h; exact h
theorem rclash_ev (l : List S25) (hl : l.length ≤ 1000000) : Ev (fun k => r_Clash.f k l) (rpairR (pairO 0 l)) := rclash_l0 l hl l.length 0 (by omega)
theorem firstO_some (a : S25) : ∀ (l : List S25) (j : Nat), firstO a j l = none → ∀ c ∈ l, ¬ ovB a c = true
  | c :: l, j, h, d, hd => by
    rw [firstO] at h
    by_cases ho : ovB a c = true
    · rw [if_pos ho] at h; cases h
    · rw [if_neg ho] at h
      rcases List.mem_cons.1 hd with rfl | hd
      · exact ho
      · exact firstO_some a l (j + 1) h d hd
theorem once : ∀ (l : List S25) (i : Nat), pairO i l = none → ∀ x y z, cn l x y z ≤ 1
  | [], _, _, _, _, _ => by simp [cn]
  | a :: l, i, h, x, y, z => by
    rw [pairO] at h
    cases hf : firstO a (i + 1) l with
    | some j => rw [hf] at h; cases h
    | none =>
      rw [hf] at h
      have h1 := once l (i + 1) h x y z
      rw [cn]
      cases ha : hasB a x y z with
      | false => have : ind false = 0 := rfl; omega
      | true =>
        have h2 : ¬ anyB l x y z = true := fun hh => by
          obtain ⟨c, hc, hx⟩ := List.any_eq_true.1 hh
          exact firstO_some a l _ hf c hc (ov_has a c x y z ha hx)
        rw [cn_pos] at h2
        have := cn_nonneg l x y z
        have : ind true = 1 := rfl
        omega
def parS (b : S25) (l : List S25) : Int := if l.all (fun c => insB c b) = true then (match pairO 0 l with | some _ => 11 | none => if volL l < volS b then 9 else 0) else 12
theorem ins_has (c b : S25) (x y z : Int) (hi : insB c b = true) (h : hasB c x y z = true) : hasB b x y z = true := by
  unfold insB at hi
  simp only [Bool.and_eq_true, decide_eq_true_eq] at hi
  unfold hasB at h ⊢
  rw [decide_eq_true_eq] at h ⊢
  omega
theorem par_le (b : S25) (l : List S25) (hb : V b) (hV : ∀ c ∈ l, V c) (hi : l.all (fun c => insB c b) = true) (hp : pairO 0 l = none) : volL l ≤ volS b := by
  rw [← S3_cn l hV, ← S3_has b hb]
  refine S3_mono fun x y z => ?_
  have h1 := once l 0 hp x y z
  have h2 := cn_nonneg l x y z
  by_cases h : anyB l x y z = true
  · obtain ⟨c, hc, hx⟩ := List.any_eq_true.1 h
    rw [ins_has c b x y z (List.all_eq_true.1 hi c hc) hx]
    have : ind true = 1 := rfl
    omega
  · rw [cn_pos] at h
    have := ind_nonneg (hasB b x y z)
    omega
theorem volL_0 : ∀ l : List S25, (∀ b ∈ l, V b) → 0 ≤ volL l
  | [], _ => Int.le_refl _
  | b :: l, h => by
    have h1 := (volume_is b (h b (by simp))).2.1
    have h2 := volL_0 l (fun c hc => h c (by simp [hc]))
    rw [volL]; omega
theorem par_l1 (l : List S25) (hl : l.length ≤ 1000000) (hV : ∀ c ∈ l, V c) (v : Int) (hv : 0 ≤ v) (hv2 : v ≤ 8000000000000000000) : ∀ m i (n : Int), l.length = i + m → volL (l.drop i) ≤ n → n ≤ v → Ev (fun k => box_Partition.l1 k n l (l.length : Int) (i : Int)) (if volL (l.drop i) < n then 9 else 0) := by
  intro m
  induction m with
  | zero =>
    intro i n hi h0 hn
    refine Ev.succ ?_
    simp only [box_Partition.l1]
    rw [List.drop_of_length_le (by omega), volL] at h0 ⊢
    refine Ev.neg (by omega) ?_
    exact ifs (fun _ => Ev.now _) (fun _ => Ev.now _)
  | succ m ih =>
    intro i n hi h0 hn
    refine Ev.succ ?_
    simp only [box_Partition.l1]
    rw [drop_cons l i z25 (by omega), volL] at h0 ⊢
    rw [rdN, stp (i := i) (by omega)]
    have hvv := volume_is _ (hV _ (getD_mem (l := l) (i := i) (by omega)))
    have hr := volL_0 (l.drop (i + 1)) (fun c hc => hV c (List.mem_of_mem_drop hc))
    refine Ev.pos (by omega) (Ev.pos (by omega) (Ev.pos (by omega) (Ev.cbind hvv.1 ?_)))
    rw [w64 (n := n - volS (l.getD i z25)) (by omega) (by omega)]
    have := ih (i + 1) (n - volS (l.getD i z25)) (by omega) (by omega) (by omega)
    refine Ev.eq this ?_
    by_cases h : volL (l.drop (i + 1)) < n - volS (l.getD i z25)
    · rw [if_pos h, if_pos (by omega)]
    · rw [if_neg h, if_neg (by omega)]
theorem par_l0 (b : S25) (l : List S25) (hb : V b) (hl : l.length ≤ 1000000) (hV : ∀ c ∈ l, V c) : ∀ m i, l.length = i + m → (l.take i).all (fun c => insB c b) = true → Ev (fun k => box_Partition.l0 k l (volS b) l (l.length : Int) (i : Int) b.f0.f0 b.f0.f1 b.f0.f2 b.f1.f0 b.f1.f1 b.f1.f2) (parS b l) := by
  intro m
  induction m with
  | zero =>
    intro i hi ht
    rw [List.take_of_length_le (by omega)] at ht
    refine Ev.succ ?_
    simp only [box_Partition.l0]
    unfold parS
    rw [if_pos ht]
    refine Ev.neg (by omega) (Ev.bind (clash_ev l hl) ?_)
    cases hp : pairO 0 l with
    | some p => exact Ev.pos (by simp [pairR]) (Ev.now _)
    | none =>
      have hle := par_le b l hb hV ht hp
      have hv := (volume_is b hb).2
      have := par_l1 l hl hV (volS b) (by omega) hv.2 l.length 0 (volS b) (by omega) (by rw [List.drop_zero]; exact hle) (Int.le_refl _)
      rw [List.drop_zero] at this
      exact Ev.neg (by simp [pairR]) this
  | succ m ih =>
    intro i hi ht
    have htake : l.take (i + 1) = l.take i ++ [l.getD i z25] := by
      rw [List.take_add_one, List.getElem?_eq_getElem (by omega), List.getD_eq_getElem?_getD, List.getElem?_eq_getElem (by omega)]
      rfl
    refine Ev.succ ?_
    simp only [box_Partition.l0]
    rw [rdN, stp (i := i) (by omega)]
    have hI : ∀ c d : S25, box_Inside.f c.f0.f0 c.f0.f1 c.f0.f2 c.f1.f0 c.f1.f1 c.f1.f2 d.f0.f0 d.f0.f1 d.f0.f2 d.f1.f0 d.f1.f1 d.f1.f2 = some (insB c d) := fun c d => rfl
    refine Ev.pos (by omega) (Ev.pos (by omega) (Ev.pos (by omega) (Ev.cbind (hI _ _) ?_)))
    by_cases h : insB (l.getD i z25) b = true
    · exact Ev.pos h (ih (i + 1) (by omega) (by rw [htake, List.all_append, ht]; simp only [List.all_cons, List.all_nil, h]; rfl))
    · refine Ev.neg h (Ev.eq (Ev.now _) ?_)
      unfold parS
      rw [if_neg]
      intro hh
      exact h (List.all_eq_true.1 hh _ (getD_mem (by omega)))
theorem par_ev (b : S25) (l : List S25) (hl : l.length ≤ 1000000) : Ev (fun k => box_Partition.f k b.f0.f0 b.f0.f1 b.f0.f2 b.f1.f0 b.f1.f1 b.f1.f2 l) (if manyS b l = 0 then parS b l else manyS b l) := by
  unfold box_Partition.f
  refine Ev.bind (many_ev b l hl) (ifs (fun h => ?_) (fun h => Ev.now _))
  obtain ⟨_, hb, hV⟩ := many_256 h
  exact Ev.cbind (volume_is b hb).1 (par_l0 b l hb hl hV l.length 0 (by omega) (by simp))
theorem rvol_is (x : S25) (hv : V x) : r_Volume.f x.f0.f0 x.f0.f1 x.f0.f2 x.f1.f0 x.f1.f1 x.f1.f2 = some (volS x) := (volume_is x hv).1
theorem rpar_l1 (b : S25) (hb : V b) (l : List S25) (hl : l.length ≤ 1000000) (hV : ∀ c ∈ l, V c) (hle : volL l ≤ volS b) : ∀ m i (n : Int), l.length = i + m → 0 ≤ n → n + volL (l.drop i) = volL l → Ev (fun k => r_Partition.l1 k l n (i : Int) b.f0.f0 b.f0.f1 b.f0.f2 b.f1.f0 b.f1.f1 b.f1.f2) (if volL l < volS b then 9 else 0) := by
  have hvb := (volume_is b hb).2
  intro m
  induction m with
  | zero =>
    intro i n hi h0 hn
    refine Ev.succ ?_
    simp only [r_Partition.l1]
    rw [List.drop_of_length_le (by omega), volL, Int.add_zero] at hn
    refine Ev.neg (by omega) (Ev.cbind (rvol_is b hb) ?_)
    have e : (if volL l < volS b then (9 : Int) else 0) = if n = volS b then 0 else 9 := by split <;> split <;> omega
    rw [e]
    exact ifs (fun _ => Ev.now _) (fun _ => Ev.now _)
  | succ m ih =>
    intro i n hi h0 hn
    refine Ev.succ ?_
    simp only [r_Partition.l1]
    rw [drop_cons l i z25 (by omega), volL] at hn
    rw [rdN, stp (i := i) (by omega)]
    have hv := hV _ (getD_mem (l := l) (i := i) (by omega))
    have h1 := (volume_is _ hv).2
    have hr := volL_0 (l.drop (i + 1)) (fun c hc => hV c (List.mem_of_mem_drop hc))
    refine Ev.pos (by omega) (Ev.pos (by omega) (Ev.cbind (rvol_is _ hv) ?_))
    rw [w64 (n := n + volS (l.getD i z25)) (by omega) (by omega)]
    exact ih (i + 1) _ (by omega) (by omega) (by omega)
theorem rpar_l0 (b : S25) (l : List S25) (hb : V b) (hl : l.length ≤ 1000000) (hV : ∀ c ∈ l, V c) : ∀ m i, l.length = i + m → (l.take i).all (fun c => insB c b) = true → Ev (fun k => r_Partition.l0 k l (i : Int) b.f0.f0 b.f0.f1 b.f0.f2 b.f1.f0 b.f1.f1 b.f1.f2) (parS b l) := by
  intro m
  induction m with
  | zero =>
    intro i hi ht
    rw [List.take_of_length_le (by omega)] at ht
    refine Ev.succ ?_
    simp only [r_Partition.l0]
    unfold parS
    rw [if_pos ht]
    refine Ev.neg (by omega) (Ev.bind (rclash_ev l hl) ?_)
    cases hp : pairO 0 l with
    | some p => exact Ev.pos rfl (Ev.now _)
    | none => exact Ev.neg (by simp [rpairR]) (rpar_l1 b hb l hl hV (par_le b l hb hV ht hp) l.length 0 0 (by omega) (by omega) (by rw [List.drop_zero]; omega))
  | succ m ih =>
    intro i hi ht
    have htake : l.take (i + 1) = l.take i ++ [l.getD i z25] := by
      rw [List.take_add_one, List.getElem?_eq_getElem (by omega), List.getD_eq_getElem?_getD, List.getElem?_eq_getElem (by omega)]
      rfl
    refine Ev.succ ?_
    simp only [r_Partition.l0]
    rw [rdN, stp (i := i) (by omega)]
    refine Ev.pos (by omega) (Ev.pos (by omega) (Ev.bind (rinside_ev _ b) ?_))
    by_cases h : insB (l.getD i z25) b = true
    · exact Ev.pos h (ih (i + 1) (by omega) (by rw [htake, List.all_append, ht]; simp only [List.all_cons, List.all_nil, h]; rfl))
    · refine Ev.neg h (Ev.eq (Ev.now _) ?_)
      unfold parS
      rw [if_neg]
      intro hh
      exact h (List.all_eq_true.1 hh _ (getD_mem (by omega)))
theorem rpar_ev (b : S25) (l : List S25) (hb : V b) (hl : l.length ≤ 1000000) (hV : ∀ c ∈ l, V c) : Ev (fun k => r_Partition.f k b.f0.f0 b.f0.f1 b.f0.f2 b.f1.f0 b.f1.f1 b.f1.f2 l) (parS b l) := by
  unfold r_Partition.f
  exact rpar_l0 b l hb hl hV l.length 0 (by omega) (by simp)
theorem any_app (l m : List S25) (x y z : Int) : anyB (l ++ m) x y z = (anyB l x y z || anyB m x y z) := List.any_append
theorem uni_step (l : List S25) (b : S25) (hb : V b) (hV : ∀ c ∈ l, V c) (h : (restL l [b]).2 = 0) : uni l + volL (restL l [b]).1 = uni (l ++ [b]) := by
  rw [← S3_cn _ (restL_V l [b] hV (by simpa using hb))]
  unfold uni
  rw [← S3_add]
  refine S3_congr fun x y z => ?_
  rw [cn_rest l [b] x y z h, any_app]
  have e : anyB [b] x y z = hasB b x y z := by simp [anyB]
  rw [e]
  cases anyB l x y z <;> cases h2 : hasB b x y z <;> simp [cn, h2, ind]
theorem uni_nil : uni [] = 0 := by
  unfold uni
  rw [← S3_zero]
  exact S3_congr fun x y z => rfl
theorem rtot_l1 (l : List S25) (i : Nat) (ps : List S25) (N : Int) (R : Int) (hi : i ≤ 100) (hV : ∀ c ∈ ps, V c) (hpl : ps.length ≤ 4096) (hN : N ≤ 8000000000000000000) (hR : Ev (fun k => r_Total.l0 k l N ((i + 1 : Nat) : Int)) R) :
    ∀ m j (n : Int), ps.length = j + m → 0 ≤ n → n + volL (ps.drop j) = N → Ev (fun k => r_Total.l1 k l n (i : Int) ps (j : Int)) R := by
  intro m
  induction m with
  | zero =>
    intro j n hj h0 hn
    refine Ev.succ ?_
    simp only [r_Total.l1]
    rw [List.drop_of_length_le (by omega), volL, Int.add_zero] at hn
    subst hn
    rw [stp (i := i) (by omega)]
    exact Ev.neg (by omega) hR
  | succ m ih =>
    intro j n hj h0 hn
    refine Ev.succ ?_
    simp only [r_Total.l1]
    rw [drop_cons ps j z25 (by omega), volL] at hn
    rw [rdN, stp (i := j) (by omega)]
    have hv := hV _ (getD_mem (l := ps) (i := j) (by omega))
    have h1 := (volume_is _ hv).2
    have hr := volL_0 (ps.drop (j + 1)) (fun c hc => hV c (List.mem_of_mem_drop hc))
    refine Ev.pos (by omega) (Ev.pos (by omega) (Ev.cbind (rvol_is _ hv) ?_))
    rw [w64 (n := n + volS (ps.getD j z25)) (by omega) (by omega)]
    exact ih (j + 1) _ (by omega) (by omega) (by omega)
theorem rtot_l0 (l : List S25) (hl : l.length ≤ 7) (hV : ∀ c ∈ l, V c) : ∀ m i (n : Int), l.length = i + m → n = uni (l.take i) → Ev (fun k => r_Total.l0 k l n (i : Int)) (uni l) := by
  intro m
  induction m with
  | zero =>
    intro i n hi hn
    rw [List.take_of_length_le (by omega)] at hn
    rw [hn]
    refine Ev.succ ?_
    simp only [r_Total.l0]
    exact Ev.neg (by omega) (Ev.now _)
  | succ m ih =>
    intro i n hi hn
    have htake : l.take (i + 1) = l.take i ++ [l.getD i z25] := by
      rw [List.take_add_one, List.getElem?_eq_getElem (by omega), List.getD_eq_getElem?_getD, List.getElem?_eq_getElem (by omega)]
      rfl
    refine Ev.succ ?_
    simp only [r_Total.l0]
    rw [rdN, Int.toNat_natCast]
    have hv := hV _ (getD_mem (l := l) (i := i) (by omega))
    have hVt : ∀ c ∈ l.take i, V c := fun c hc => hV c (List.mem_of_mem_take hc)
    have hlt : (l.take i).length ≤ 7 := by have := List.length_take_le i l; omega
    have h0 := rest_7 (l.getD i z25) (l.take i) hv hVt hlt
    have hs := uni_step (l.take i) (l.getD i z25) hv hVt h0
    have hlen := restL_len (l.take i) [l.getD i z25] (by simp)
    refine Ev.pos (by omega) (Ev.pos (by omega) (Ev.pos (by omega) (Ev.bind (rrest_ev _ (l.take i) (by omega) hv hVt) ?_)))
    rw [← htake] at hs
    have hi2 := ih (i + 1) (uni (l.take (i + 1))) (by omega) rfl
    have key := rtot_l1 l i (restL (l.take i) [l.getD i z25]).1 (uni (l.take (i + 1))) (uni l) (by omega) (restL_V _ _ hVt (by simpa using hv)) hlen (uni_le _) hi2 (restL (l.take i) [l.getD i z25]).1.length 0 n (Nat.zero_add _).symm
    exact key (by rw [hn]; exact uni_nonneg _) (by rw [List.drop_zero, hn]; exact hs)
theorem rtot_ev (l : List S25) (hl : l.length ≤ 7) (hV : ∀ c ∈ l, V c) : Ev (fun k => r_Total.f k l) (uni l) := by
  unfold r_Total.f
  exact rtot_l0 l hl hV l.length 0 0 (by omega) (by rw [List.take_zero, uni_nil])
end
end Go.Proofs.Ytmmdikhmlmoolaa.Bx
