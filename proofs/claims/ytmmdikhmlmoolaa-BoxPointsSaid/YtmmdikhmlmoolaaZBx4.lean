/-
  Chapter 06: lists of boxes: Check of all, Intersect, Subtract.
-/
import Derived.Test.YtmmdikhmlmoolaaZBx3
import Derived.Test.YtmmdikhmlmoolaaZQAx4
import Derived.Test.YtmmdikhmlmoolaaZQAx3
import Derived.Test.YtmmdikhmlmoolaaZQAx6
import Derived.Test.YtmmdikhmlmoolaaZQAx5
namespace Go.Proofs.Ytmmdikhmlmoolaa.Bx
open Go.RowKit Go.Proofs.Ytmmdikhmlmoolaa.QA Go.Proofs.YtmmdikhmlmoolaaW.PrintWords Go.Proofs.YtmmdikhmlmoolaaW.PrintLast Go.Proofs.YtmmdikhmlmoolaaW.PrintMore Go.Proofs.Ytmmdikhmlmoolaa.EvKit
set_option linter.unusedVariables false
set_option linter.unusedSimpArgs false
theorem ifs {α : Type} {f g : Nat → Option α} {r s : α} {c : Prop} [Decidable c] (h1 : c → Ev f r) (h2 : ¬ c → Ev g s) : Ev (fun k => if c then f k else g k) (if c then r else s) := by
  by_cases hc : c
  · rw [if_pos hc]; exact Ev.pos hc (h1 hc)
  · rw [if_neg hc]; exact Ev.neg hc (h2 hc)
theorem stp {i : Nat} (h : i ≤ 1000000) : wrap64 ((i : Int) + 1) = ((i + 1 : Nat) : Int) := by rw [w64 (by omega) (by omega)]; omega
theorem rdN (l : List S25) (i : Nat) : rd_T25 l (i : Int) = l.getD i z25 := by simp [rd_T25]
def chkL : List S25 → Int
  | [] => 0
  | x :: l => if chk x = 0 then chkL l else chk x
theorem chkL_0 : ∀ l : List S25, chkL l = 0 ↔ ∀ x ∈ l, V x
  | [] => by simp [chkL]
  | x :: l => by
    rw [chkL]
    by_cases h : chk x = 0
    · rw [if_pos h, chkL_0 l]
      have := (chk0 x).1 h
      simp [this]
    · rw [if_neg h]
      constructor
      · intro h2; exact absurd h2 h
      · intro h2; exact absurd ((chk0 x).2 (h2 x (by simp))) h
theorem chkL_cases : ∀ l : List S25, chkL l = 0 ∨ chkL l = 1 ∨ chkL l = 6
  | [] => Or.inl rfl
  | x :: l => by
    rw [chkL]
    by_cases h : chk x = 0
    · rw [if_pos h]; exact chkL_cases l
    · rw [if_neg h]; exact chk_cases x
theorem all_l0 (l : List S25) (hl : l.length ≤ 1000000) : ∀ m i, l.length = i + m → Ev (fun k => box_all.l0 k l (l.length : Int) (i : Int)) (chkL (l.drop i)) := by
  intro m
  induction m with
  | zero =>
    intro i hi
    refine Ev.succ ?_
    simp only [box_all.l0]
    rw [List.drop_of_length_le (by omega)]
    exact Ev.neg (by omega) (Ev.now _)
  | succ m ih =>
    intro i hi
    refine Ev.succ ?_
    simp only [box_all.l0]
    rw [drop_cons l i z25 (by omega), chkL, rdN, stp (by omega), check_is]
    refine Ev.pos (by omega) (Ev.pos (by omega) (Ev.pos (by omega) (Ev.cbind rfl ?_)))
    by_cases h : chk (l.getD i z25) = 0
    · rw [if_pos h]; exact Ev.pos h (ih (i + 1) (by omega))
    · rw [if_neg h]; exact Ev.neg h (Ev.now _)
theorem all_ev (l : List S25) (hl : l.length ≤ 1000000) : Ev (fun k => box_all.f k l) (chkL l) := all_l0 l hl l.length 0 (by omega)
theorem two_L (x y : S25) : chkL [x, y] = two x y := by
  unfold two
  simp only [chkL]
  by_cases h : chk x = 0
  · rw [if_pos h, if_pos h]
    by_cases h2 : chk y = 0
    · rw [if_pos h2, h2]
    · rw [if_neg h2]
  · rw [if_neg h, if_neg h]
theorem one_L (x : S25) : chkL [x] = chk x := by
  simp only [chkL]
  by_cases h : chk x = 0
  · rw [if_pos h, h]
  · rw [if_neg h]
/-- The error of a list behind a box. -/
def manyS (b : S25) (l : List S25) : Int := if l.length > 256 then 7 else if chk b = 0 then chkL l else chk b
theorem many_ev (b : S25) (l : List S25) (hl : l.length ≤ 1000000) : Ev (fun k => box_many.f k l [b]) (manyS b l) := by
  unfold box_many.f manyS
  by_cases h : l.length > 256
  · rw [if_pos h]; exact Ev.pos (by omega) (Ev.now _)
  · rw [if_neg h]
    have h1 := all_ev [b] (by simp)
    rw [one_L] at h1
    refine Ev.neg (by omega) (Ev.bind h1 ?_)
    by_cases h2 : chk b = 0
    · rw [if_pos h2]; exact Ev.pos h2 (Ev.bind (all_ev l hl) (Ev.now _))
    · rw [if_neg h2]; exact Ev.neg h2 (Ev.now _)
/-- The common points. -/
def com (x y : S25) : S25 := ⟨⟨mx x.f0.f0 y.f0.f0, mx x.f0.f1 y.f0.f1, mx x.f0.f2 y.f0.f2⟩, ⟨mn x.f1.f0 y.f1.f0, mn x.f1.f1 y.f1.f1, mn x.f1.f2 y.f1.f2⟩⟩
def intS (x y : S25) : Int × Int × Int × Int × Int × Int × Int := if two x y = 0 then (if ovB x y = true then ((com x y).f0.f0, (com x y).f0.f1, (com x y).f0.f2, (com x y).f1.f0, (com x y).f1.f1, (com x y).f1.f2, 0) else (0, 0, 0, 0, 0, 0, 9)) else (0, 0, 0, 0, 0, 0, two x y)
theorem int_ev (x y : S25) : Ev (fun k => box_Intersect.f k x.f0.f0 x.f0.f1 x.f0.f2 x.f1.f0 x.f1.f1 x.f1.f2 y.f0.f0 y.f0.f1 y.f0.f2 y.f1.f0 y.f1.f1 y.f1.f2) (intS x y) := by
  unfold box_Intersect.f intS
  have h1 := all_ev [x, y] (by simp)
  rw [two_L] at h1
  exact Ev.bind h1 (ifs (fun h => Ev.cbind (a := ovB x y) rfl (ifs (fun ho => Ev.cbind rfl (Ev.cbind rfl (Ev.now _))) (fun ho => Ev.now _))) (fun h => Ev.now _))
/-- What is left of a box without another one. -/
def sub (x y : S25) : List S25 := if ovB x y = true then subt x.f0.f0 x.f0.f1 x.f0.f2 x.f1.f0 x.f1.f1 x.f1.f2 (mx x.f0.f0 y.f0.f0) (mn x.f1.f0 y.f1.f0) (mx x.f0.f1 y.f0.f1) (mn x.f1.f1 y.f1.f1) (mx x.f0.f2 y.f0.f2) (mn x.f1.f2 y.f1.f2) else [x]
theorem subtract_is (x y : S25) : box_subtract.f x.f0.f0 x.f0.f1 x.f0.f2 x.f1.f0 x.f1.f1 x.f1.f2 y.f0.f0 y.f0.f1 y.f0.f2 y.f1.f0 y.f1.f1 y.f1.f2 = some (sub x y) := rfl
theorem sub_len (x y : S25) : (sub x y).length ≤ 6 := by
  unfold sub subt
  split
  · simp only [List.length_append, List.length_nil]
    have h := fun k l0 l1 l2 l3 l4 l5 lo hi => pt_len k l0 l1 l2 l3 l4 l5 lo hi
    have h1 := h 2 x.f0.f0 x.f1.f0 x.f0.f1 x.f1.f1 x.f0.f2 x.f1.f2 x.f0.f2 (mx x.f0.f2 y.f0.f2)
    have h2 := h 2 x.f0.f0 x.f1.f0 x.f0.f1 x.f1.f1 x.f0.f2 x.f1.f2 (mn x.f1.f2 y.f1.f2) x.f1.f2
    have h3 := h 1 x.f0.f0 x.f1.f0 x.f0.f1 x.f1.f1 (mx x.f0.f2 y.f0.f2) (mn x.f1.f2 y.f1.f2) x.f0.f1 (mx x.f0.f1 y.f0.f1)
    have h4 := h 1 x.f0.f0 x.f1.f0 x.f0.f1 x.f1.f1 (mx x.f0.f2 y.f0.f2) (mn x.f1.f2 y.f1.f2) (mn x.f1.f1 y.f1.f1) x.f1.f1
    have h5 := h 0 x.f0.f0 x.f1.f0 (mx x.f0.f1 y.f0.f1) (mn x.f1.f1 y.f1.f1) (mx x.f0.f2 y.f0.f2) (mn x.f1.f2 y.f1.f2) x.f0.f0 (mx x.f0.f0 y.f0.f0)
    have h6 := h 0 x.f0.f0 x.f1.f0 (mx x.f0.f1 y.f0.f1) (mn x.f1.f1 y.f1.f1) (mx x.f0.f2 y.f0.f2) (mn x.f1.f2 y.f1.f2) (mn x.f1.f0 y.f1.f0) x.f1.f0
    omega
  · simp
theorem ov_iff (x y : S25) : ovB x y = true ↔ (mx x.f0.f0 y.f0.f0 < mn x.f1.f0 y.f1.f0) ∧ (mx x.f0.f1 y.f0.f1 < mn x.f1.f1 y.f1.f1) ∧ (mx x.f0.f2 y.f0.f2 < mn x.f1.f2 y.f1.f2) := by
  unfold ovB; simp only [Bool.and_eq_true, decide_eq_true_eq]
theorem mx_le {a b c : Int} : mx a b ≤ c ↔ a ≤ c ∧ b ≤ c := by unfold mx; split <;> omega
theorem le_mx {a b c : Int} : c ≤ mx a b ↔ c ≤ a ∨ c ≤ b := by unfold mx; split <;> omega
theorem mn_le {a b c : Int} : mn a b ≤ c ↔ a ≤ c ∨ b ≤ c := by unfold mn; split <;> omega
theorem le_mn {a b c : Int} : c ≤ mn a b ↔ c ≤ a ∧ c ≤ b := by unfold mn; split <;> omega
theorem mx_lt {a b c : Int} : mx a b < c ↔ a < c ∧ b < c := by unfold mx; split <;> omega
theorem lt_mx {a b c : Int} : c < mx a b ↔ c < a ∨ c < b := by unfold mx; split <;> omega
theorem mn_lt {a b c : Int} : mn a b < c ↔ a < c ∨ b < c := by unfold mn; split <;> omega
theorem lt_mn {a b c : Int} : c < mn a b ↔ c < a ∧ c < b := by unfold mn; split <;> omega
theorem subtract_ev (x y : S25) : Ev (fun k => box_Subtract.f k x.f0.f0 x.f0.f1 x.f0.f2 x.f1.f0 x.f1.f1 x.f1.f2 y.f0.f0 y.f0.f1 y.f0.f2 y.f1.f0 y.f1.f1 y.f1.f2) (if two x y = 0 then (sub x y, 0) else ([], two x y)) := by
  unfold box_Subtract.f
  have h1 := all_ev [x, y] (by simp)
  rw [two_L] at h1
  exact Ev.bind h1 (ifs (fun h => Ev.cbind (subtract_is x y) (Ev.now _)) (fun h => Ev.now _))
theorem pt_mem {k : Nat} {l0 l1 l2 l3 l4 l5 lo hi : Int} {z : S25} : z ∈ pt k l0 l1 l2 l3 l4 l5 lo hi ↔ lo < hi ∧ z = nb k l0 l1 l2 l3 l4 l5 lo hi := by
  unfold pt; split <;> simp [*]
theorem sub_V (x y : S25) (hx : V x) (hy : V y) : ∀ z ∈ sub x y, V z := by
  intro z hz
  unfold sub at hz
  by_cases ho : ovB x y = true
  · rw [if_pos ho] at hz
    have ho := (ov_iff x y).1 ho
    obtain ⟨x0, x1, x2, x3, x4, x5, x6, x7, x8⟩ := hx
    obtain ⟨y0, y1, y2, y3, y4, y5, y6, y7, y8⟩ := hy
    simp only [subt, List.mem_append, List.not_mem_nil, false_or, pt_mem] at hz
    simp only [mx_lt, lt_mn] at ho
    rcases hz with ((((⟨hl, rfl⟩ | ⟨hl, rfl⟩) | ⟨hl, rfl⟩) | ⟨hl, rfl⟩) | ⟨hl, rfl⟩) | ⟨hl, rfl⟩ <;> simp only [lt_mx, mn_lt] at hl <;> (constructor <;> simp [nb, mx_le, le_mx, mn_le, le_mn, mx_lt, lt_mx, mn_lt, lt_mn] <;> omega)
  · rw [if_neg ho] at hz
    obtain rfl : z = x := by simpa using hz
    exact hx
end Go.Proofs.Ytmmdikhmlmoolaa.Bx
