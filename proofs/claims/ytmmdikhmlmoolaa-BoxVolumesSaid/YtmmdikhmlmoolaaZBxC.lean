/-
  Chapter 06: Clash of the program.
-/
import Derived.Test.YtmmdikhmlmoolaaZBxU
import Derived.Test.YtmmdikhmlmoolaaZQAx11
import Derived.Test.YtmmdikhmlmoolaaZQAx3
namespace Go.Proofs.Ytmmdikhmlmoolaa.Bx
open Go.RowKit Go.Proofs.Ytmmdikhmlmoolaa.QA Go.Proofs.YtmmdikhmlmoolaaW.PrintWords Go.Proofs.YtmmdikhmlmoolaaW.PrintLast Go.Proofs.YtmmdikhmlmoolaaW.PrintMore Go.Proofs.Ytmmdikhmlmoolaa.EvKit
set_option linter.unusedVariables false
set_option linter.unusedSimpArgs false
/-- The first place from j on whose box overlaps a. -/
def firstO (a : S25) : Nat → List S25 → Option Nat
  | _, [] => none
  | j, c :: l => if ovB a c = true then some j else firstO a (j + 1) l
/-- The first pair from i on. -/
def pairO : Nat → List S25 → Option (Nat × Nat)
  | _, [] => none
  | i, a :: l => match firstO a (i + 1) l with
    | some j => some (i, j)
    | none => pairO (i + 1) l
def pairR : Option (Nat × Nat) → Int × Int
  | none => (-1, -1)
  | some (i, j) => ((i : Int), (j : Int))
theorem clash_l1 (l : List S25) (a : S25) (i : Nat) (R : Int × Int) (hl : l.length ≤ 1000000) (hi : i < l.length) (hR : Ev (fun k => box_clash.l0 k l l (l.length : Int) ((i + 1 : Nat) : Int)) R) :
    ∀ m j, l.length = j + m → Ev (fun k => box_clash.l1 k l (i : Int) (j : Int) l (l.length : Int) (i : Int) a.f0.f0 a.f0.f1 a.f0.f2 a.f1.f0 a.f1.f1 a.f1.f2) (match firstO a j (l.drop j) with | some q => ((i : Int), (q : Int)) | none => R) := by
  intro m
  induction m with
  | zero =>
    intro j hj
    refine Ev.succ ?_
    simp only [box_clash.l1]
    rw [List.drop_of_length_le (by omega), stp (i := i) (by omega)]
    exact Ev.neg (by omega) hR
  | succ m ih =>
    intro j hj
    refine Ev.succ ?_
    simp only [box_clash.l1]
    rw [drop_cons l j z25 (by omega), firstO, rdN, stp (i := j) (by omega)]
    have ho : ∀ c : S25, box_Overlap.f a.f0.f0 a.f0.f1 a.f0.f2 a.f1.f0 a.f1.f1 a.f1.f2 c.f0.f0 c.f0.f1 c.f0.f2 c.f1.f0 c.f1.f1 c.f1.f2 = some (ovB a c) := fun c => rfl
    refine Ev.pos (by omega) (Ev.pos (by omega) (Ev.cbind (ho _) ?_))
    by_cases h : ovB a (l.getD j z25) = true
    · rw [if_pos h]; exact Ev.pos h (Ev.now _)
    · rw [if_neg h]; exact Ev.neg h (ih (j + 1) (by omega))
theorem clash_l0 (l : List S25) (hl : l.length ≤ 1000000) : ∀ m i, l.length = i + m → Ev (fun k => box_clash.l0 k l l (l.length : Int) (i : Int)) (pairR (pairO i (l.drop i))) := by
  intro m
  induction m with
  | zero =>
    intro i hi
    refine Ev.succ ?_
    simp only [box_clash.l0]
    rw [List.drop_of_length_le (by omega)]
    exact Ev.neg (by omega) (Ev.now _)
  | succ m ih =>
    intro i hi
    refine Ev.succ ?_
    simp only [box_clash.l0]
    rw [drop_cons l i z25 (by omega), pairO, rdN, stp (i := i) (by omega)]
    refine Ev.pos (by omega) (Ev.pos (by omega) (Ev.pos (by omega) ?_))
    have h := clash_l1 l (l.getD i z25) i _ hl (by omega) (ih (i + 1) (by omega)) m (i + 1) (by omega)
    cases hf : firstO (l.getD i z25) (i + 1) (l.drop (i + 1)) with
    | none => rw [hf] at h; exact h
    | some q => rw [hf] at h; exact h
theorem clash_ev (l : List S25) (hl : l.length ≤ 1000000) : Ev (fun k => box_clash.f k l) (pairR (pairO 0 l)) := clash_l0 l hl l.length 0 (by omega)
def clashS (l : List S25) : Int × Int × Int := if manyN l = 0 then (match pairO 0 l with | none => (0, 0, 9) | some (i, j) => ((i : Int), (j : Int), 0)) else (0, 0, manyN l)
theorem Clash_ev (l : List S25) (hl : l.length ≤ 1000000) : Ev (fun k => box_Clash.f k l) (clashS l) := by
  unfold box_Clash.f clashS
  refine Ev.bind (manyN_ev l hl) (ifs (fun h => Ev.bind (clash_ev l hl) ?_) (fun h => Ev.now _))
  cases pairO 0 l with
  | none => exact Ev.pos (by simp [pairR]) (Ev.now _)
  | some p => exact Ev.neg (by simp [pairR]) (Ev.now _)
/-! ### where no point is twice no boxes overlap -/
theorem com_has (x y : S25) (p0 p1 p2 : Int) : hasB (com x y) p0 p1 p2 = (hasB x p0 p1 p2 && hasB y p0 p1 p2) := by
  rw [Bool.eq_iff_iff, Bool.and_eq_true]
  unfold hasB com
  simp only [decide_eq_true_eq, mx_le, lt_mn]
  omega
theorem com_V (x y : S25) (hx : V x) (hy : V y) (h : ovB x y = true) : V (com x y) := by
  obtain ⟨h0, h1, h2⟩ := (ov_iff x y).1 h
  obtain ⟨x0, x1, x2, x3, x4, x5, _, _, _⟩ := hx
  obtain ⟨y0, y1, y2, y3, y4, y5, _, _, _⟩ := hy
  constructor <;> simp only [com, mx_le, le_mx, mn_le, le_mn] <;> first | omega | assumption
theorem ov_has (x y : S25) (p0 p1 p2 : Int) (hx : hasB x p0 p1 p2 = true) (hy : hasB y p0 p1 p2 = true) : ovB x y = true := by
  rw [ov_iff, mx_lt, mx_lt, mx_lt, lt_mn, lt_mn, lt_mn, lt_mn, lt_mn, lt_mn]
  unfold hasB at hx hy
  rw [decide_eq_true_eq] at hx hy
  omega
theorem corner_has (c : S25) (h : V c) : hasB c c.f0.f0 c.f0.f1 c.f0.f2 = true := by
  unfold hasB; rw [decide_eq_true_eq]; have := h.l0; have := h.l1; have := h.l2; omega
theorem cn_one : ∀ (l : List S25) (c : S25) (x y z : Int), c ∈ l → hasB c x y z = true → 1 ≤ cn l x y z
  | b :: l, c, x, y, z, hc, hh => by
    rw [cn]
    have h1 := ind_nonneg (hasB b x y z)
    have h2 := cn_nonneg l x y z
    rcases List.mem_cons.1 hc with rfl | hc
    · rw [hh]; simp [ind]; omega
    · have := cn_one l c x y z hc hh; omega
theorem firstO_none (a : S25) : ∀ (l : List S25) (j : Nat), (∀ c ∈ l, ¬ ovB a c = true) → firstO a j l = none
  | [], _, _ => rfl
  | c :: l, j, h => by rw [firstO, if_neg (h c (by simp)), firstO_none a l (j + 1) (fun d hd => h d (by simp [hd]))]
theorem pairO_none : ∀ (l : List S25) (i : Nat), (∀ b ∈ l, V b) → (∀ x y z, cn l x y z ≤ 1) → pairO i l = none
  | [], _, _, _ => rfl
  | a :: l, i, hV, h => by
    have hf : firstO a (i + 1) l = none := firstO_none a l (i + 1) (fun c hc ho => by
      have hv := com_V a c (hV a (by simp)) (hV c (by simp [hc])) ho
      have hh := corner_has _ hv
      rw [com_has, Bool.and_eq_true] at hh
      have h1 := h (com a c).f0.f0 (com a c).f0.f1 (com a c).f0.f2
      rw [cn, hh.1] at h1
      have h2 := cn_one l c _ _ _ hc hh.2
      have : ind true = 1 := rfl
      omega)
    rw [pairO, hf]
    exact pairO_none l (i + 1) (fun b hb => hV b (by simp [hb])) (fun x y z => by
      have := h x y z
      rw [cn] at this
      have := ind_nonneg (hasB a x y z)
      omega)
end Go.Proofs.Ytmmdikhmlmoolaa.Bx
