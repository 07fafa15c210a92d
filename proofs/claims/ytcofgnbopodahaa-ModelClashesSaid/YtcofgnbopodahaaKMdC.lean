import Derived.Test.YtcofgnbopodahaaKMdP
import Derived.Test.YtcofgnbopodahaaKQAx9
import Derived.Test.YtcofgnbopodahaaKQAx22
import Derived.Test.YtcofgnbopodahaaKQAx7
namespace Go.Proofs.Ytcofgnbopodahaa.Mp
open Go.RowKit Go.Proofs.Ytcofgnbopodahaa.QA Go.Proofs.YtcofgnbopodahaaW.PrintWords Go.Proofs.YtcofgnbopodahaaW.PrintLast Go.Proofs.YtcofgnbopodahaaW.PrintMore Go.Proofs.Ytcofgnbopodahaa.EvKit
set_option linter.unusedVariables false
set_option linter.unusedSimpArgs false
def badP (x y : S68) : Bool := !(x.f2 == y.f2) && ovB x.f1 y.f1
def rowC (x : S68) (i : Int) : List S68 → Int → List S65
  | [], _ => []
  | y :: r, j => (if badP x y = true then [⟨i, j⟩] else []) ++ rowC x i r (j + 1)
def allC : List S68 → Int → List S65
  | [], _ => []
  | x :: r, i => rowC x i r (i + 1) ++ allC r (i + 1)
theorem row_loop (l : List S68) (hl : l.length ≤ 256) (i : Nat) (hi : i < l.length) (x : S68) (hx : x = l.getD i z68) (R : List S65)
    (next : ∀ out : List S65, out.length ≤ 256 * (i + 1) → Ev (fun k => model_Clashes.l0 k l out l (l.length : Int) ((i + 1 : Nat) : Int)) (out ++ R, 0)) :
    ∀ j, j ≤ l.length → ∀ out : List S65, out.length ≤ 256 * i + j → Ev (fun k => model_Clashes.l1 k l out (i : Int) (j : Int) l (l.length : Int) (i : Int) x.f0 x.f1.f0.f0 x.f1.f0.f1 x.f1.f0.f2 x.f1.f1.f0 x.f1.f1.f1 x.f1.f1.f2 x.f2) (out ++ (rowC x i (l.drop j) j ++ R), 0) := by
  refine up_to l.length ?_
  intro j hj ih out ho
  refine Ev.succ ?_
  simp only [model_Clashes.l1]
  by_cases hlt : j < l.length
  · refine Ev.pos (by omega) (Ev.pos (by omega) ?_)
    have hd := drop_cons l j z68 hlt
    rw [rd_at]
    obtain ⟨y, hy⟩ : ∃ y, y = l.getD j z68 := ⟨_, rfl⟩
    rw [← hy] at hd ⊢
    rw [hd]
    have again : ∀ o2 : List S65, o2.length ≤ 256 * i + (j + 1) → Ev (fun k => model_Clashes.j2 k l o2 (i : Int) (j : Int) l (l.length : Int) (i : Int) x.f0 x.f1.f0.f0 x.f1.f0.f1 x.f1.f0.f2 x.f1.f1.f0 x.f1.f1.f1 x.f1.f1.f2 x.f2) (o2 ++ (rowC x i (l.drop (j + 1)) ((j : Int) + 1) ++ R), 0) := by
      intro o2 h2
      refine Ev.succ ?_
      simp only [model_Clashes.j2]
      rw [wi (by omega)]
      exact ih hlt o2 h2
    unfold rowC
    by_cases hs : x.f2 = y.f2
    · rw [if_neg (by simp [badP, hs]), List.nil_append]
      exact Ev.pos hs (again out (by omega))
    · refine Ev.neg hs (Ev.cbind (show box_Overlap.f x.f1.f0.f0 x.f1.f0.f1 x.f1.f0.f2 x.f1.f1.f0 x.f1.f1.f1 x.f1.f1.f2 y.f1.f0.f0 y.f1.f0.f1 y.f1.f0.f2 y.f1.f1.f0 y.f1.f1.f1 y.f1.f1.f2 = some (ovB x.f1 y.f1) from rfl) ?_)
      by_cases ho2 : ovB x.f1 y.f1 = true
      · rw [if_pos (by simp [badP, hs, ho2])]
        refine Ev.pos ho2 (Ev.pos (by omega) (Ev.eq (again _ (by simp only [List.length_append, List.length_cons, List.length_nil]; omega)) ?_))
        simp
      · rw [if_neg (by simp [badP, ho2]), List.nil_append]
        exact Ev.neg ho2 (again out (by omega))
  · rw [List.drop_eq_nil_of_le (by omega)]
    refine Ev.neg (by omega) ?_
    rw [wi (by omega)]
    exact next out (by omega)
theorem all_loop (l : List S68) (hl : l.length ≤ 256) : ∀ i, i ≤ l.length → ∀ out : List S65, out.length ≤ 256 * i → Ev (fun k => model_Clashes.l0 k l out l (l.length : Int) (i : Int)) (out ++ allC (l.drop i) i, 0) := by
  refine up_to l.length ?_
  intro i hi ih out ho
  refine Ev.succ ?_
  simp only [model_Clashes.l0]
  by_cases hlt : i < l.length
  · refine Ev.pos (by omega) (Ev.pos (by omega) (Ev.pos (by omega) ?_))
    have hd := drop_cons l i z68 hlt
    rw [rd_at, wi (by omega)]
    obtain ⟨x, hx⟩ : ∃ x, x = l.getD i z68 := ⟨_, rfl⟩
    rw [← hx] at hd ⊢
    rw [hd]
    exact row_loop l hl i hlt x hx _ (fun o2 h2 => ih hlt o2 h2) (i + 1) hlt out (by omega)
  · rw [List.drop_eq_nil_of_le (by omega)]
    refine Ev.neg (by omega) (Ev.eq (Ev.now _) ?_)
    simp [allC]
def clashP (l : List S68) : List S65 × Int := if chkE l = 0 then (allC l 0, 0) else ([], chkE l)
theorem Clashes_ev (l : List S68) : Ev (fun k => model_Clashes.f k l) (clashP l) := by
  unfold model_Clashes.f
  refine Ev.bind (Check_ev l) ?_
  by_cases h : chkE l = 0
  · refine Ev.pos h (Ev.eq (all_loop l ((chkE0 l).1 h).1 0 (Nat.zero_le _) [] (by simp)) ?_)
    unfold clashP; rw [if_pos h]; rfl
  · refine Ev.neg h (Ev.eq (Ev.now _) ?_)
    unfold clashP; rw [if_neg h]
def withP (l : List S68) (a : ByteArray) : List S68 × Int := if chkE l = 0 then (l.filter (keepB a), 0) else ([], chkE l)
theorem Without_ev (l : List S68) (a : ByteArray) : Ev (fun k => model_Without.f k l a) (withP l a) := by
  unfold model_Without.f
  refine Ev.bind (Check_ev l) ?_
  by_cases h : chkE l = 0
  · refine Ev.pos h (Ev.pos (by have := ((chkE0 l).1 h).1; omega) (Ev.eq (Ev.now _) ?_))
    unfold withP; rw [if_pos h]
  · refine Ev.neg h (Ev.eq (Ev.now _) ?_)
    unfold withP; rw [if_neg h]
theorem rowC_nil (x : S68) (i : Int) : ∀ (l : List S68) (j : Int), rowC x i l j = [] ↔ ∀ y ∈ l, badP x y = false
  | [], j => by simp [rowC]
  | y :: r, j => by
    unfold rowC
    rw [List.append_eq_nil_iff, rowC_nil x i r (j + 1)]
    cases h : badP x y <;> simp [h]
theorem allC_nil : ∀ (l : List S68) (i : Int), allC l i = [] ↔ l.Pairwise fun x y => badP x y = false
  | [], i => by simp [allC]
  | x :: r, i => by
    unfold allC
    rw [List.append_eq_nil_iff, rowC_nil, allC_nil r (i + 1), List.pairwise_cons]
theorem ovB_iff (x y : S43) : ovB x y = true ↔ (mx x.f0.f0 y.f0.f0 < mn x.f1.f0 y.f1.f0) ∧ (mx x.f0.f1 y.f0.f1 < mn x.f1.f1 y.f1.f1) ∧ (mx x.f0.f2 y.f0.f2 < mn x.f1.f2 y.f1.f2) := by simp [ovB]
theorem mm (p q r s t : Int) (h1 : p ≤ t) (h2 : q ≤ t) (h3 : t < r) (h4 : t < s) : mx p q < mn r s := by
  unfold mx mn
  split <;> split <;> omega
theorem ov_of {x y : S43} {p0 p1 p2 : Int} (hx : Md.hasB (bx x) p0 p1 p2 = true) (hy : Md.hasB (bx y) p0 p1 p2 = true) : ovB x y = true := by
  obtain ⟨a0, a1, a2, a3, a4, a5⟩ := (Md.hasB_iff _ _ _ _).1 hx
  obtain ⟨c0, c1, c2, c3, c4, c5⟩ := (Md.hasB_iff _ _ _ _).1 hy
  exact (ovB_iff x y).2 ⟨mm _ _ _ _ p0 a0 c0 a1 c1, mm _ _ _ _ p1 a2 c2 a3 c3, mm _ _ _ _ p2 a4 c4 a5 c5⟩
theorem mx_mn {p q r s : Int} (h : mx p q < mn r s) : p ≤ mx p q ∧ q ≤ mx p q ∧ mx p q < r ∧ mx p q < s := by
  by_cases a : p < q <;> by_cases b : s < r <;> simp only [mx, mn, a, b, if_true, if_false] at h ⊢ <;> omega
theorem ov_cell {x y : S43} (h : ovB x y = true) : ∃ p0 p1 p2, Md.hasB (bx x) p0 p1 p2 = true ∧ Md.hasB (bx y) p0 p1 p2 = true := by
  obtain ⟨h0, h1, h2⟩ := (ovB_iff x y).1 h
  obtain ⟨a0, b0, c0, d0⟩ := mx_mn h0
  obtain ⟨a1, b1, c1, d1⟩ := mx_mn h1
  obtain ⟨a2, b2, c2, d2⟩ := mx_mn h2
  exact ⟨_, _, _, (Md.hasB_iff _ _ _ _).2 ⟨a0, c0, a1, c1, a2, c2⟩, (Md.hasB_iff _ _ _ _).2 ⟨b0, d0, b1, d1, b2, d2⟩⟩
theorem bad_iff (x y : S68) : badP x y = true ↔ x.f2 ≠ y.f2 ∧ ovB x.f1 y.f1 = true := by simp [badP]
theorem hit_iff (l : List S68) (n p0 p1 p2 : Int) : Md.hit (l.map ev) n p0 p1 p2 = true ↔ ∃ x ∈ l, x.f2 = n ∧ Md.hasB (bx x.f1) p0 p1 p2 = true := by
  simp only [Md.hit, List.any_eq_true, Bool.and_eq_true, decide_eq_true_eq]
  constructor
  · rintro ⟨e, he, h1, h2⟩
    obtain ⟨x, hx, rfl⟩ := List.mem_map.1 he
    exact ⟨x, hx, h1, h2⟩
  · rintro ⟨x, hx, h1, h2⟩
    exact ⟨ev x, List.mem_map.2 ⟨x, hx, rfl⟩, h1, h2⟩
theorem st3 {l : List S68} (ok : ∀ x ∈ l, Ok x) (p0 p1 p2 : Int) : Md.st (l.map ev) p0 p1 p2 = 3 ↔ (∃ x ∈ l, x.f2 = 1 ∧ Md.hasB (bx x.f1) p0 p1 p2 = true) ∧ ∃ y ∈ l, y.f2 = 2 ∧ Md.hasB (bx y.f1) p0 p1 p2 = true := by
  rw [Md.st_val (ok_ev ok), Md.val_three, hit_iff, hit_iff]
theorem clash_of_cell {l : List S68} (ok : ∀ x ∈ l, Ok x) {p0 p1 p2 : Int} (h : Md.st (l.map ev) p0 p1 p2 = 3) : allC l 0 ≠ [] := by
  obtain ⟨⟨x, hx, sx, bxx⟩, ⟨y, hy, sy, byy⟩⟩ := (st3 ok p0 p1 p2).1 h
  rw [Ne, allC_nil]
  intro hp
  have hpi := List.pairwise_iff_getElem.1 hp
  obtain ⟨i, hi, rfl⟩ := List.mem_iff_getElem.1 hx
  obtain ⟨j, hj, rfl⟩ := List.mem_iff_getElem.1 hy
  rcases Nat.lt_trichotomy i j with hij | hij | hij
  · have := hpi i j hi hj hij
    rw [(bad_iff _ _).2 ⟨by rw [sx, sy]; decide, ov_of bxx byy⟩] at this; cases this
  · subst hij; rw [sx] at sy; cases sy
  · have := hpi j i hj hi hij
    rw [(bad_iff _ _).2 ⟨by rw [sx, sy]; decide, ov_of byy bxx⟩] at this; cases this
theorem cell_of_clash {l : List S68} (ok : ∀ x ∈ l, Ok x) (h : allC l 0 ≠ []) : ∃ x ∈ l, ∃ p0 p1 p2, Md.hasB (bx x.f1) p0 p1 p2 = true ∧ Md.st (l.map ev) p0 p1 p2 = 3 := by
  rw [Ne, allC_nil, List.pairwise_iff_getElem] at h
  obtain ⟨i, j, hi, hj, hij, hb⟩ : ∃ i j, ∃ (hi : i < l.length) (hj : j < l.length), i < j ∧ badP l[i] l[j] = true := by
    refine Classical.byContradiction fun hn => h fun i j hi hj hij => ?_
    cases hq : badP l[i] l[j] with
    | false => rfl
    | true => exact absurd ⟨i, j, hi, hj, hij, hq⟩ hn
  obtain ⟨hs, ho⟩ := (bad_iff _ _).1 hb
  obtain ⟨p0, p1, p2, h1, h2⟩ := ov_cell ho
  have mi := List.getElem_mem hi
  have mj := List.getElem_mem hj
  refine ⟨_, mi, p0, p1, p2, h1, (st3 ok _ _ _).2 ?_⟩
  rcases (ok _ mi).s with a | a <;> rcases (ok _ mj).s with b | b
  · exact absurd (a.trans b.symm) hs
  · exact ⟨⟨_, mi, a, h1⟩, ⟨_, mj, b, h2⟩⟩
  · exact ⟨⟨_, mj, b, h2⟩, ⟨_, mi, a, h1⟩⟩
  · exact absurd (a.trans b.symm) hs
end Go.Proofs.Ytcofgnbopodahaa.Mp
