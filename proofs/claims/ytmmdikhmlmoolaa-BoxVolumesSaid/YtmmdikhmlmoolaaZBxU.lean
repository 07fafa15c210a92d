/-
  Chapter 06: what Total of the program comes to.
-/
import Derived.Test.YtmmdikhmlmoolaaZBxT
namespace Go.Proofs.Ytmmdikhmlmoolaa.Bx
open Go.RowKit Go.Proofs.Ytmmdikhmlmoolaa.QA Go.Proofs.YtmmdikhmlmoolaaW.PrintWords Go.Proofs.YtmmdikhmlmoolaaW.PrintLast Go.Proofs.YtmmdikhmlmoolaaW.PrintMore Go.Proofs.Ytmmdikhmlmoolaa.EvKit
set_option linter.unusedVariables false
set_option linter.unusedSimpArgs false
theorem rdJ (l : List Int) (i : Nat) : rd l (i : Int) = l.getD i 0 := by simp [rd]
theorem stm {j : Nat} (h : 1 ≤ j) (h2 : j ≤ 1000000) : wrap64 ((j : Int) - 1) = ((j - 1 : Nat) : Int) := by rw [w64 (by omega) (by omega)]; omega
theorem tot_l1 (list plane : List S25) (zs ys : List Int) (zi : Nat) (N : Int) (R : Int × Int) (hp : plane.length ≤ 1000) (hV : ∀ b ∈ plane, V b) (hys : ys.length ≤ 100000) (hy : ys.Pairwise (· < ·)) (hyb : ∀ e ∈ ys, -1000000 ≤ e ∧ e ≤ 1000000) (hz1 : 1 ≤ zi) (hz2 : zi < zs.length) (hz3 : zs.length ≤ 100000) (hzb : ∀ e ∈ zs, -1000000 ≤ e ∧ e ≤ 1000000) (hz : zs.getD (zi - 1) 0 < zs.getD zi 0) (hN : N ≤ 8000000000000000000)
    (hR : Ev (fun k => box_Total.l0 k list N zs ((zi + 1 : Nat) : Int)) R) :
    ∀ m j (n : Int), 1 ≤ j → ys.length ≤ j + m → 0 ≤ n → n + swp (fY plane) (ys.drop (j - 1)) * (zs.getD zi 0 - zs.getD (zi - 1) 0) = N →
    Ev (fun k => box_Total.l1 k list n zs (zi : Int) plane ys (j : Int)) R := by
  have hmem : ∀ i, i < zs.length → zs.getD i 0 ∈ zs := fun i hi => by rw [List.getD_eq_getElem?_getD, List.getElem?_eq_getElem hi]; simp
  have b1 := hzb _ (hmem zi hz2)
  have b0 := hzb _ (hmem (zi - 1) (by omega))
  have fin : ∀ (j : Nat) (n : Int), ys.length ≤ j → n = N → Ev (fun k => box_Total.l1 k list n zs (zi : Int) plane ys (j : Int)) R := fun j n hj hn => by
    subst hn
    refine Ev.succ ?_
    simp only [box_Total.l1]
    rw [stp (i := zi) (by omega)]
    exact Ev.neg (by omega) hR
  have last : ∀ (j : Nat), 1 ≤ j → ys.length ≤ j → swp (fY plane) (ys.drop (j - 1)) = 0 := fun j h1 hj => by
    have : (ys.drop (j - 1)).length ≤ 1 := by rw [List.length_drop]; omega
    match hd : ys.drop (j - 1), this with
    | [], _ => rfl
    | [a], _ => rfl
  intro m
  induction m with
  | zero =>
    intro j n h1 hj h0 hn
    rw [last j h1 (by omega), Int.zero_mul, Int.add_zero] at hn
    exact fin j n (by omega) hn
  | succ m ih =>
    intro j n h1 hj h0 hn
    by_cases hlt : j < ys.length
    rotate_left
    · rw [last j h1 (by omega), Int.zero_mul, Int.add_zero] at hn
      exact fin j n (by omega) hn
    have hd : ys.drop (j - 1) = ys.getD (j - 1) 0 :: ys.getD j 0 :: ys.drop (j + 1) := by
      rw [drop_cons ys (j - 1) 0 (by omega), show j - 1 + 1 = j by omega, drop_cons ys j 0 hlt]
    have hd2 : ys.drop (j + 1 - 1) = ys.getD j 0 :: ys.drop (j + 1) := by rw [show j + 1 - 1 = j by omega, drop_cons ys j 0 hlt]
    have hmy : ∀ i, i < ys.length → ys.getD i 0 ∈ ys := fun i hi => by rw [List.getD_eq_getElem?_getD, List.getElem?_eq_getElem hi]; simp
    have y1 := hyb _ (hmy j hlt)
    have y0 := hyb _ (hmy (j - 1) (by omega))
    have hpw := hy.sublist (List.drop_sublist (j - 1) ys)
    rw [hd] at hpw hn
    have hy2 := (List.pairwise_cons.1 hpw).1 (ys.getD j 0) (by simp)
    have hrest := swp_nonneg (fY plane) (fun i => cX_nonneg _) _ (List.pairwise_cons.1 hpw).2
    rw [swp_two] at hn
    refine Ev.succ ?_
    simp only [box_Total.l1]
    rw [stm h1 (by omega), rdJ, rdJ, stm hz1 (by omega), rdJ, rdJ, stp (by omega)]
    have hc := covered_ev (atL 1 (ys.getD (j - 1) 0) plane) (fun b hb => hV b (atL_mem.1 hb).1) (by have := atL_len 1 (ys.getD (j - 1) 0) plane; omega)
    have c0 := cX_nonneg (atL 1 (ys.getD (j - 1) 0) plane)
    have c1 := cX_le (atL 1 (ys.getD (j - 1) 0) plane)
    have hf : fY plane (ys.getD (j - 1) 0) = cX (atL 1 (ys.getD (j - 1) 0) plane) := rfl
    rw [hf] at hn
    refine Ev.pos (by omega) (Ev.pos (by omega) (Ev.pos (by omega) (Ev.bind (at_ev 1 _ (by simp) plane (by omega)) (Ev.bind hc (Ev.pos (by omega) (Ev.pos (by omega) (Ev.pos (by omega) (Ev.pos (by omega) (Ev.pos (by omega) ?_)))))))))
    have hnext := fun n' => ih (j + 1) n' (by omega) (by omega)
    rw [hd2] at hnext
    generalize cX (atL 1 (ys.getD (j - 1) 0) plane) = c at c0 c1 hn
    generalize ys.getD j 0 = q1 at hy2 y1 hn hnext hrest ⊢
    generalize ys.getD (j - 1) 0 = q0 at hy2 y0 hn hnext ⊢
    generalize zs.getD zi 0 = p1 at b1 hz hn hnext ⊢
    generalize zs.getD (zi - 1) 0 = p0 at b0 hz hn hnext ⊢
    generalize hS : swp (fY plane) (q1 :: ys.drop (j + 1)) = S at hn hrest hnext
    have m1 := mul_bd (a := c) (b := q1 - q0) (m := 2000000) (n := 2000000) c0 c1 (by omega) (by omega)
    have m2 := mul_bd (a := c * (q1 - q0)) (b := p1 - p0) (m := 4000000000000) (n := 2000000) m1.1 (by omega) (by omega) (by omega)
    have m3 := Int.mul_nonneg hrest (show 0 ≤ p1 - p0 by omega)
    rw [Int.add_mul] at hn
    rw [w64 (n := q1 - q0) (by omega) (by omega), w64 (n := p1 - p0) (by omega) (by omega), w64 (n := c * (q1 - q0)) (by omega) (by omega), w64 (n := c * (q1 - q0) * (p1 - p0)) (by omega) (by omega), w64 (n := n + c * (q1 - q0) * (p1 - p0)) (by omega) (by omega)]
    exact hnext _ (by omega) (by omega)
theorem tot_l0 (list : List S25) (zs : List Int) (T : Int) (hl : list.length ≤ 1000) (hV : ∀ b ∈ list, V b) (hz3 : zs.length ≤ 100000) (hz : zs.Pairwise (· < ·)) (hzb : ∀ e ∈ zs, -1000000 ≤ e ∧ e ≤ 1000000) (hT : T ≤ 8000000000000000000) :
    ∀ m j (n : Int), 1 ≤ j → zs.length ≤ j + m → 0 ≤ n → n + swp (fZ list) (zs.drop (j - 1)) = T → Ev (fun k => box_Total.l0 k list n zs (j : Int)) (T, 0) := by
  have fin : ∀ (j : Nat) (n : Int), zs.length ≤ j → n = T → Ev (fun k => box_Total.l0 k list n zs (j : Int)) (T, 0) := fun j n hj hn => by
    subst hn
    refine Ev.succ ?_
    simp only [box_Total.l0]
    exact Ev.neg (by omega) (Ev.now _)
  have last : ∀ (j : Nat), 1 ≤ j → zs.length ≤ j → swp (fZ list) (zs.drop (j - 1)) = 0 := fun j h1 hj => by
    have : (zs.drop (j - 1)).length ≤ 1 := by rw [List.length_drop]; omega
    match hd : zs.drop (j - 1), this with
    | [], _ => rfl
    | [a], _ => rfl
  intro m
  induction m with
  | zero =>
    intro j n h1 hj h0 hn
    rw [last j h1 (by omega), Int.add_zero] at hn
    exact fin j n (by omega) hn
  | succ m ih =>
    intro j n h1 hj h0 hn
    by_cases hlt : j < zs.length
    rotate_left
    · rw [last j h1 (by omega), Int.add_zero] at hn
      exact fin j n (by omega) hn
    have hd : zs.drop (j - 1) = zs.getD (j - 1) 0 :: zs.getD j 0 :: zs.drop (j + 1) := by
      rw [drop_cons zs (j - 1) 0 (by omega), show j - 1 + 1 = j by omega, drop_cons zs j 0 hlt]
    have hd2 : zs.drop (j + 1 - 1) = zs.getD j 0 :: zs.drop (j + 1) := by rw [show j + 1 - 1 = j by omega, drop_cons zs j 0 hlt]
    have hpw := hz.sublist (List.drop_sublist (j - 1) zs)
    rw [hd] at hpw hn
    have hz2 := (List.pairwise_cons.1 hpw).1 (zs.getD j 0) (by simp)
    have fnn : ∀ i, 0 ≤ fZ list i := fun i => si_nonneg (fun y => cX_nonneg _) _ _
    have hrest := swp_nonneg (fZ list) fnn _ (List.pairwise_cons.1 hpw).2
    rw [swp_two] at hn
    refine Ev.succ ?_
    simp only [box_Total.l0]
    rw [stm h1 (by omega), rdJ]
    have hplane : ∀ b ∈ atL 2 (zs.getD (j - 1) 0) list, V b := fun b hb => hV b (atL_mem.1 hb).1
    have hpl := atL_len 2 (zs.getD (j - 1) 0) list
    have hcl := cuts_len 1 (atL 2 (zs.getD (j - 1) 0) list)
    have hf : fZ list (zs.getD (j - 1) 0) = swp (fY (atL 2 (zs.getD (j - 1) 0) list)) (cuts 1 (atL 2 (zs.getD (j - 1) 0) list)) := sweepY _ hplane
    have hpos := Int.mul_nonneg (fnn (zs.getD (j - 1) 0)) (show 0 ≤ zs.getD j 0 - zs.getD (j - 1) 0 by omega)
    have hnext := ih (j + 1) (n + fZ list (zs.getD (j - 1) 0) * (zs.getD j 0 - zs.getD (j - 1) 0)) (by omega) (by omega) (by omega) (by rw [hd2]; omega)
    refine Ev.pos (by omega) (Ev.pos (by omega) (Ev.pos (by omega) (Ev.bind (at_ev 2 _ (by simp) list (by omega)) (Ev.bind (cuts_ev 1 (by simp) _ (by omega)) ?_))))
    exact tot_l1 list (atL 2 (zs.getD (j - 1) 0) list) zs (cuts 1 (atL 2 (zs.getD (j - 1) 0) list)) j _ _ (by omega) hplane (by omega) (cmpL_inc _) (cuts_in 1 (by simp) _ hplane) h1 hlt hz3 hzb hz2 (by omega) hnext (cuts 1 (atL 2 (zs.getD (j - 1) 0) list)).length 1 n (by omega) (by omega) h0 (by rw [show (1 : Nat) - 1 = 0 from rfl, List.drop_zero, ← hf])
def manyN (l : List S25) : Int := if l.length > 256 then 7 else chkL l
theorem manyN_ev (l : List S25) (hl : l.length ≤ 1000000) : Ev (fun k => box_many.f k l []) (manyN l) := by
  unfold box_many.f manyN
  have h1 := all_ev [] (by simp)
  exact Ev.ite (fun h => Ev.eq (Ev.now _) (by rw [if_pos (by omega)])) (fun h => Ev.bind h1 (Ev.pos rfl (Ev.bind (all_ev l hl) (Ev.eq (Ev.now _) (by rw [if_neg (by omega)])))))
theorem manyN_0 {l : List S25} (h : manyN l = 0) : l.length ≤ 256 ∧ ∀ c ∈ l, V c := by
  unfold manyN at h
  by_cases h1 : l.length > 256
  · rw [if_pos h1] at h; cases h
  · rw [if_neg h1] at h; exact ⟨by omega, (chkL_0 l).1 h⟩
def totS (l : List S25) : Int × Int := if manyN l = 0 then (uni l, 0) else (0, manyN l)
theorem tot_ev (l : List S25) (hl : l.length ≤ 1000000) : Ev (fun k => box_Total.f k l) (totS l) := by
  unfold box_Total.f totS
  refine Ev.bind (manyN_ev l hl) (ifs (fun h => ?_) (fun h => Ev.now _))
  obtain ⟨h1, hV⟩ := manyN_0 h
  have hc := cuts_len 2 l
  refine Ev.bind (cuts_ev 2 (by simp) l hl) ?_
  refine tot_l0 l (cuts 2 l) (uni l) (by omega) hV (by omega) (cmpL_inc _) (cuts_in 2 (by simp) l hV) (uni_le l) (cuts 2 l).length 1 0 (by omega) (by omega) (by omega) ?_
  rw [show (1 : Nat) - 1 = 0 from rfl, List.drop_zero, Int.zero_add, uni_is, sweepZ l hV]
end Go.Proofs.Ytmmdikhmlmoolaa.Bx
