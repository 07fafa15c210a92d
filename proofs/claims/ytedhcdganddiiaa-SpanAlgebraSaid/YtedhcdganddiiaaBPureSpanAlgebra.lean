import Derived.Test.YtedhcdganddiiaaBSetX
import Derived.Test.YtedhcdganddiiaaBQAx18
/-
  The pure statement of SpanAlgebra: where the lists are valid, Minus and Common make up the normal form of a, the counts add up, and neither the order of a list nor normalizing again changes anything. (Lists of more than 30 intervals are not examined.)
-/
namespace Go.Proofs.Ytedhcdganddiiaa.Pure
open Go.RowKit Go.Proofs.Ytedhcdganddiiaa.QA Go.Proofs.YtedhcdganddiiaaW.PrintWords Go.Proofs.YtedhcdganddiiaaW.PrintLast Go.Proofs.Ytedhcdganddiiaa.EvKit
set_option linter.unusedVariables false
set_option linter.unusedSimpArgs false

theorem SpanAlgebra : gangsawlaw01_SpanAlgebra.Pure := by
  intro a b _ _
  refine Ev.rounds (r := true) ?_
  have hj0t : Ev (fun k => gangsawlaw01_SpanAlgebra.j0 k a b true) true := Ev.succ (by simp only [gangsawlaw01_SpanAlgebra.j0]; exact Ev.pos trivial (Ev.now _))
  have hj1t : ∀ n m c u, Ev (fun k => gangsawlaw01_SpanAlgebra.j1 k a b n m c u true) true := fun n m c u => Ev.succ (by simp only [gangsawlaw01_SpanAlgebra.j1]; exact Ev.pos trivial (Ev.now _))
  have hj3 : ∀ v, Ev (fun k => gangsawlaw01_SpanAlgebra.j3 k v) v := fun v => Ev.succ (by simp only [gangsawlaw01_SpanAlgebra.j3]; exact Ev.now v)
  refine Ev.bind awake_is (Ev.pos rfl (Ev.ite (fun _ => hj0t) (fun ha30 => ?_)))
  by_cases hb30 : (b.length : Int) > 30
  · rw [decide_eq_true hb30]; exact hj0t
  rw [decide_eq_false hb30]
  have ha : a.length ≤ 30 := by omega
  have hb : b.length ≤ 30 := by omega
  refine Ev.succ ?_
  simp only [gangsawlaw01_SpanAlgebra.j0]
  refine Ev.neg (by simp) ?_
  have la := nrm_length a
  have lab := nrm_length (a ++ b)
  have hl : (a ++ b).length = a.length + b.length := List.length_append
  have lm := min_length a b ha hb
  have lc := cmn_length a b ha hb
  refine Ev.bind (Normalize_is a (by omega)) (Ev.bind (Minus_is a b (by omega) (by omega)) (Ev.bind (Common_is a b (by omega) (by omega)) (Ev.bind (Union_is a b (by omega) (by omega)) ?_)))
  by_cases h : lst [a, b] = 0
  · obtain ⟨oa, ob⟩ := ok_l h
    have h1 : lst [a] = 0 := lst_one (by omega) oa
    rw [if_pos h, if_pos h, if_pos h, if_pos h1]
    obtain ⟨u1, u2, u3⟩ := uni_spec oa ob
    obtain ⟨m1, m2, m3⟩ := min_spec oa ob
    obtain ⟨c1, c2, c3⟩ := cmn_spec oa ob
    obtain ⟨n1, n2⟩ := nrm_spec oa
    obtain ⟨b1, b2⟩ := nrm_spec ob
    have n3 := nrm_ok oa
    have b3 := nrm_ok ob
    refine Ev.pos rfl (Ev.pos rfl (Ev.pos rfl ?_))
    refine Ev.succ ?_
    simp only [gangsawlaw01_SpanAlgebra.j1]
    refine Ev.neg (by simp) ?_
    have lmc : (minL a b ++ cmnL a b).length ≤ 121 := by rw [List.length_append]; omega
    have bothU := Union_is (minL a b) (cmnL a b) (by omega) (by omega)
    rw [if_pos (lst_two (by omega) (by omega) m3 c3)] at bothU
    have eb : nrm (minL a b ++ cmnL a b) = nrm a := by
      obtain ⟨q1, q2, _⟩ := uni_spec m3 c3
      refine NF_unique q1 n1 (fun n => ?_)
      rw [q2 n, m2 n, c2 n, n2 n]
      by_cases hn : mem b n <;> simp [hn]
    rw [eb] at bothU
    have again := Normalize_is (nrm a) (by omega)
    rw [if_pos (lst_one (by omega) n3), nrm_idem n1 n3] at again
    refine Ev.bind bothU (Ev.bind again ?_)
    have loop : ∀ m, m ≤ a.length → Ev (fun k => gangsawlaw01_SpanAlgebra.l0 k a b (nrm a) 0 0 (cmnL a b) (nrm (a ++ b)) (nrm a) (nrm a) (a.drop m).reverse ((m : Int) - 1)) true := by
      intro m
      induction m with
      | zero =>
        intro _
        refine Ev.succ ?_
        simp only [gangsawlaw01_SpanAlgebra.l0]
        refine Ev.neg (by omega) ?_
        rw [List.drop_zero]
        have op : ∀ x ∈ a.reverse, okI x := fun x hx => oa x (List.mem_reverse.1 hx)
        have lr : a.reverse.length = a.length := List.length_reverse
        have er : nrm a.reverse = nrm a := by
          obtain ⟨q1, q2⟩ := nrm_spec op
          exact NF_unique q1 n1 (fun n => by rw [q2 n, n2 n, mem_perm (List.reverse_perm a)])
        have r1 := Normalize_is a.reverse (by omega)
        rw [if_pos (lst_one (by omega) op), er] at r1
        have k1 := Count_is a (by omega)
        rw [if_pos h1, cnt_size _ _ _ n1 n3 (Int.le_refl _) (by omega)] at k1
        have k2 := Count_is b (by omega)
        rw [if_pos (lst_one (by omega) ob), cnt_size _ _ _ b1 b3 (Int.le_refl _) (by omega)] at k2
        have k3 := Count_is (cmnL a b) (by omega)
        rw [if_pos (lst_one (by omega) c3), nrm_idem c1 c3, cnt_size _ _ _ c1 c3 (Int.le_refl _) (by omega)] at k3
        have k4 := Count_is (nrm (a ++ b)) (by omega)
        rw [if_pos (lst_one (by omega) u3), nrm_idem u1 u3, cnt_size _ _ _ u1 u3 (Int.le_refl _) (by omega)] at k4
        have sm : Ev (fun k => gangsawref01_Same.f k (nrm a) (nrm a)) true := Ev.eq (Same_is _ _ (by omega)) (sameB_iff.2 rfl)
        refine Ev.bind r1 (Ev.bind k1 (Ev.bind k2 (Ev.bind k3 (Ev.bind k4 ?_))))
        refine Ev.pos trivial (Ev.bind sm (Ev.pos rfl (Ev.pos trivial (Ev.bind sm (Ev.pos rfl (Ev.pos rfl (Ev.bind sm (Ev.pos rfl (Ev.pos rfl (Ev.pos rfl (Ev.pos rfl (Ev.pos rfl ?_))))))))))))
        refine Ev.eq (hj3 _) ?_
        have e := size_union n1 b1 u1 c1 n3 b3 u3 c3 (fun n => by rw [u2 n, n2 n, b2 n]) (fun n => by rw [c2 n, n2 n, b2 n])
        have d1 := size_bd n1 (fun x hx => (n3 x hx).2.2) (by omega)
        have d2 := size_bd b1 (fun x hx => (b3 x hx).2.2) (by omega)
        have d3 := size_bd c1 (fun x hx => (c3 x hx).2.2) (by omega)
        rw [w64 (n := 0 + size (nrm a) + (0 + size (nrm b))) (by omega) (by omega), w64 (by omega) (by omega), beq_iff_eq]
        omega
      | succ m ih =>
        intro hm
        refine Ev.succ ?_
        simp only [gangsawlaw01_SpanAlgebra.l0]
        rw [show ((m + 1 : Nat) : Int) - 1 = (m : Int) by omega]
        have lr : (a.drop (m + 1)).reverse.length ≤ a.length := by rw [List.length_reverse, List.length_drop]; omega
        refine Ev.pos (by omega) (Ev.pos (by omega) (Ev.pos (by omega) (Ev.pos (by omega) ?_)))
        rw [w64 (by omega) (by omega)]
        have e : (a.drop (m + 1)).reverse ++ [(⟨(rd_T23 a (m : Int)).f0, (rd_T23 a (m : Int)).f1⟩ : S23)] = (a.drop m).reverse := by
          rw [rd_at a m (by omega), List.reverse_cons]
        rw [e]
        exact ih (by omega)
    rw [w64 (by omega) (by omega)]
    have := loop a.length (Nat.le_refl _)
    rw [List.drop_length] at this
    exact this
  · rw [if_neg h, if_neg h, if_neg h]
    by_cases h1 : lst [a] = 0
    · rw [if_pos h1]
      exact Ev.pos rfl (Ev.neg h (hj1t _ _ _ _))
    · rw [if_neg h1]
      exact Ev.neg h1 (hj1t _ _ _ _)
end Go.Proofs.Ytedhcdganddiiaa.Pure
