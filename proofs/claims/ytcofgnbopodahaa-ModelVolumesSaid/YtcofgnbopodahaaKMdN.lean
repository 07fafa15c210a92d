import Derived.Test.YtcofgnbopodahaaKMdA
import Derived.Test.YtcofgnbopodahaaKQAx12
import Derived.Test.YtcofgnbopodahaaKQAx13
import Derived.Test.YtcofgnbopodahaaKQAx16
import Derived.Test.YtcofgnbopodahaaKQAx14
import Derived.Test.YtcofgnbopodahaaKQAx11
namespace Go.Proofs.Ytcofgnbopodahaa.Mp
open Go.RowKit Go.Proofs.Ytcofgnbopodahaa.QA Go.Proofs.YtcofgnbopodahaaW.PrintWords Go.Proofs.YtcofgnbopodahaaW.PrintLast Go.Proofs.YtcofgnbopodahaaW.PrintMore Go.Proofs.Ytcofgnbopodahaa.EvKit
set_option linter.unusedVariables false
set_option linter.unusedSimpArgs false
theorem w1 : wrap64 (0 + 1) = 1 := w64 (by omega) (by omega)
theorem w2 : wrap64 (1 + 1) = 2 := w64 (by omega) (by omega)
theorem w3 : wrap64 (2 + 1) = 3 := w64 (by omega) (by omega)
theorem at0 (x y z : Int) : r06_At.f x y z 0 = some x := rfl
theorem at1 (x y z : Int) : r06_At.f x y z 1 = some y := rfl
theorem at2 (x y z : Int) : r06_At.f x y z 2 = some z := rfl
theorem l03 : ((0 : Int) < 3) = True := by simp
theorem l13 : ((1 : Int) < 3) = True := by simp
theorem l23 : ((2 : Int) < 3) = True := by simp
theorem l33 : ((3 : Int) < 3) = False := by simp
theorem rcheck_ev (x : S43) : Ev (fun k => r06_Check.f k x.f0.f0 x.f0.f1 x.f0.f2 x.f1.f0 x.f1.f1 x.f1.f2) (chk x) := by
  refine ⟨12, fun k hk => ?_⟩
  obtain ⟨n, rfl⟩ : ∃ n, k = n + 12 := ⟨k - 12, by omega⟩
  obtain ⟨⟨x0, x1, x2⟩, ⟨x3, x4, x5⟩⟩ := x
  simp only [r06_Check.f, r06_Check.l0, r06_Check.j1, r06_Check.l1, Option.bind_some, w1, w2, w3, at0, at1, at2, l03, l13, l23, l33, if_true, if_false]
  unfold chk inR
  simp only [Bool.and_eq_true, decide_eq_true_eq]
  by_cases hr : (((((-1000000 ≤ x0 ∧ x0 ≤ 1000000) ∧ -1000000 ≤ x3 ∧ x3 ≤ 1000000) ∧ -1000000 ≤ x1 ∧ x1 ≤ 1000000) ∧ -1000000 ≤ x4 ∧ x4 ≤ 1000000) ∧ -1000000 ≤ x2 ∧ x2 ≤ 1000000) ∧ -1000000 ≤ x5 ∧ x5 ≤ 1000000
  · rw [if_pos hr, if_neg (by omega), if_neg (by omega), if_neg (by omega), if_neg (by omega), if_neg (by omega), if_neg (by omega), if_neg (by omega), if_neg (by omega), if_neg (by omega), if_neg (by omega), if_neg (by omega), if_neg (by omega)]
    by_cases hv : x0 < x3 ∧ x1 < x4 ∧ x2 < x5
    · rw [if_pos hv, if_neg (by omega), if_neg (by omega), if_neg (by omega)]
    · rw [if_neg hv]
      by_cases c0 : x0 ≥ x3
      · rw [if_pos c0]
      by_cases c1 : x1 ≥ x4
      · rw [if_neg c0, if_pos c1]
      · rw [if_neg c0, if_neg c1, if_pos (by omega)]
  · rw [if_neg hr]
    have st : ∀ (c : Prop) [Decidable c] (o : Option Int), (¬ c → o = some 6) → (if c then some 6 else o) = some 6 := fun c _ o h => by
      by_cases hc : c
      · rw [if_pos hc]
      · rw [if_neg hc, h hc]
    refine st _ _ fun h1 => st _ _ fun h2 => st _ _ fun h3 => st _ _ fun h4 => st _ _ fun h5 => st _ _ fun h6 => st _ _ fun h7 => st _ _ fun h8 => st _ _ fun h9 => st _ _ fun h10 => st _ _ fun h11 => st _ _ fun h12 => ?_
    exact absurd (show _ from ⟨⟨⟨⟨⟨⟨by omega, by omega⟩, by omega, by omega⟩, by omega, by omega⟩, by omega, by omega⟩, by omega, by omega⟩, by omega, by omega⟩) hr
theorem rlab_loop (s : ByteArray) (hs : s.size ≤ 40) : ∀ (d i : Nat), i + d = s.size → Ev (fun k => r_Label.l0 k s (i : Int)) (labR s d i)
  | 0, i, h => by
    refine Ev.succ ?_
    simp only [r_Label.l0]
    exact Ev.neg (by omega) (Ev.now _)
  | d + 1, i, h => by
    refine Ev.succ ?_
    simp only [r_Label.l0]
    refine Ev.pos (by omega) (Ev.pos (by omega) ?_)
    have ih := rlab_loop s hs d (i + 1) (by omega)
    have go : ∀ b : Bool, okB s (i : Int) = !b → Ev (fun k => r_Label.j2 k s (i : Int) b) (labR s (d + 1) i) := by
      intro b hb
      refine Ev.succ ?_
      simp only [r_Label.j2]
      unfold labR
      rw [hb]
      cases b with
      | true => exact Ev.pos rfl (Ev.now _)
      | false =>
        refine Ev.neg (by simp) ?_
        rw [wi (by omega)]
        simpa using ih
    by_cases c1 : bt s (i : Int) < 32
    · exact Ev.pos c1 (go true (by simp [okB, c1]))
    · refine Ev.neg c1 ?_
      by_cases c2 : bt s (i : Int) > 126
      · exact Ev.pos c2 (go true (by simp [okB, c2]))
      · exact Ev.neg c2 (go _ (by simp [okB, c1, c2]))
theorem rlabel_ev (s : ByteArray) : Ev (fun k => r_Label.f k s) (labB s) := by
  have no : Ev (fun k => r_Label.j0 k s true) false := by
    refine Ev.succ ?_
    simp only [r_Label.j0]
    exact Ev.pos trivial (Ev.now _)
  unfold r_Label.f labB
  by_cases c1 : (s.size : Int) < 1
  · rw [if_pos c1]; exact Ev.pos c1 no
  rw [if_neg c1]
  refine Ev.neg c1 ?_
  by_cases c2 : (s.size : Int) > 40
  · rw [if_pos c2]; exact Ev.pos c2 no
  rw [if_neg c2]
  refine Ev.neg c2 (Ev.pos (by omega) ?_)
  by_cases c3 : bt s 0 = 32
  · rw [if_pos c3]; exact Ev.pos c3 no
  rw [if_neg c3, w64 (by omega) (by omega)]
  refine Ev.neg c3 (Ev.pos (by omega) (Ev.pos (by omega) (Ev.succ ?_)))
  simp only [r_Label.j0]
  by_cases c4 : bt s ((s.size : Int) - 1) = 32
  · rw [if_pos c4]; exact Ev.pos (by simpa using c4) (Ev.now _)
  · rw [if_neg c4]
    exact Ev.neg (by simpa using c4) (rlab_loop s (by omega) s.size 0 (by omega))
theorem rhas_ev (b : S43) (p0 p1 p2 : Int) : Ev (fun k => r_has.f k b.f0.f0 b.f0.f1 b.f0.f2 b.f1.f0 b.f1.f1 b.f1.f2 p0 p1 p2) (Md.hasB (bx b) p0 p1 p2) := by
  refine ⟨2, fun k hk => ?_⟩
  obtain ⟨n, rfl⟩ : ∃ n, k = n + 2 := ⟨k - 2, by omega⟩
  have e : Md.hasB (bx b) p0 p1 p2 = decide (b.f0.f0 ≤ p0 ∧ p0 < b.f1.f0 ∧ b.f0.f1 ≤ p1 ∧ p1 < b.f1.f1 ∧ b.f0.f2 ≤ p2 ∧ p2 < b.f1.f2) := by
    rw [Bool.eq_iff_iff, Md.hasB_iff, decide_eq_true_eq]; exact Iff.rfl
  rw [e]
  simp only [r_has.f, r_has.j0]
  repeat' split
  all_goals (congr 1; simp only [decide_eq_decide, eq_comm (a := false), decide_eq_false_iff_not]; omega)
theorem rjoin_eq (n : Nat) (a b : Int) : r_Join.f (n + 1) a b = some (Md.jn a b) := by
  unfold r_Join.f Md.jn
  by_cases h1 : a = 0
  · simp [h1, r_Join.j0]
  · by_cases h2 : a = b
    · simp [h2, r_Join.j0]
    · by_cases h3 : b = 0
      · simp [h1, h3, r_Join.j0]
      · simp [h1, h2, h3, r_Join.j0]
theorem rjoin_ev (a b : Int) : Ev (fun k => r_Join.f k a b) (Md.jn a b) := by
  refine ⟨1, fun k hk => ?_⟩
  obtain ⟨n, rfl⟩ : ∃ n, k = n + 1 := ⟨k - 1, by omega⟩
  exact rjoin_eq n a b
theorem rstate_loop (l : List S68) (p0 p1 p2 : Int) (hl : l.length < 1000000) : ∀ i, i ≤ l.length → ∀ o : Int, Ev (fun k => r_State.l0 k l o (i : Int) p0 p1 p2) (((l.drop i).map ev).foldl (Md.step p0 p1 p2) o) := by
  refine up_to l.length ?_
  intro i hi ih o
  refine Ev.succ ?_
  simp only [r_State.l0]
  by_cases hlt : i < l.length
  · refine Ev.pos (by omega) (Ev.pos (by omega) ?_)
    have hd := drop_cons l i z68 hlt
    rw [rd_at]
    obtain ⟨x, hx⟩ : ∃ x, x = l.getD i z68 := ⟨_, rfl⟩
    rw [← hx] at hd ⊢
    rw [hd, List.map_cons, List.foldl_cons]
    refine Ev.bind (rhas_ev x.f1 p0 p1 p2) ?_
    have st : Md.step p0 p1 p2 o (ev x) = if Md.hasB (bx x.f1) p0 p1 p2 = true then Md.jn o x.f2 else o := rfl
    by_cases hb : Md.hasB (bx x.f1) p0 p1 p2 = true
    · rw [st, if_pos hb]
      refine Ev.pos hb (Ev.bind (rjoin_ev o x.f2) (Ev.succ ?_))
      simp only [r_State.j1]
      rw [wi (by omega)]
      exact ih hlt _
    · rw [st, if_neg hb]
      refine Ev.neg hb (Ev.succ ?_)
      simp only [r_State.j1]
      rw [wi (by omega)]
      exact ih hlt _
  · rw [List.drop_eq_nil_of_le (by omega)]
    exact Ev.neg (by omega) (Ev.now _)
theorem rstate_ev (l : List S68) (p0 p1 p2 : Int) (hl : l.length < 1000000) : Ev (fun k => r_State.f k l p0 p1 p2) (stL l p0 p1 p2) := rstate_loop l p0 p1 p2 hl 0 (Nat.zero_le _) 0
theorem rchk2 (l : List S68) (hl : l.length < 1000000) : ∀ i, i ≤ l.length → Ev (fun k => r_Check.l2 k l (i : Int)) (if (l.drop i).any badS = true then 1 else 0) := by
  refine up_to l.length ?_
  intro i hi ih
  refine Ev.succ ?_
  simp only [r_Check.l2]
  by_cases hlt : i < l.length
  · refine Ev.pos (by omega) (Ev.pos (by omega) ?_)
    have hd := drop_cons l i z68 hlt
    rw [rd_at]
    obtain ⟨x, hx⟩ : ∃ x, x = l.getD i z68 := ⟨_, rfl⟩
    rw [← hx] at hd ⊢
    rw [hd, List.any_cons]
    have again : Ev (fun k => r_Check.j3 k l (i : Int)) (if (l.drop (i + 1)).any badS = true then 1 else 0) := by
      refine Ev.succ ?_
      simp only [r_Check.j3]
      rw [wi (by omega)]
      exact ih hlt
    by_cases h1 : x.f2 = 1
    · have hb : badS x = false := (badS_iff x).2 (.inl h1)
      rw [hb, Bool.false_or]
      exact Ev.pos h1 again
    · refine Ev.neg h1 ?_
      by_cases h2 : x.f2 = 2
      · have hb : badS x = false := (badS_iff x).2 (.inr h2)
        rw [hb, Bool.false_or]
        exact Ev.pos h2 again
      · have hb : badS x = true := by
          cases h : badS x with
          | true => rfl
          | false => exact absurd ((badS_iff x).1 h) (fun h => h.elim h1 h2)
        rw [hb, Bool.true_or, if_pos rfl]
        exact Ev.neg h2 (Ev.now _)
  · rw [List.drop_eq_nil_of_le (by omega)]
    exact Ev.neg (by omega) (Ev.now _)
theorem rchk1 (l : List S68) (hl : l.length < 1000000) : ∀ i, i ≤ l.length → Ev (fun k => r_Check.l1 k l (i : Int)) (chkR l (l.drop i)) := by
  refine up_to l.length ?_
  intro i hi ih
  refine Ev.succ ?_
  simp only [r_Check.l1]
  by_cases hlt : i < l.length
  · refine Ev.pos (by omega) (Ev.pos (by omega) ?_)
    have hd := drop_cons l i z68 hlt
    rw [rd_at]
    obtain ⟨x, hx⟩ : ∃ x, x = l.getD i z68 := ⟨_, rfl⟩
    rw [← hx] at hd ⊢
    rw [hd]
    refine Ev.bind (rcheck_ev x.f1) ?_
    unfold chkR
    by_cases hc : chk x.f1 = 0
    · rw [if_pos hc, wi (by omega)]
      exact Ev.pos hc (ih hlt)
    · rw [if_neg hc]
      exact Ev.neg hc (Ev.now _)
  · rw [List.drop_eq_nil_of_le (by omega)]
    refine Ev.neg (by omega) (Ev.eq (rchk2 l hl 0 (Nat.zero_le _)) ?_)
    unfold chkR
    rw [List.drop_zero]
theorem rchk0 (l : List S68) (hl : l.length < 1000000) : ∀ i, i ≤ l.length → Ev (fun k => r_Check.l0 k l (i : Int)) (if ((l.drop i).any fun x => !labB x.f0) = true then 4 else chkR l l) := by
  refine up_to l.length ?_
  intro i hi ih
  refine Ev.succ ?_
  simp only [r_Check.l0]
  by_cases hlt : i < l.length
  · refine Ev.pos (by omega) (Ev.pos (by omega) ?_)
    have hd := drop_cons l i z68 hlt
    rw [rd_at]
    obtain ⟨x, hx⟩ : ∃ x, x = l.getD i z68 := ⟨_, rfl⟩
    rw [← hx] at hd ⊢
    rw [hd, List.any_cons]
    refine Ev.bind (rlabel_ev x.f0) ?_
    cases hb : labB x.f0 with
    | true =>
      rw [wi (by omega)]
      exact Ev.pos rfl (ih hlt)
    | false => exact Ev.neg (by simp) (Ev.now _)
  · rw [List.drop_eq_nil_of_le (by omega)]
    exact Ev.neg (by omega) (rchk1 l hl 0 (Nat.zero_le _))
theorem rCheck_ev (l : List S68) : Ev (fun k => r_Check.f k l) (chkE l) := by
  unfold r_Check.f chkE
  by_cases c1 : (l.length : Int) > 256
  · rw [if_pos c1]; exact Ev.pos c1 (Ev.now _)
  rw [if_neg c1]
  exact Ev.neg c1 (rchk0 l (by omega) 0 (Nat.zero_le _))
end Go.Proofs.Ytcofgnbopodahaa.Mp
