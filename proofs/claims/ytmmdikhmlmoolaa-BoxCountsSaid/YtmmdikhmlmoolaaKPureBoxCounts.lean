import Derived.Test.YtmmdikhmlmoolaaKBx
import Derived.Test.YtmmdikhmlmoolaaKQAx31
namespace Go.Proofs.Ytmmdikhmlmoolaa.Pure
open Go.RowKit Go.Proofs.Ytmmdikhmlmoolaa.QA Go.Proofs.YtmmdikhmlmoolaaW.PrintWords Go.Proofs.Ytmmdikhmlmoolaa.EvKit Go.Proofs.Ytmmdikhmlmoolaa.Bx
set_option linter.unusedVariables false
set_option linter.unusedSimpArgs false
theorem le3_trans {a b c d e f g h i : Int} (h1 : le3 a b c d e f) (h2 : le3 d e f g h i) : le3 a b c g h i := by
  unfold le3 at *; omega
theorem le3_anti {a b c d e f : Int} (h1 : le3 a b c d e f) (h2 : le3 d e f a b c) : a = d ∧ b = e ∧ c = f := by
  unfold le3 at *; omega
theorem before_is (a b c d e f : Int) : ∃ t, r_Before.f a b c d e f = some t ∧ (t = true → le3 a b c d e f) ∧ (t = false → le3 d e f a b c) := by
  unfold r_Before.f
  by_cases h1 : c = f
  · rw [if_pos h1]
    by_cases h2 : b = e
    · rw [if_pos h2]
      refine ⟨_, rfl, fun h => ?_, fun h => ?_⟩
      · have := of_decide_eq_true h; unfold le3; omega
      · have := of_decide_eq_false h; unfold le3; omega
    · rw [if_neg h2]
      refine ⟨_, rfl, fun h => ?_, fun h => ?_⟩
      · have := of_decide_eq_true h; unfold le3; omega
      · have := of_decide_eq_false h; unfold le3; omega
  · rw [if_neg h1]
    refine ⟨_, rfl, fun h => ?_, fun h => ?_⟩
    · have := of_decide_eq_true h; unfold le3; omega
    · have := of_decide_eq_false h; unfold le3; omega
theorem rgap_l0 (left : List S25) (hl : left.length ≤ 1000000) : ∀ m i (p0 p1 p2 : Int), left.length = i + m → (∃ c ∈ left, c.f0.f0 = p0 ∧ c.f0.f1 = p1 ∧ c.f0.f2 = p2) → (∀ c ∈ left.take i, le3 p0 p1 p2 c.f0.f0 c.f0.f1 c.f0.f2) →
    ∃ q0 q1 q2, (∃ c ∈ left, c.f0.f0 = q0 ∧ c.f0.f1 = q1 ∧ c.f0.f2 = q2) ∧ (∀ c ∈ left, le3 q0 q1 q2 c.f0.f0 c.f0.f1 c.f0.f2) ∧ Ev (fun k => r_Gap.l0 k left (i : Int) p0 p1 p2) (q0, q1, q2, true) := by
  intro m
  induction m with
  | zero =>
    intro i p0 p1 p2 hi hc hm
    rw [List.take_of_length_le (by omega)] at hm
    refine ⟨p0, p1, p2, hc, hm, Ev.succ ?_⟩
    simp only [r_Gap.l0]
    exact Ev.neg (by omega) (Ev.now _)
  | succ m ih =>
    intro i p0 p1 p2 hi hc hm
    have hmem := getD_mem (l := left) (i := i) (by omega)
    have htake : left.take (i + 1) = left.take i ++ [left.getD i z25] := by
      rw [List.take_add_one, List.getElem?_eq_getElem (by omega), List.getD_eq_getElem?_getD, List.getElem?_eq_getElem (by omega)]
      rfl
    obtain ⟨t, ht, h1, h2⟩ := before_is (left.getD i z25).f0.f0 (left.getD i z25).f0.f1 (left.getD i z25).f0.f2 p0 p1 p2
    cases t with
    | true =>
      have hlt := h1 rfl
      obtain ⟨q0, q1, q2, e1, e2, e3⟩ := ih (i + 1) (left.getD i z25).f0.f0 (left.getD i z25).f0.f1 (left.getD i z25).f0.f2 (by omega) ⟨_, hmem, rfl, rfl, rfl⟩ (fun c hc => by
        rw [htake] at hc
        rcases List.mem_append.1 hc with hc | hc
        · exact le3_trans hlt (hm c hc)
        · rw [List.mem_singleton.1 hc]; unfold le3; omega)
      refine ⟨q0, q1, q2, e1, e2, Ev.succ ?_⟩
      simp only [r_Gap.l0]
      rw [rdN, stp (i := i) (by omega)]
      exact Ev.pos (by omega) (Ev.pos (by omega) (Ev.cbind ht (Ev.pos rfl e3)))
    | false =>
      have hge := h2 rfl
      obtain ⟨q0, q1, q2, e1, e2, e3⟩ := ih (i + 1) p0 p1 p2 (by omega) hc (fun c hc => by
        rw [htake] at hc
        rcases List.mem_append.1 hc with hc | hc
        · exact hm c hc
        · rw [List.mem_singleton.1 hc]; exact hge)
      refine ⟨q0, q1, q2, e1, e2, Ev.succ ?_⟩
      simp only [r_Gap.l0]
      rw [rdN, stp (i := i) (by omega)]
      exact Ev.pos (by omega) (Ev.pos (by omega) (Ev.cbind ht (Ev.neg (by decide) e3)))
theorem open_in (b : S25) (l : List S25) (h : (restL l [b]).2 = 0) (x y z : Int) : (∃ c ∈ (restL l [b]).1, hasB c x y z = true) ↔ hasB b x y z = true ∧ opn l x y z := by
  have hc := cn_rest l [b] x y z h
  have hp := cn_pos (restL l [b]).1 x y z
  rw [hc] at hp
  have ha : (∃ c ∈ (restL l [b]).1, hasB c x y z = true) ↔ Bx.anyB (restL l [b]).1 x y z = true := by
    unfold Bx.anyB; rw [List.any_eq_true]
  rw [ha, hp, opn_iff]
  cases h1 : Bx.anyB l x y z with
  | true => simp
  | false => cases h2 : hasB b x y z <;> simp [cn, h2, ind]
theorem lo_le (c : S25) (x y z : Int) (h : hasB c x y z = true) : le3 c.f0.f0 c.f0.f1 c.f0.f2 x y z := by
  rw [has_iff] at h; unfold le3; omega
theorem rgap_ev (b : S25) (l : List S25) (hb : V b) (hV : ∀ c ∈ l, V c) (hl : l.length ≤ 7) :
    ∃ x y z, (gapS b l = (0, 0, 0, 9) ∧ Ev (fun k => r_Gap.f k b.f0.f0 b.f0.f1 b.f0.f2 b.f1.f0 b.f1.f1 b.f1.f2 l) (0, 0, 0, false)) ∨ (gapS b l = (x, y, z, 0) ∧ Ev (fun k => r_Gap.f k b.f0.f0 b.f0.f1 b.f0.f2 b.f1.f0 b.f1.f1 b.f1.f2 l) (x, y, z, true)) := by
  have hm : manyS b l = 0 := by
    unfold manyS
    rw [if_neg (by omega), if_pos ((chk0 b).2 hb)]
    exact (chkL_0 l).2 hV
  have hg : gapS b l = gZ l b (endsL 2 b.f0.f2 b.f1.f2 l) := by unfold gapS; rw [if_pos hm]
  have h0 := rest_7 b l hb hV hl
  have hlen := restL_len l [b] (by simp)
  have hin := open_in b l h0
  have hrV := restL_V l [b] hV (by simpa using hb)
  have hr := rrest_ev b l (by omega) hb hV
  rw [hg]
  cases hL : (restL l [b]).1 with
  | nil =>
    refine ⟨0, 0, 0, .inl ⟨?_, ?_⟩⟩
    · rcases gap_found l b hb with ⟨e, _⟩ | ⟨x, y, z, hh, ho, _, _⟩
      · exact e
      · obtain ⟨c, hc, _⟩ := (hin x y z).2 ⟨hh, ho⟩
        rw [hL] at hc; cases hc
    · unfold r_Gap.f
      refine Ev.bind hr ?_
      rw [hL]
      exact Ev.pos rfl (Ev.now _)
  | cons c0 rest =>
    rw [hL] at hlen hin hrV
    have hc0 : (c0 :: rest) ≠ [] := by simp
    obtain ⟨q0, q1, q2, ⟨c, hc, e0, e1, e2⟩, hmin, hev⟩ := rgap_l0 (c0 :: rest) (by omega) rest.length 1 c0.f0.f0 c0.f0.f1 c0.f0.f2 (by simp; omega) ⟨c0, by simp, rfl, rfl, rfl⟩ (fun d hd => by
      rw [List.take_succ_cons, List.take_zero, List.mem_singleton] at hd
      subst hd; unfold le3; omega)
    have hq := (hin q0 q1 q2).1 ⟨c, hc, by have := corner_has c (hrV c hc); rwa [e0, e1, e2] at this⟩
    rcases gap_found l b hb with ⟨e, hn⟩ | ⟨x, y, z, hh, ho, e, hle⟩
    · exact absurd hq.2 (hn q0 q1 q2 hq.1)
    · obtain ⟨d, hd, hdh⟩ := (hin x y z).2 ⟨hh, ho⟩
      have k1 := le3_trans (hmin d hd) (lo_le d x y z hdh)
      obtain ⟨rfl, rfl, rfl⟩ := le3_anti k1 (hle q0 q1 q2 hq.1 hq.2)
      refine ⟨q0, q1, q2, .inr ⟨e, ?_⟩⟩
      unfold r_Gap.f
      refine Ev.bind hr ?_
      rw [hL]
      refine Ev.neg (by simp; omega) (Ev.pos (by simp) ?_)
      exact hev
theorem cnt_j6 (b : Bool) : Ev (fun k => w_BoxCounts.j6 k b) b := Ev.succ (Ev.now _)
theorem cnt_j7 (b : Bool) : Ev (fun k => w_BoxCounts.j7 k b) b := Ev.succ (Ev.now _)
def parE (b : S25) (l : List S25) : Int := if manyS b l = 0 then parS b l else manyS b l
theorem cnt_j5 (b : S25) (l : List S25) (hl : l.length ≤ 7 ∨ l.length > 256) : Ev (fun k => w_BoxCounts.j5 k l (gapS b l).2.2.2 (parE b l) (manyS b l) b.f0.f0 b.f0.f1 b.f0.f2 b.f1.f0 b.f1.f1 b.f1.f2 (gapS b l).1 (gapS b l).2.1 (gapS b l).2.2.1) true := by
  refine Ev.succ ?_
  simp only [w_BoxCounts.j5]
  by_cases hm : manyS b l = 0
  · obtain ⟨h256, hb, hV⟩ := many_256 hm
    have hp : parE b l = parS b l := if_pos hm
    have hpe := rpar_ev b l hb (by omega) hV
    rw [hp]
    refine Ev.pos hm ?_
    obtain ⟨x, y, z, ⟨e, hev⟩ | ⟨e, hev⟩⟩ := rgap_ev b l hb hV (by omega)
    · rw [e]
      exact Ev.bind hev (Ev.pos rfl (Ev.pos rfl (Ev.neg (by decide) (Ev.pos rfl (Ev.bind hpe (Ev.eq (cnt_j7 _) (by simp)))))))
    · rw [e]
      exact Ev.bind hev (Ev.pos (by simp) (Ev.pos rfl (Ev.pos rfl (Ev.bind hpe (Ev.eq (cnt_j7 _) (by simp))))))
  · have hg : gapS b l = (0, 0, 0, manyS b l) := by unfold gapS; rw [if_neg hm]
    have hp : parE b l = manyS b l := if_neg hm
    rw [hg, hp]
    exact Ev.neg hm (Ev.pos rfl (Ev.pos rfl (Ev.eq (cnt_j6 _) rfl)))
theorem cnt_j2 (b : S25) (l : List S25) (hl : l.length ≤ 7 ∨ l.length > 256) : Ev (fun k => w_BoxCounts.j2 k l (totS l).1 (totS l).2 (clashS l).1 (clashS l).2.1 (clashS l).2.2 (gapS b l).2.2.2 (parE b l) (manyN l) (manyS b l) b.f0.f0 b.f0.f1 b.f0.f2 b.f1.f0 b.f1.f1 b.f1.f2 (gapS b l).1 (gapS b l).2.1 (gapS b l).2.2.1) true := by
  have h5 := cnt_j5 b l hl
  have h3 : Ev (fun k => w_BoxCounts.j3 k l (gapS b l).2.2.2 (parE b l) (manyS b l) false b.f0.f0 b.f0.f1 b.f0.f2 b.f1.f0 b.f1.f1 b.f1.f2 (gapS b l).1 (gapS b l).2.1 (gapS b l).2.2.1) true := by
    refine Ev.succ ?_
    simp only [w_BoxCounts.j3]
    exact Ev.neg (by decide) h5
  have h4 : Ev (fun k => w_BoxCounts.j4 k l (gapS b l).2.2.2 (parE b l) (manyS b l) false b.f0.f0 b.f0.f1 b.f0.f2 b.f1.f0 b.f1.f1 b.f1.f2 (gapS b l).1 (gapS b l).2.1 (gapS b l).2.2.1) true := by
    refine Ev.succ ?_
    simp only [w_BoxCounts.j4]
    exact Ev.neg (by decide) h5
  refine Ev.succ ?_
  simp only [w_BoxCounts.j2]
  by_cases hm : manyN l = 0
  · obtain ⟨h256, hV⟩ := manyN_0 hm
    have ht : totS l = (uni l, 0) := if_pos hm
    have hc : clashS l = (match pairO 0 l with | none => (0, 0, 9) | some (i, j) => ((i : Int), (j : Int), 0)) := if_pos hm
    rw [ht, hc]
    refine Ev.pos hm (Ev.bind (rclash_ev l (by omega)) (Ev.pos rfl (Ev.bind (rtot_ev l (by omega) hV) (Ev.pos rfl ?_))))
    cases pairO 0 l with
    | none => exact Ev.pos rfl (Ev.pos rfl (Ev.neg (by decide) (Ev.neg (by decide) h3)))
    | some p => exact Ev.pos rfl (Ev.pos rfl (Ev.neg (by simp [rpairR]) (Ev.pos rfl h3)))
  · have ht : totS l = (0, manyN l) := if_neg hm
    have hc : clashS l = (0, 0, manyN l) := if_neg hm
    rw [ht, hc]
    exact Ev.neg hm (Ev.pos rfl (Ev.pos rfl (Ev.pos rfl (Ev.pos rfl h4))))
theorem cnt_j0 (b : S25) (l : List S25) (w : Bool) (hl : w = false → (l.length ≤ 7 ∨ l.length > 256) ∧ l.length ≤ 1000) : Ev (fun k => w_BoxCounts.j0 k l w b.f0.f0 b.f0.f1 b.f0.f2 b.f1.f0 b.f1.f1 b.f1.f2) true := by
  refine Ev.succ ?_
  simp only [w_BoxCounts.j0]
  cases w with
  | true => exact Ev.pos rfl (Ev.now _)
  | false =>
    obtain ⟨h1, h2⟩ := hl rfl
    refine Ev.neg (by decide) (Ev.bind (tot_ev l (by omega)) (Ev.bind (Clash_ev l (by omega)) (Ev.bind (gap_ev b l (by omega)) (Ev.bind (par_ev b l (by omega)) (Ev.bind (rall_ev l (by omega)) (Ev.bind (rcheck_ev b) ?_))))))
    have hj := cnt_j2 b l h1
    have hp : (if manyS b l = 0 then parS b l else manyS b l) = parE b l := rfl
    rw [hp]
    have j1 : ∀ A : Int, (l.length ≤ 256 → A = manyS b l) → Ev (fun k => w_BoxCounts.j1 k l (totS l).1 (totS l).2 (clashS l).1 (clashS l).2.1 (clashS l).2.2 (gapS b l).2.2.2 (parE b l) (chkL l) A b.f0.f0 b.f0.f1 b.f0.f2 b.f1.f0 b.f1.f1 b.f1.f2 (gapS b l).1 (gapS b l).2.1 (gapS b l).2.2.1) true := fun A hA => by
      refine Ev.succ ?_
      simp only [w_BoxCounts.j1]
      by_cases h3 : l.length > 256
      · have e1 : manyN l = 7 := if_pos h3
        have e2 : manyS b l = 7 := if_pos h3
        rw [e1] at hj
        refine Ev.pos (by omega) (Ev.eq ?_ rfl)
        rw [e2] at hj
        exact hj
      · have e1 : manyN l = chkL l := if_neg h3
        rw [e1] at hj
        rw [hA (by omega)]
        exact Ev.neg (by omega) hj
    by_cases hc : chk b = 0
    · exact Ev.pos hc (j1 _ (fun h3 => by unfold manyS; rw [if_neg (by omega), if_pos hc]))
    · exact Ev.neg hc (j1 _ (fun h3 => by unfold manyS; rw [if_neg (by omega), if_neg hc]))
theorem BoxCounts : w_BoxCounts.Pure := by
  intro a0 a1 a2 a3 a4 a5 l
  intros
  refine Ev.rounds ?_
  unfold w_BoxCounts.f
  refine Ev.cbind rfl (Ev.pos rfl (Ev.ite (fun h => Ev.ite (fun h2 => ?_) (fun h2 => ?_)) (fun h => ?_)))
  · exact cnt_j0 ⟨⟨a0, a1, a2⟩, ⟨a3, a4, a5⟩⟩ l true (by simp)
  · exact cnt_j0 ⟨⟨a0, a1, a2⟩, ⟨a3, a4, a5⟩⟩ l _ (fun h => by have := of_decide_eq_false h; omega)
  · exact cnt_j0 ⟨⟨a0, a1, a2⟩, ⟨a3, a4, a5⟩⟩ l _ (fun h => by have := of_decide_eq_false h; omega)
end Go.Proofs.Ytmmdikhmlmoolaa.Pure
