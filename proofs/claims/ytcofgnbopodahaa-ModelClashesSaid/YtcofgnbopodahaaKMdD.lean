import Derived.Test.YtcofgnbopodahaaKMdC
import Derived.Test.YtcofgnbopodahaaKMdW
import Derived.Test.YtcofgnbopodahaaKQAx11
import Derived.Test.YtcofgnbopodahaaKQAx25
namespace Go.Proofs.Ytcofgnbopodahaa.Mp
open Go.RowKit Go.Proofs.Ytcofgnbopodahaa.QA Go.Proofs.YtcofgnbopodahaaW.PrintWords Go.Proofs.YtcofgnbopodahaaW.PrintLast Go.Proofs.YtcofgnbopodahaaW.PrintMore Go.Proofs.Ytcofgnbopodahaa.EvKit
set_option linter.unusedVariables false
set_option linter.unusedSimpArgs false
def inside (b : S43) (x : S68) : Bool := decide (b.f0.f0 ≤ x.f1.f0.f0) && (decide (b.f0.f1 ≤ x.f1.f0.f1) && (decide (b.f0.f2 ≤ x.f1.f0.f2) && (decide (x.f1.f1.f0 ≤ b.f1.f0) && (decide (x.f1.f1.f1 ≤ b.f1.f1) && decide (x.f1.f1.f2 ≤ b.f1.f2)))))
theorem in_loop (l : List S68) (b : S43) (c : List S65) (n : Int) (hl : l.length < 1000000) : ∀ i, i ≤ l.length → ∀ s : Bool, (c.length > 0 ∨ n = 0) → (((s && (l.drop i).all (inside b)) = true) → (decide ((c.length : Int) > 0) = decide (n > 0))) →
    Ev (fun k => w_ModelClashes.l1 k l c n s (i : Int) b.f0.f0 b.f0.f1 b.f0.f2 b.f1.f0 b.f1.f1 b.f1.f2) true := by
  refine up_to l.length ?_
  intro i hi ih s hc hin
  refine Ev.succ ?_
  simp only [w_ModelClashes.l1]
  by_cases hlt : i < l.length
  · have hd := drop_cons l i z68 hlt
    rw [rd_at]
    obtain ⟨x, hx⟩ : ∃ x, x = l.getD i z68 := ⟨_, rfl⟩
    rw [← hx] at hd ⊢
    rw [hd, List.all_cons, ← Bool.and_assoc] at hin
    have again : ∀ t : Bool, t = (s && inside b x) → Ev (fun k => w_ModelClashes.j4 k l c n t (i : Int) b.f0.f0 b.f0.f1 b.f0.f2 b.f1.f0 b.f1.f1 b.f1.f2) true := by
      intro t ht
      refine Ev.succ ?_
      simp only [w_ModelClashes.j4]
      rw [wi (by omega)]
      exact ih hlt t hc (by rw [ht]; exact hin)
    refine Ev.pos (by omega) (Ev.pos (by omega) ?_)
    cases s with
    | false => exact Ev.neg (by simp) (again false rfl)
    | true =>
      refine Ev.pos rfl ?_
      by_cases c0 : b.f0.f0 ≤ x.f1.f0.f0
      · refine Ev.pos c0 ?_
        by_cases c1 : b.f0.f1 ≤ x.f1.f0.f1
        · refine Ev.pos c1 ?_
          by_cases c2 : b.f0.f2 ≤ x.f1.f0.f2
          · refine Ev.pos c2 ?_
            by_cases c3 : x.f1.f1.f0 ≤ b.f1.f0
            · refine Ev.pos c3 ?_
              by_cases c4 : x.f1.f1.f1 ≤ b.f1.f1
              · exact Ev.pos c4 (again _ (by simp [inside, c0, c1, c2, c3, c4]))
              · exact Ev.neg c4 (again _ (by simp [inside, c4]))
            · exact Ev.neg c3 (again _ (by simp [inside, c3]))
          · exact Ev.neg c2 (again _ (by simp [inside, c2]))
        · exact Ev.neg c1 (again _ (by simp [inside, c1]))
      · exact Ev.neg c0 (again _ (by simp [inside, c0]))
  · rw [List.drop_eq_nil_of_le (by omega)] at hin
    have e5 : ∀ t : Bool, t = true → Ev (fun k => w_ModelClashes.j5 k t) true := fun t ht => by
      refine Ev.succ ?_
      simp only [w_ModelClashes.j5]
      exact Ev.const (by rw [ht])
    refine Ev.neg (by omega) ?_
    have last : Ev (fun k => if s = true then w_ModelClashes.j5 k (decide ((c.length : Int) > 0) == decide (n > 0)) else w_ModelClashes.j5 k true) true := by
      cases s with
      | false => exact Ev.neg (by simp) (e5 _ rfl)
      | true => exact Ev.pos rfl (e5 _ (by rw [hin rfl]; simp))
    by_cases hp : (c.length : Int) > 0
    · exact Ev.pos hp last
    · have : n = 0 := hc.resolve_left (by omega)
      exact Ev.neg hp (Ev.pos this last)
theorem with_loop (l : List S68) (a : ByteArray) (c : List S65) (e : Int) (W : List S68) (n g : Int) (b : S43) (hW : W.length < 1000000) (hk : ∀ x ∈ W, keepB a x = true)
    (next : e = 0 → g = 0 → Ev (fun k => w_ModelClashes.l1 k l c n true 0 b.f0.f0 b.f0.f1 b.f0.f2 b.f1.f0 b.f1.f1 b.f1.f2) true) :
    ∀ i, i ≤ W.length → Ev (fun k => w_ModelClashes.l0 k l a c e W n g (i : Int) b.f0.f0 b.f0.f1 b.f0.f2 b.f1.f0 b.f1.f1 b.f1.f2) true := by
  refine up_to W.length ?_
  intro i hi ih
  refine Ev.succ ?_
  simp only [w_ModelClashes.l0]
  by_cases hlt : i < W.length
  · have hm := hk _ (rd_mem hlt)
    refine Ev.pos (by omega) (Ev.pos (by omega) (Ev.neg (fun h => ?_) ?_))
    · unfold keepB at hm; rw [h] at hm; simp at hm
    · rw [wi (by omega)]; exact ih hlt
  · refine Ev.neg (by omega) ?_
    have j2 : ∀ t : Bool, (t = false → e = 0 ∧ g = 0) → Ev (fun k => w_ModelClashes.j2 k l c n t b.f0.f0 b.f0.f1 b.f0.f2 b.f1.f0 b.f1.f1 b.f1.f2) true := by
      intro t ht
      refine Ev.succ ?_
      simp only [w_ModelClashes.j2]
      cases t with
      | true => exact Ev.pos rfl (Ev.now _)
      | false => exact Ev.neg (by simp) (next (ht rfl).1 (ht rfl).2)
    by_cases he : e = 0
    · exact Ev.pos he (j2 _ fun h => ⟨he, by simpa using h⟩)
    · exact Ev.neg he (j2 _ fun h => by cases h)
theorem Clashes_core (l : List S68) (b : S43) (a : ByteArray) : Ev (fun k => w_ModelClashes.f k l b.f0.f0 b.f0.f1 b.f0.f2 b.f1.f0 b.f1.f1 b.f1.f2 a) true := by
  obtain ⟨s0, hs0, hp0⟩ := small_ev l 10 (by decide)
  unfold w_ModelClashes.f
  refine Ev.bind awake_ev (Ev.pos rfl (Ev.bind hs0 ?_))
  have j0 : ∀ t : Bool, (t = false → l.length ≤ 10) → Ev (fun k => w_ModelClashes.j0 k l a t b.f0.f0 b.f0.f1 b.f0.f2 b.f1.f0 b.f1.f1 b.f1.f2) true := by
    intro t ht
    refine Ev.succ ?_
    simp only [w_ModelClashes.j0]
    cases t with
    | true => exact Ev.pos rfl (Ev.now _)
    | false =>
      have hl := ht rfl
      refine Ev.neg (by simp) (Ev.bind (Clashes_ev l) (Ev.bind (Without_ev l a) ?_))
      by_cases hc : chkE l = 0
      · have e1 : clashP l = (allC l 0, 0) := if_pos hc
        have e2 : withP l a = (l.filter (keepB a), 0) := if_pos hc
        have hW : (l.filter (keepB a)).length < 1000000 := by
          have := List.length_filter_le (keepB a) l; omega
        rw [e1, e2]
        by_cases hr : readyE l b 3 = 0
        · have h := ready_of hr
          refine Ev.bind (Volume_ev hr) (Ev.pos rfl (with_loop l a _ _ _ _ _ b hW (fun x hx => (List.mem_filter.1 hx).2) (fun _ _ => ?_) 0 (Nat.zero_le _)))
          refine in_loop l b _ _ (by omega) 0 (Nat.zero_le _) true ?_ ?_
          · rcases Classical.em (Md.cnt (l.map ev) (bx b) 3 = 0) with h0 | h0
            · exact .inr h0
            · have hpos : 0 < Md.cnt (l.map ev) (bx b) 3 := by have := Md.cnt_nonneg (l.map ev) (bx b) 3; omega
              obtain ⟨x, y, z, h1, h2⟩ := (Md.cnt_pos _ _ _).1 hpos
              exact .inl (List.length_pos_iff.2 (clash_of_cell h.o h2))
          · intro hin
            rw [Bool.true_and, List.drop_zero, List.all_eq_true] at hin
            rw [decide_eq_decide]
            constructor
            · intro hq
              have hq2 : ((allC l 0).length : Int) > 0 := hq
              have hne : allC l 0 ≠ [] := List.length_pos_iff.1 (by omega)
              obtain ⟨x, hx, p0, p1, p2, hb, hs⟩ := cell_of_clash h.o hne
              have hi := hin x hx
              simp only [inside, Bool.and_eq_true, decide_eq_true_eq] at hi
              obtain ⟨q0, q1, q2, q3, q4, q5⟩ := (Md.hasB_iff _ _ _ _).1 hb
              simp only [bx] at q0 q1 q2 q3 q4 q5
              exact (Md.cnt_pos _ _ _).2 ⟨p0, p1, p2, (Md.hasB_iff _ _ _ _).2 ⟨by simp only [bx]; omega, by simp only [bx]; omega, by simp only [bx]; omega, by simp only [bx]; omega, by simp only [bx]; omega, by simp only [bx]; omega⟩, hs⟩
            · intro hq
              obtain ⟨x, y, z, h1, h2⟩ := (Md.cnt_pos _ _ _).1 hq
              have := List.length_pos_iff.2 (clash_of_cell h.o h2)
              show ((allC l 0).length : Int) > 0
              omega
        · exact Ev.bind (Volume_no hr) (Ev.pos rfl (with_loop l a _ _ _ _ _ b hW (fun x hx => (List.mem_filter.1 hx).2) (fun _ h => absurd h hr) 0 (Nat.zero_le _)))
      · have e1 : clashP l = ([], chkE l) := if_neg hc
        have e2 : withP l a = ([], chkE l) := if_neg hc
        rw [e1, e2]
        have hr : readyE l b 3 ≠ 0 := fun h => hc (by
          have q := ready_of h
          exact (chkE0 l).2 ⟨q.n, q.o⟩)
        exact Ev.bind (Volume_no hr) (Ev.pos rfl (with_loop l a _ _ _ _ _ b (by simp) (fun x hx => by simp at hx) (fun h _ => absurd h hc) 0 (Nat.zero_le _)))
  cases s0 with
  | false => exact Ev.neg (by simp) (j0 true fun h => by cases h)
  | true => exact Ev.pos rfl (j0 _ fun _ => by have := (hp0 rfl).1; omega)
end Go.Proofs.Ytcofgnbopodahaa.Mp
