/-
  Hulls: the reference's Flat, Hull, Same.
-/
import Derived.Test.YtcembjgpcbodcaaZHl3
import Derived.Test.YtcembjgpcbodcaaZQAx17
import Derived.Test.YtcembjgpcbodcaaZQAx19
import Derived.Test.YtcembjgpcbodcaaZQAx18
import Derived.Test.YtcembjgpcbodcaaZQAx9
import Derived.Test.YtcembjgpcbodcaaZQAx11
namespace Go.Proofs.Ytcembjgpcbodcaa.Hl
open Go.RowKit Go.Proofs.Ytcembjgpcbodcaa.QA Go.Proofs.YtcembjgpcbodcaaW.PrintWords Go.Proofs.Ytcembjgpcbodcaa.EvKit
set_option linter.unusedVariables false
set_option linter.unusedSimpArgs false
theorem ori_eq {a b c : S23} (ha : Pg.okP a) (hb : Pg.okP b) (hc : Pg.okP c) : Pg.ori a b c = 0 ↔ D a b c = 0 := by
  have e : Pg.oriN a b c = D a b c := Pg.oriN_is ha hb hc
  unfold Pg.ori Pg.sgn
  rw [e]
  split
  · constructor <;> intro h <;> omega
  · split <;> constructor <;> intro h <;> omega
theorem ori_lt {a b c : S23} (ha : Pg.okP a) (hb : Pg.okP b) (hc : Pg.okP c) : Pg.ori a b c < 0 ↔ D a b c < 0 := by
  have e : Pg.oriN a b c = D a b c := Pg.oriN_is ha hb hc
  unfold Pg.ori Pg.sgn
  rw [e]
  split
  · constructor <;> intro h <;> omega
  · split <;> constructor <;> intro h <;> omega
theorem eq_iff (a b : S23) : (a.f0 == b.f0 && (a.f1 == b.f1)) = true ↔ a = b := by
  obtain ⟨a0, a1⟩ := a
  obtain ⟨b0, b1⟩ := b
  simp
/-! ### Same -/
theorem same_l0 (l : List S23) (hl : l.length ≤ 1000000) : ∀ m i, l.length = i + m → Ev (fun k => r_Same.l0 k l l (i : Int)) true := by
  intro m
  induction m with
  | zero =>
    intro i hi
    refine Ev.succ ?_
    simp only [r_Same.l0]
    exact Ev.neg (by omega) (Ev.now _)
  | succ m ih =>
    intro i hi
    refine Ev.succ ?_
    simp only [r_Same.l0]
    rw [stp (by omega)]
    exact Ev.pos (by omega) (Ev.pos (by omega) (Ev.pos (by omega) (Ev.neg (by simp) (ih (i + 1) (by omega)))))
theorem same_ev (l : List S23) (hl : l.length ≤ 1000000) : Ev (fun k => r_Same.f k l l) true := by
  unfold r_Same.f
  exact Ev.pos rfl (same_l0 l hl l.length 0 (by omega))
/-! ### Flat -/
theorem flat_l1 (L : List S23) (hl : L.length ≤ 1000000) (a b : S23) (at_ : Nat) (ha : L.getD 0 z23 = a) (hb : L.getD at_ z23 = b) (hat : at_ < L.length) : ∀ m j, L.length = j + m → Ev (fun k => r_Flat.l1 k L (at_ : Int) (j : Int)) ((L.drop j).all fun q => decide (Pg.ori a b q = 0)) := by
  have h0 : rd_T23 L 0 = a := by rw [← ha]; exact pt_get L 0
  intro m
  induction m with
  | zero =>
    intro j hj
    refine Ev.succ ?_
    simp only [r_Flat.l1]
    rw [List.drop_of_length_le (by omega)]
    exact Ev.neg (by omega) (Ev.now _)
  | succ m ih =>
    intro j hj
    refine Ev.succ ?_
    simp only [r_Flat.l1]
    rw [drop_cons L j z23 (by omega), List.all_cons, pt_get L j, pt_get L at_, h0, hb, stp (i := j) (by omega)]
    refine Ev.pos (by omega) (Ev.pos (by omega) (Ev.pos (by omega) (Ev.pos (by omega) (Ev.pos (by omega) (Ev.cbind (Pg.rori_is a b _) ?_)))))
    by_cases h : Pg.ori a b (L.getD j z23) = 0
    · rw [decide_eq_true h, Bool.true_and]; exact Ev.pos h (ih (j + 1) (by omega))
    · rw [decide_eq_false h, Bool.false_and]; exact Ev.neg h (Ev.now _)
theorem flat_l0 (L : List S23) (hl : L.length ≤ 1000000) (hok : ∀ q ∈ L, Pg.okP q) (a : S23) (ha : L.getD 0 z23 = a) : ∀ m i, L.length = i + m → (∀ q ∈ L.take i, q = a) → ∃ b, Ev (fun k => r_Flat.l0 k L (i : Int)) b ∧ (b = true ↔ FlatP L) := by
  have h0 : rd_T23 L 0 = a := by rw [← ha]; exact pt_get L 0
  intro m
  induction m with
  | zero =>
    intro i hi ht
    rw [List.take_of_length_le (by omega)] at ht
    refine ⟨true, Ev.succ ?_, ?_⟩
    · simp only [r_Flat.l0]
      refine Ev.neg (by omega) (Ev.succ ?_)
      simp only [r_Flat.j1]
      refine Ev.succ ?_
      simp only [r_Flat.l1]
      exact Ev.neg (by omega) (Ev.now _)
    · refine ⟨fun _ p hp q hq r hr => ?_, fun _ => rfl⟩
      rw [ht p hp, ht q hq]
      exact D_aab _ _
  | succ m ih =>
    intro i hi ht
    have hmem := mem_get (L := L) (i := i) (by omega)
    have htake : L.take (i + 1) = L.take i ++ [L.getD i z23] := by
      rw [List.take_add_one, List.getElem?_eq_getElem (by omega), List.getD_eq_getElem?_getD, List.getElem?_eq_getElem (by omega)]
      rfl
    by_cases he : L.getD i z23 = a
    · obtain ⟨b, h1, h2⟩ := ih (i + 1) (by omega) (fun q hq => by
        rw [htake] at hq
        rcases List.mem_append.1 hq with hq | hq
        · exact ht q hq
        · rw [List.mem_singleton.1 hq]; exact he)
      refine ⟨b, Ev.succ ?_, h2⟩
      simp only [r_Flat.l0]
      rw [pt_get L i, h0, stp (i := i) (by omega)]
      exact Ev.pos (by omega) (Ev.pos (by omega) (Ev.pos (by omega) (Ev.pos ((eq_iff _ _).2 he) h1)))
    · refine ⟨(L.drop i).all fun q => decide (Pg.ori a (L.getD i z23) q = 0), Ev.succ ?_, ?_⟩
      · simp only [r_Flat.l0]
        rw [pt_get L i, h0]
        refine Ev.pos (by omega) (Ev.pos (by omega) (Ev.pos (by omega) (Ev.neg (fun h => he ((eq_iff _ _).1 h)) (Ev.succ ?_))))
        simp only [r_Flat.j1]
        exact flat_l1 L hl a _ i ha rfl (by omega) (m + 1) i hi
      · have haL : a ∈ L := by rw [← ha]; exact mem_get (by omega)
        rw [flat_iff haL hmem (fun e => he e.symm), List.all_eq_true]
        constructor
        · intro h q hq
          rw [← List.take_append_drop i L] at hq
          rcases List.mem_append.1 hq with hq | hq
          · rw [ht q hq]; exact D_aba _ _
          · have := h q hq
            rw [decide_eq_true_eq] at this
            exact (ori_eq (hok a haL) (hok _ hmem) (hok q (List.mem_of_mem_drop hq))).1 this
        · intro h q hq
          rw [decide_eq_true_eq]
          exact (ori_eq (hok a haL) (hok _ hmem) (hok q (List.mem_of_mem_drop hq))).2 (h q (List.mem_of_mem_drop hq))
theorem flat_ev (L : List S23) (hl : L.length ≤ 1000000) (hok : ∀ q ∈ L, Pg.okP q) : ∃ b, Ev (fun k => r_Flat.f k L) b ∧ (b = true ↔ FlatP L) := by
  unfold r_Flat.f
  exact flat_l0 L hl hok _ rfl L.length 0 (by omega) (by simp)
/-! ### Hull -/
theorem far_is {a b : S23} (ha : Pg.okP a) (hb : Pg.okP b) : r_far.f a.f0 a.f1 b.f0 b.f1 = some (far a b) := by
  unfold Pg.okP at ha hb
  unfold r_far.f far
  have m1 := Pg.mul_bound (x := a.f0 - b.f0) (y := a.f0 - b.f0) (M := 2000000) (N := 2000000) (by omega) (by omega) (by omega) (by omega)
  have m2 := Pg.mul_bound (x := a.f1 - b.f1) (y := a.f1 - b.f1) (M := 2000000) (N := 2000000) (by omega) (by omega) (by omega) (by omega)
  rw [w64 (n := a.f0 - b.f0) (by omega) (by omega), w64 (n := a.f1 - b.f1) (by omega) (by omega), w64 (n := (a.f0 - b.f0) * (a.f0 - b.f0)) (by omega) (by omega), w64 (n := (a.f1 - b.f1) * (a.f1 - b.f1)) (by omega) (by omega), w64 (by omega) (by omega)]
theorem hull_l2 (L out : List S23) (hl : L.length ≤ 100000) (hok : ∀ q ∈ L, Pg.okP q) (f at_ : S23) (ha : Pg.okP at_) (R : List S23) : ∀ m i (b : S23), L.length = i + m → Pg.okP b →
    Ev (fun k => if ((best at_ b (L.drop i)).f0 == f.f0 && ((best at_ b (L.drop i)).f1 == f.f1)) = true then (some out) else (if out.length < 8796093022208 then (r_Hull.l1 k L (out ++ [(⟨(best at_ b (L.drop i)).f0, (best at_ b (L.drop i)).f1⟩ : S23)]) f.f0 f.f1) else none)) R →
    Ev (fun k => r_Hull.l2 k L out (i : Int) f.f0 f.f1 at_.f0 at_.f1 b.f0 b.f1) R := by
  intro m
  induction m with
  | zero =>
    intro i b hi hb hR
    refine Ev.succ ?_
    simp only [r_Hull.l2]
    rw [List.drop_of_length_le (by omega)] at hR
    exact Ev.neg (by omega) hR
  | succ m ih =>
    intro i b hi hb hR
    have hq := hok _ (mem_get (L := L) (i := i) (by omega))
    rw [drop_cons L i z23 (by omega)] at hR
    refine Ev.succ ?_
    simp only [r_Hull.l2]
    rw [pt_get]
    generalize L.getD i z23 = q at hq hR ⊢
    have step : best at_ b (q :: L.drop (i + 1)) = best at_ (bstep at_ b q) (L.drop (i + 1)) := rfl
    rw [step] at hR
    refine Ev.pos (by omega) (Ev.pos (by omega) ?_)
    by_cases h1 : q = at_
    · refine Ev.pos ((eq_iff _ _).2 h1) ?_
      rw [stp (by omega)]
      have e : bstep at_ b q = b := if_pos h1
      rw [e] at hR
      exact ih (i + 1) b (by omega) hb hR
    · have bs : bstep at_ b q = if b = at_ ∨ D at_ b q < 0 ∨ D at_ b q = 0 ∧ far at_ b < far at_ q then q else b := if_neg h1
      have kt : bstep at_ b q = q → Ev (fun k => r_Hull.l2 k L out ((i + 1 : Nat) : Int) f.f0 f.f1 at_.f0 at_.f1 q.f0 q.f1) R := fun hc => by
        rw [hc] at hR
        exact ih (i + 1) q (by omega) hq hR
      have kf : bstep at_ b q = b → Ev (fun k => r_Hull.l2 k L out ((i + 1 : Nat) : Int) f.f0 f.f1 at_.f0 at_.f1 b.f0 b.f1) R := fun hc => by
        rw [hc] at hR
        exact ih (i + 1) b (by omega) hb hR
      rw [stp (by omega)]
      refine Ev.neg (fun h => h1 ((eq_iff _ _).1 h)) (Ev.cbind (Pg.rori_is at_ b q) ?_)
      by_cases h2 : b = at_
      · exact Ev.pos ((eq_iff _ _).2 h2) (kt (by rw [bs, if_pos (.inl h2)]))
      · refine Ev.neg (fun h => h2 ((eq_iff _ _).1 h)) ?_
        by_cases h3 : D at_ b q < 0
        · exact Ev.pos ((ori_lt ha hb hq).2 h3) (kt (by rw [bs, if_pos (.inr (.inl h3))]))
        · refine Ev.neg (fun h => h3 ((ori_lt ha hb hq).1 h)) ?_
          by_cases h4 : D at_ b q = 0
          · refine Ev.pos ((ori_eq ha hb hq).2 h4) (Ev.cbind (far_is ha hq) (Ev.cbind (far_is ha hb) ?_))
            by_cases h5 : far at_ b < far at_ q
            · exact Ev.pos h5 (kt (by rw [bs, if_pos (.inr (.inr ⟨h4, h5⟩))]))
            · exact Ev.neg h5 (kf (by rw [bs, if_neg (by rintro (h | h | h); exact h2 h; exact h3 h; exact h5 h.2)]))
          · refine Ev.neg (fun h => h4 ((ori_eq ha hb hq).1 h)) (kf ?_)
            rw [bs, if_neg (by rintro (h | h | h); exact h2 h; exact h3 h; exact h4 h.1)]
theorem pigeon {α : Type} [DecidableEq α] : ∀ (l m : List α), l.Nodup → (∀ a ∈ l, a ∈ m) → l.length ≤ m.length
  | [], _, _, _ => Nat.zero_le _
  | a :: l, m, hn, hs => by
    obtain ⟨h1, h2⟩ := List.nodup_cons.1 hn
    have ha := hs a (by simp)
    have := pigeon l (m.erase a) h2 (fun b hb => (List.mem_erase_of_ne (fun e => h1 (by rw [← e]; exact hb))).2 (hs b (by simp [hb])))
    rw [List.length_erase_of_mem ha] at this
    have := List.length_pos_of_mem ha
    rw [List.length_cons]; omega
/-- What is known of a list that is not on one line. -/
structure Hul (L : List S23) (a z : S23) : Prop where
  ch : Chains (srt L) a z
  ne : a ≠ z
  five : ¬ (low (srt L)).length + (upp (srt L)).length < 5
  least : ∀ q ∈ srt L, q = a ∨ lt a q
  ain : a ∈ srt L
theorem hul_of (L : List S23) (hf : ¬ FlatP L) : ∃ a z, Hul L a z := by
  cases hS : srt L with
  | nil =>
    exfalso
    apply hf
    intro p hp
    rw [← srt_mem, hS] at hp; cases hp
  | cons a l =>
    have hs := srt_inc L
    rw [hS] at hs
    obtain ⟨z, hz, hc⟩ := chains a l hs
    have hfS : ¬ FlatP (a :: l) := fun h => hf (fun p hp q hq r hr => by
      rw [← srt_mem, hS] at hp hq hr
      exact h p hp q hq r hr)
    have hzm : z ∈ a :: l := List.mem_of_getLast? hz
    have hne : a ≠ z := fun e => by
      apply hfS
      intro p hp q hq r hr
      have one : ∀ q ∈ a :: l, q = a := fun q hq => by
        rcases head_least hs q hq with e1 | e1
        · exact e1
        · exfalso
          have e2 := snoc_of hz
          rw [e2] at hs hq
          rcases List.mem_append.1 hq with hq | hq
          · have := (List.pairwise_append.1 hs).2.2 q hq z (by simp)
            rw [← e] at this
            exact lt_irrefl _ (lt_trans e1 this)
          · rw [List.mem_singleton.1 hq, ← e] at e1
            exact lt_irrefl _ e1
      rw [one p hp, one q hq]
      exact D_aab _ _
    refine ⟨a, z, ?_⟩
    exact ⟨by rw [hS]; exact hc, hne, fun h => by rw [hS] at h; exact hfS ((flat_chains _ a z hc (by simp) hzm hne).1 h), fun q hq => by rw [hS] at hq; exact head_least hs q hq, by rw [hS]; simp⟩
theorem crn_cy (L : List S23) (a z : S23) (h : Hul L a z) : Cy (srt L) (crn (srt L)) ∧ ∃ t, crn (srt L) = a :: t := by
  obtain ⟨t, e⟩ := crn_head h.ch h.ne
  refine ⟨cy_of e ?_ (cyc _ _ _ h.ch) (crn_nodup _ _ _ h.ch), t, e⟩
  have h5 := h.five
  have h2 := two_of h.ch.lhead h.ch.llast h.ne
  have h3 := two_of h.ch.uhead h.ch.ulast (fun e => h.ne e.symm)
  unfold crn
  rw [List.length_append, List.length_dropLast, List.length_dropLast]
  omega
theorem crn_len (L : List S23) (a z : S23) (h : Hul L a z) : (crn (srt L)).length ≤ L.length :=
  pigeon _ _ (crn_nodup _ _ _ h.ch) (fun q hq => (srt_mem L q).1 (crn_mem h.ch h.ne q hq))
theorem hull_l1 (L : List S23) (hl : L.length ≤ 1000) (hok : ∀ q ∈ L, Pg.okP q) (a z : S23) (h : Hul L a z) : ∀ m i, (crn (srt L)).length = i + m → 1 ≤ i → Ev (fun k => r_Hull.l1 k L ((crn (srt L)).take i) a.f0 a.f1) (crn (srt L)) := by
  obtain ⟨hc, t, et⟩ := crn_cy L a z h
  have hK := crn_len L a z h
  generalize hC : crn (srt L) = C at hc hK et
  have hle : ∀ i, i ≤ C.length → (C.take i).length = i := fun i hi => by rw [List.length_take]; omega
  have hmem : ∀ i, i < C.length → at_ C i ∈ L := fun i hi => by
    have := (hc.ne i hi).2.1
    exact (srt_mem L _).1 this
  have nel : ∀ i, i < C.length → NE L (at_ C i) (at_ C (nx C i)) := fun i hi => ne_mem (fun q => srt_mem L q) (hc.ne i hi)
  have last : ∀ i, 1 ≤ i → i ≤ C.length → rd_T23 (C.take i) (((C.take i).length : Int) - 1) = at_ C (i - 1) := fun i h1 h2 => by
    rw [hle i h2, show (i : Int) - 1 = ((i - 1 : Nat) : Int) by omega, pt_get]
    unfold at_
    rw [List.getD_eq_getElem?_getD, List.getD_eq_getElem?_getD, List.getElem?_take, if_pos (by omega)]
    rfl
  have go : ∀ i, 1 ≤ i → i ≤ C.length → Ev (fun k => if ((at_ C (nx C (i - 1))).f0 == a.f0 && ((at_ C (nx C (i - 1))).f1 == a.f1)) = true then (some (C.take i)) else (if (C.take i).length < 8796093022208 then (r_Hull.l1 k L (C.take i ++ [(⟨(at_ C (nx C (i - 1))).f0, (at_ C (nx C (i - 1))).f1⟩ : S23)]) a.f0 a.f1) else none)) C → Ev (fun k => r_Hull.l1 k L (C.take i) a.f0 a.f1) C := fun i h1 h2 hR => by
    refine Ev.succ ?_
    simp only [r_Hull.l1]
    have hlen := hle i h2
    rw [w64 (n := ((C.take i).length : Int) - 1) (by omega) (by omega), last i h1 h2]
    refine Ev.pos (by omega) (Ev.pos (by omega) (Ev.pos (by omega) ?_))
    have hat := hok _ (hmem (i - 1) (by omega))
    refine hull_l2 L (C.take i) (by omega) hok a (at_ C (i - 1)) hat C L.length 0 _ (by omega) hat ?_
    rw [List.drop_zero, best_is (nel (i - 1) (by omega)) L _ (fun q hq => hq) (.inl rfl) (nel (i - 1) (by omega)).2.2.1]
    exact hR
  intro m
  induction m with
  | zero =>
    intro i hi h1
    refine go i h1 (by omega) ?_
    have e : nx C (i - 1) = 0 := by unfold nx; rw [show i - 1 + 1 = C.length by omega, Nat.mod_self]
    have e0 : at_ C 0 = a := by unfold at_; rw [et]; rfl
    rw [e, e0]
    refine Ev.pos ((eq_iff _ _).2 rfl) ?_
    rw [List.take_of_length_le (by omega)]
    exact Ev.now _
  | succ m ih =>
    intro i hi h1
    refine go i h1 (by omega) ?_
    have e : nx C (i - 1) = i := by unfold nx; rw [show i - 1 + 1 = i by omega, Nat.mod_eq_of_lt (by omega)]
    have e0 : at_ C 0 = a := by unfold at_; rw [et]; rfl
    rw [e]
    refine Ev.neg (fun hh => ?_) (Ev.pos (by have := hle i (by omega); omega) ?_)
    · have := (eq_iff _ _).1 hh
      rw [← e0] at this
      have := hc.inj i 0 (by omega) (by omega) this
      omega
    · have htake : C.take (i + 1) = C.take i ++ [at_ C i] := by
        unfold at_
        rw [List.take_add_one, List.getElem?_eq_getElem (by omega), List.getD_eq_getElem?_getD, List.getElem?_eq_getElem (by omega)]
        rfl
      have := ih (i + 1) (by omega) (by omega)
      rw [htake] at this
      exact this
theorem less_ev (a b : S23) : ∃ t, Ev (fun k => r_Less.f k a.f0 a.f1 b.f0 b.f1) t ∧ (t = true ↔ lt a b) := by
  have hj : ∀ b, Ev (fun k => r_Less.j0 k b) b := fun b => Ev.step (f := fun _ => some b) (fun _ => rfl) (Ev.now _)
  refine ⟨decide (a.f0 < b.f0) || (decide (a.f0 = b.f0) && decide (a.f1 < b.f1)), ?_, by unfold lt; simp⟩
  unfold r_Less.f
  refine Ev.ite (fun h => Ev.eq (hj _) ?_) (fun h => Ev.ite (fun h2 => Ev.eq (hj _) ?_) (fun h2 => Ev.eq (hj _) ?_))
  · simp [h]
  · simp [h, h2]
  · simp [h, h2]
theorem hull_l0 (L : List S23) (hl : L.length ≤ 1000) (a : S23) (hmin : ∀ q ∈ L, q = a ∨ lt a q) (hin : a ∈ L) (R : List S23) (hR : Ev (fun k => r_Hull.l1 k L [a] a.f0 a.f1) R) : ∀ m i (f : S23), L.length = i + m → f ∈ L → (∀ q ∈ L.take i, q = f ∨ lt f q) → Ev (fun k => r_Hull.l0 k L (i : Int) f.f0 f.f1) R := by
  intro m
  induction m with
  | zero =>
    intro i f hi hf ht
    rw [List.take_of_length_le (by omega)] at ht
    have e : f = a := by
      rcases hmin f hf with h | h
      · exact h
      · rcases ht a hin with h2 | h2
        · exact h2.symm
        · exact absurd (lt_trans h h2) (lt_irrefl _)
    subst e
    refine Ev.succ ?_
    simp only [r_Hull.l0]
    exact Ev.neg (by omega) hR
  | succ m ih =>
    intro i f hi hf ht
    have hmem := mem_get (L := L) (i := i) (by omega)
    have htake : L.take (i + 1) = L.take i ++ [L.getD i z23] := by
      rw [List.take_add_one, List.getElem?_eq_getElem (by omega), List.getD_eq_getElem?_getD, List.getElem?_eq_getElem (by omega)]
      rfl
    obtain ⟨t, h1, h2⟩ := less_ev (L.getD i z23) f
    refine Ev.succ ?_
    simp only [r_Hull.l0]
    rw [pt_get]
    refine Ev.pos (by omega) (Ev.pos (by omega) (Ev.bind h1 ?_))
    have next : ∀ g : S23, g ∈ L → (∀ q ∈ L.take (i + 1), q = g ∨ lt g q) → Ev (fun k => r_Hull.l0 k L ((i + 1 : Nat) : Int) g.f0 g.f1) R := fun g hg hq => ih (i + 1) g (by omega) hg hq
    rw [stp (by omega)]
    by_cases hlt : lt (L.getD i z23) f
    · refine Ev.pos (h2.2 hlt) (next _ hmem (fun q hq => ?_))
      rw [htake] at hq
      rcases List.mem_append.1 hq with hq | hq
      · rcases ht q hq with rfl | h
        · exact .inr hlt
        · exact .inr (lt_trans hlt h)
      · exact .inl (List.mem_singleton.1 hq)
    · refine Ev.neg (fun h => hlt (h2.1 h)) (next f hf (fun q hq => ?_))
      rw [htake] at hq
      rcases List.mem_append.1 hq with hq | hq
      · exact ht q hq
      · rw [List.mem_singleton.1 hq]
        rcases lt_tri f (L.getD i z23) with h | h | h
        · exact .inr h
        · exact .inl h.symm
        · exact absurd h hlt
theorem rhull_ev (L : List S23) (hl : L.length ≤ 1000) (hok : ∀ q ∈ L, Pg.okP q) (a z : S23) (h : Hul L a z) : Ev (fun k => r_Hull.f k L) (crn (srt L)) := by
  unfold r_Hull.f
  have haL := (srt_mem L a).1 h.ain
  have hpos := List.length_pos_of_mem haL
  obtain ⟨hc, t, et⟩ := crn_cy L a z h
  have h1 := hull_l1 L hl hok a z h ((crn (srt L)).length - 1) 1 (by have := hc.three; omega) (Nat.le_refl _)
  have e1 : (crn (srt L)).take 1 = [a] := by rw [et]; rfl
  rw [e1] at h1
  have e0 : rd_T23 L 0 = L.getD 0 z23 := pt_get L 0
  rw [e0]
  exact Ev.pos (by omega) (hull_l0 L hl a (fun q hq => h.least q ((srt_mem L q).2 hq)) haL _ h1 L.length 0 _ (by omega) (mem_get (by omega)) (by simp))
end Go.Proofs.Ytcembjgpcbodcaa.Hl
