import Derived.Test.YtkeomlmlimkebaaZRp7
import Derived.Test.YtkeomlmlimkebaaZQAx18
import Derived.Test.YtkeomlmlimkebaaZQAx9
import Derived.Test.YtkeomlmlimkebaaZQAx5
import Derived.Test.YtkeomlmlimkebaaZQAx4
namespace Go.Proofs.Ytkeomlmlimkebaa.Rq
open Go.RowKit Go.Proofs.Ytkeomlmlimkebaa.QA Go.Proofs.YtkeomlmlimkebaaW.PrintWords Go.Proofs.YtkeomlmlimkebaaW.PrintMore Go.Proofs.Ytkeomlmlimkebaa.EvKit Go.Proofs.Ytkeomlmlimkebaa.MapKit
set_option linter.unusedVariables false
set_option linter.unusedSimpArgs false
section
variable {F : List (List Int)} {p : Int} {U : List Int} {X : List Bool}
theorem check_same (F : List (List Int)) (p : Int) (U : List Int) (X : List Bool) (hrow : ∀ j, j < F.length → (F.getD j []).length < 1000000) : ∃ e, replace_Check.f F p U X = some e ∧ r_Check.f F p U X = some e := by
  unfold replace_Check.f r_Check.f
  by_cases h1 : F.length > 64 ∨ p > 64 ∨ p < 0
  · rw [if_pos h1, if_pos h1]; exact ⟨7, rfl, rfl⟩
  · rw [if_neg h1, if_neg h1]
    by_cases h2 : U.length ≠ F.length ∨ X.length ≠ F.length
    · rw [if_pos h2, if_pos h2]; exact ⟨1, rfl, rfl⟩
    · rw [if_neg h2, if_neg h2, if_pos hrow, if_pos hrow]
      by_cases h3 : anyU (badF p F U X) F.length 0 = true
      · rw [if_pos h3, if_pos h3]; exact ⟨1, rfl, rfl⟩
      · rw [if_neg h3, if_neg h3]
        have hlen : U.length = F.length := by
          by_cases h : U.length = F.length
          · exact h
          · exact (h2 (Or.inl h)).elim
        have hp : ∀ j, j < U.length → dupA U j = twA U j := by
          intro j hj
          have hb : badF p F U X j = false := by
            cases hq : badF p F U X j with
            | false => rfl
            | true => exact (h3 (any_at _ (by omega) hq)).elim
          unfold badF badR at hb
          simp only [Bool.or_eq_false_iff, Bool.and_eq_false_iff, Bool.not_eq_false', bne_eq_false_iff_eq, decide_eq_true_eq] at hb
          obtain ⟨⟨a1, a2⟩, _⟩ := hb
          unfold dupA twA
          congr 1
          rcases a2 with a2 | a2
          · rw [a2]; rfl
          · have h := ((incB_iff _ _).1 a1).2 _ a2
            rw [decide_eq_true h.1]
            exact bne_iff_ne.2 (by omega)
        have he : anyU (dupA U) U.length 0 = twB U := by
          unfold twB
          cases hq : anyU (twA U) U.length 0 with
          | true =>
            obtain ⟨j, _, h4, h5⟩ := (anyU_iff _ _ _).1 hq
            exact any_at _ (show j < U.length by omega) (by rw [hp j (by omega)]; exact h5)
          | false =>
            refine any_no _ fun j hj => ?_
            rw [hp j hj]
            cases hq2 : twA U j with
            | false => rfl
            | true => rw [any_at _ hj hq2] at hq; cases hq
        rw [he]
        by_cases h4 : twB U = true
        · rw [if_pos h4]; exact ⟨5, rfl, rfl⟩
        · rw [if_neg h4]; exact ⟨0, rfl, rfl⟩
theorem ru_l2 (hG : Good F p U X) {l3 : List Int} (hl : l3.length ≤ 1000) (c : Int) : ∀ (m j : Nat) (f : Nat), l3.length = j + m → f ≤ j →
    Ev (fun k => r_Refutes.l2 k l3 c (f : Int) (j : Int) F p U X) (decide (((f + ((l3.drop j).filter (freS U X)).length : Nat) : Int) < c)) := by
  have hN := hG.ok.n3
  have hn1 := hG.ok.n1
  have hn2 := hG.ok.n2
  intro m
  induction m with
  | zero =>
    intro j f hj hf
    refine Ev.succ ?_
    simp only [r_Refutes.l2]
    rw [List.drop_eq_nil_of_le (by omega)]
    exact Ev.neg (by omega) (Ev.now _)
  | succ m ih =>
    intro j f hj hf
    have ed := EvKit.drop_cons l3 j 0 (by omega)
    have h7 : ∀ f' : Nat, f' ≤ j + 1 → Ev (fun k => r_Refutes.l2 k l3 c (f' : Int) (wrap64 ((j : Int) + 1)) F p U X) (decide (((f' + ((l3.drop (j + 1)).filter (freS U X)).length : Nat) : Int) < c)) := by
      intro f' hf'
      rw [nxt64 (by omega)]
      exact ih (j + 1) f' (by omega) hf'
    have h6 := h7
    refine Ev.succ ?_
    simp only [r_Refutes.l2, rdN]
    refine Ev.pos (by omega) (Ev.pos (by omega) (Ev.bind (user_ref F p U X _ (by omega)) ?_))
    rw [ed, List.filter_cons]
    generalize l3.getD j 0 = x
    have e1 : wrap64 ((f : Int) + 1) = ((f + 1 : Nat) : Int) := nxt64 (by omega)
    have hfre : freS U X x = (decide (idxI U x < 0) || !(X.getD (idxI U x).toNat false)) := rfl
    refine Ev.ite (fun e => ?_) (fun e => ?_)
    · rw [e1, if_pos (by rw [hfre, decide_eq_true e]; rfl)]
      refine Ev.eq (h7 (f + 1) (by omega)) ?_
      rw [List.length_cons]
      congr 2
      omega
    · have hlt : idxI U x < (X.length : Int) := by
        rw [idx_usr] at e ⊢
        cases hu : Rp.usrF U x with
        | none => rw [hu] at e; exact absurd (show (-1 : Int) < 0 by decide) e
        | some u => have := hG.lt x u hu; dsimp only; omega
      refine Ev.pos (by omega) (Ev.pos hlt ?_)
      rw [show rdOf false X (idxI U x) = X.getD (idxI U x).toNat false from rfl]
      refine Ev.ite (fun e2 => ?_) (fun e2 => ?_)
      · rw [if_neg (by rw [hfre, decide_eq_false e, e2]; simp)]
        exact h6 f (by omega)
      · have e3 : X.getD (idxI U x).toNat false = false := by simpa using e2
        rw [e1, if_pos (by rw [hfre, decide_eq_false e, e3]; rfl)]
        refine Ev.eq (h6 (f + 1) (by omega)) ?_
        rw [List.length_cons]
        congr 2
        omega
theorem ru_l1 (hG : Good F p U X) {a1 : Int} {l2 l3 : List Int} (hl3 : l3.length ≤ 1000) {c f : Int} {i : Nat} (hi : i < l2.length) (hl2 : l2.length ≤ 1000) (h0 : 0 ≤ l2.getD i 0) (h1 : l2.getD i 0 < (F.length : Int)) {R : Bool} (hR : Ev (fun k => r_Refutes.l0 k a1 l2 l3 c f ((i + 1 : Nat) : Int) F p U X) R) : ∀ (m j : Nat), (F.getD (l2.getD i 0).toNat []).length = j + m →
    Ev (fun k => r_Refutes.l1 k a1 l2 l3 c f (i : Int) (j : Int) F p U X) (!(((F.getD (l2.getD i 0).toNat []).drop j).any fun x => !decide (x ∈ l3)) && R) := by
  have hr := hG.row (l2.getD i 0).toNat
  intro m
  induction m with
  | zero =>
    intro j hj
    refine Ev.succ ?_
    simp only [r_Refutes.l1, rdN]
    refine Ev.pos (by omega) (Ev.pos (by omega) (Ev.pos h0 (Ev.pos h1 ?_)))
    rw [show rd_L1 F (l2.getD i 0) = F.getD (l2.getD i 0).toNat [] from rfl]
    refine Ev.neg (by omega) ?_
    rw [List.drop_eq_nil_of_le (by omega), nxt64 (by omega)]
    exact hR
  | succ m ih =>
    intro j hj
    have ed := EvKit.drop_cons (F.getD (l2.getD i 0).toNat []) j 0 (by omega)
    refine Ev.succ ?_
    simp only [r_Refutes.l1, rdN]
    refine Ev.pos (by omega) (Ev.pos (by omega) (Ev.pos h0 (Ev.pos h1 ?_)))
    rw [show rd_L1 F (l2.getD i 0) = F.getD (l2.getD i 0).toNat [] from rfl]
    refine Ev.pos (by omega) (Ev.pos (by omega) (Ev.bind (rhas_ev _ _ (by omega)) ?_))
    rw [ed, List.any_cons]
    refine Ev.ite (fun e => ?_) (fun e => ?_)
    · rw [e, nxt64 (by omega)]
      exact ih (j + 1) (by omega)
    · have e2 : decide ((F.getD (l2.getD i 0).toNat []).getD j 0 ∈ l3) = false := by simpa using e
      rw [e2]
      exact Ev.now _
theorem ru_l0 (hG : Good F p U X) {a1 : Int} {l2 l3 : List Int} (hl2 : l2.length ≤ 1000) (hl3 : l3.length ≤ 1000) (hr : ∀ s ∈ l2, 0 ≤ s ∧ s < (F.length : Int)) : ∀ (m i c : Nat), l2.length = i + m → c ≤ i →
    Ev (fun k => r_Refutes.l0 k a1 l2 l3 (c : Int) 0 (i : Int) F p U X) ((l2.drop i).all (okSt F X l3) && decide ((l3.filter (freS U X)).length < c + ((l2.drop i).filter (clmS U a1)).length)) := by
  have hN := hG.ok.n3
  have hn1 := hG.ok.n1
  have hn2 := hG.ok.n2
  intro m
  induction m with
  | zero =>
    intro i c hi hc
    refine Ev.succ ?_
    simp only [r_Refutes.l0]
    rw [List.drop_eq_nil_of_le (by omega)]
    refine Ev.neg (by omega) ?_
    refine Ev.eq (ru_l2 hG hl3 (c : Int) l3.length 0 0 (by omega) (by omega)) ?_
    rw [List.drop_zero]
    show decide _ = (true && decide _)
    rw [Bool.true_and]
    exact decide_eq_decide.2 (by simp)
  | succ m ih =>
    intro i c hi hc
    have ed := EvKit.drop_cons l2 i 0 (by omega)
    have hs : l2.getD i 0 ∈ l2 := by
      rw [List.getD_eq_getElem?_getD, List.getElem?_eq_getElem (show i < l2.length by omega)]
      exact List.getElem_mem _
    obtain ⟨h0, h1⟩ := hr _ hs
    have hu := hG.use (l2.getD i 0).toNat (by omega)
    have h3 : ∀ c' : Nat, c' ≤ i + 1 → X.getD (l2.getD i 0).toNat false = false → Ev (fun k => r_Refutes.j3 k a1 l2 l3 (c' : Int) 0 (i : Int) F p U X) ((l2.drop i).all (okSt F X l3) && decide ((l3.filter (freS U X)).length < c' + ((l2.drop (i + 1)).filter (clmS U a1)).length)) := by
      intro c' hc' hx
      refine Ev.succ ?_
      simp only [r_Refutes.j3]
      refine Ev.eq (ru_l1 hG hl3 (by omega) hl2 h0 h1 (ih (i + 1) c' (by omega) hc') (F.getD (l2.getD i 0).toNat []).length 0 (by omega)) ?_
      rw [List.drop_zero, ed, List.all_cons, Bool.and_assoc]
      congr 1
      unfold okSt
      rw [hx]
      rfl
    refine Ev.succ ?_
    simp only [r_Refutes.l0, rdN]
    refine Ev.pos (by omega) (Ev.pos (by omega) (Ev.pos h0 (Ev.pos (by omega) ?_)))
    rw [show rdOf false X (l2.getD i 0) = X.getD (l2.getD i 0).toNat false from rfl]
    refine Ev.ite (fun e => ?_) (fun e => ?_)
    · rw [ed, List.all_cons]
      have : okSt F X l3 (l2.getD i 0) = false := by unfold okSt; rw [e]; rfl
      rw [this]
      exact Ev.now _
    · have hx : X.getD (l2.getD i 0).toNat false = false := by simpa using e
      have h2 : ∀ b : Bool, clmS U a1 (l2.getD i 0) = b → Ev (fun k => r_Refutes.j2 k a1 l2 l3 (c : Int) 0 (i : Int) b F p U X) ((l2.drop i).all (okSt F X l3) && decide ((l3.filter (freS U X)).length < c + ((l2.drop i).filter (clmS U a1)).length)) := by
        intro b hb
        refine Ev.succ ?_
        simp only [r_Refutes.j2]
        cases b with
        | true =>
          refine Ev.pos (by trivial) ?_
          rw [nxt64 (by omega)]
          refine Ev.eq (h3 (c + 1) (by omega) hx) ?_
          have : ((l2.drop i).filter (clmS U a1)).length = ((l2.drop (i + 1)).filter (clmS U a1)).length + 1 := by
            rw [ed, List.filter_cons, if_pos hb]; rfl
          rw [this]
          congr 2
          exact propext (by omega)
        | false =>
          refine Ev.neg (by decide) ?_
          refine Ev.eq (h3 c (by omega) hx) ?_
          have : ((l2.drop i).filter (clmS U a1)).length = ((l2.drop (i + 1)).filter (clmS U a1)).length := by
            rw [ed, List.filter_cons, if_neg (by rw [hb]; simp)]
          rw [this]
      refine Ev.ite (fun e2 => h2 true ?_) (fun e2 => Ev.pos (by omega) ?_)
      · unfold clmS; rw [beq_iff_eq.2 e2]; rfl
      · rw [show rd U (l2.getD i 0) = U.getD (l2.getD i 0).toNat 0 from rfl]
        refine h2 _ ?_
        unfold clmS
        rw [beq_eq_false_iff_ne.2 e2, Bool.false_or]
        rcases hu with hu | hu
        · rw [hu]; rfl
        · have := hG.ok.rng _ _ hu
          rw [decide_eq_true (show U.getD (l2.getD i 0).toNat 0 ≥ 0 by omega)]
          exact bne_iff_ne.2 (by omega)
def refB (F : List (List Int)) (p : Int) (U : List Int) (X : List Bool) (a1 : Int) (l2 l3 : List Int) (e : Int) : Bool :=
  decide (e = 0) && (incB l2 (F.length : Int) && (incB l3 p && (decide (a1 ∈ l2) && ((U.getD a1.toNat 0 == -1) && (l2.all (okSt F X l3) && decide ((l3.filter (freS U X)).length < (l2.filter (clmS U a1)).length))))))
theorem refutes_prog (F : List (List Int)) (p : Int) (U : List Int) (X : List Bool) (a1 : Int) {l2 l3 : List Int} {e : Int} (h2 : l2.length ≤ 1000) (h3 : l3.length ≤ 1000) (he : replace_Check.f F p U X = some e) : replace_Refutes.f F p U X a1 l2 l3 = some (refB F p U X a1 l2 l3 e) := by
  unfold replace_Refutes.f
  rw [if_pos (by omega), if_pos (by omega), he]
  rfl
theorem refutes_ref (F : List (List Int)) (p : Int) (U : List Int) (X : List Bool) {a1 : Int} {l2 l3 : List Int} {e : Int} (h2 : l2.length ≤ 1000) (h3 : l3.length ≤ 1000) (he : replace_Check.f F p U X = some e) (her : r_Check.f F p U X = some e) (ha0 : 0 ≤ a1) (ha1 : a1 < (U.length : Int)) :
    Ev (fun k => r_Refutes.f k F p U X a1 l2 l3) (refB F p U X a1 l2 l3 e) := by
  have hT : Ev (fun k => r_Refutes.j0 k a1 l2 l3 true F p U X) false := by
    refine Ev.succ ?_
    simp only [r_Refutes.j0]
    exact Ev.pos (by trivial) (Ev.now _)
  unfold r_Refutes.f refB
  refine Ev.cbind her (Ev.ite (fun h => ?_) (fun h => by rw [decide_eq_false h]; exact hT))
  subst h
  have hG := Good.of he
  rw [decide_eq_true rfl, Bool.true_and]
  refine Ev.bind (rincr_ev l2 _ (by omega)) (Ev.ite (fun h => ?_) (fun h => by rw [Bool.not_eq_true] at h; rw [h]; exact hT))
  have hr2 := ((incB_iff _ _).1 h).2
  rw [h, Bool.true_and]
  refine Ev.bind (rincr_ev l3 _ (by omega)) (Ev.ite (fun h => ?_) (fun h => by rw [Bool.not_eq_true] at h; rw [h]; exact hT))
  rw [h, Bool.true_and]
  refine Ev.bind (rhas_ev l2 _ (by omega)) (Ev.ite (fun h => ?_) (fun h => by rw [Bool.not_eq_true] at h; rw [h]; exact hT))
  rw [h, Bool.true_and]
  refine Ev.pos ha0 (Ev.pos ha1 ?_)
  rw [show rd U a1 = U.getD a1.toNat 0 from rfl]
  have hu := hG.use a1.toNat (by have := hG.ok.n1; omega)
  rcases hu with hu | hu
  · rw [hu, decide_eq_false (by omega)]
    refine Ev.succ ?_
    simp only [r_Refutes.j0]
    refine Ev.neg (by decide) ?_
    refine Ev.eq (ru_l0 hG h2 h3 hr2 l2.length 0 0 (by omega) (by omega)) ?_
    rw [List.drop_zero, Nat.zero_add]
    rfl
  · have := hG.ok.rng _ _ hu
    rw [decide_eq_true (show U.getD a1.toNat 0 ≥ 0 by omega), show (U.getD a1.toNat 0 == -1) = false from beq_eq_false_iff_ne.2 (by omega)]
    exact hT
theorem sorted_ext {a b : List Int} (ha : a.Pairwise (· < ·)) (hb : b.Pairwise (· ≤ ·)) (hn : b.Nodup) (h : ∀ x, x ∈ a ↔ x ∈ b) : a = b := by
  have hp : a.Perm b := (List.perm_ext_iff_of_nodup (by rw [List.nodup_iff_pairwise_ne]; exact ha.imp (fun h e => by omega)) hn).2 h
  exact List.Perm.eq_of_pairwise (le := fun x y => x ≤ y) (fun a b _ _ h1 h2 => Int.le_antisymm h1 h2) (ha.imp (fun h => by omega)) hb hp
theorem range_inc (n : Nat) (q : Int → Bool) : (((List.range n).map fun i : Nat => (i : Int)).filter q).Pairwise (· < ·) := by
  refine List.Pairwise.filter _ ?_
  rw [List.pairwise_map]
  exact List.pairwise_lt_range.imp (fun h => by omega)
theorem nf_usr {x : Int} {u : Nat} (h : Rp.nf (Rp.usrF U) (Rp.fxF X) x = some u) : Rp.usrF U x = some u ∧ X.getD u false = false := by
  unfold Rp.nf at h
  cases hus : Rp.usrF U x with
  | none => rw [hus] at h; simp at h
  | some v => rw [hus] at h; simp at h; rw [← h.2]; exact ⟨rfl, h.1⟩
theorem usr_of (hG : Good F p U X) {i : Nat} (hi : i < F.length) (h0 : 0 ≤ U.getD i 0) : Rp.usrF U (U.getD i 0) = some i := by
  have hn1 := hG.ok.n1
  have hm : U.getD i 0 ∈ U := by
    rw [List.getD_eq_getElem?_getD, List.getElem?_eq_getElem (show i < U.length by omega)]
    exact List.getElem_mem _
  unfold Rp.usrF
  rw [if_pos hm]
  have h1 := List.idxOf_lt_length_iff.2 hm
  have h2 : U.getD (U.idxOf (U.getD i 0)) 0 = U.getD i 0 := by
    rw [List.getD_eq_getElem?_getD, List.getElem?_eq_getElem h1]
    simp
  have hne : U.getD i 0 ≠ -1 := by omega
  congr 1
  have key : ∀ a b, a < b → b < U.length → U.getD a 0 = U.getD b 0 → U.getD b 0 ≠ -1 → False := by
    intro a b hab hb e hne
    have h := hG.dup b hb
    unfold dupA at h
    simp only [Bool.and_eq_false_iff, bne_eq_false_iff_eq, decide_eq_false_iff_not] at h
    rcases h with h | h
    · exact hne h
    · refine h ?_
      rw [← e, List.getD_eq_getElem?_getD, List.getElem?_eq_getElem (show a < U.length by omega)]
      exact List.mem_take_iff_getElem.2 ⟨a, by omega, rfl⟩
  rcases Nat.lt_trichotomy (U.idxOf (U.getD i 0)) i with h | h | h
  · exact (key _ _ h (by omega) h2 hne).elim
  · exact h
  · exact (key _ _ h h1 h2.symm (by rw [h2]; exact hne)).elim
abbrev QL (U : List Int) (X : List Bool) (s0 : Nat) (T : List (Int × Nat)) : List Int := (Rp.QF U X s0 T).map fun u : Nat => (u : Int)
theorem mem_QL {s0 : Nat} {T : List (Int × Nat)} {x : Int} : x ∈ QL U X s0 T ↔ ∃ u : Nat, x = (u : Int) ∧ u ∈ Rp.QF U X s0 T := by
  simp only [QL, List.mem_map]
  constructor
  · rintro ⟨u, h1, h2⟩; exact ⟨u, h2.symm, h1⟩
  · rintro ⟨u, h1, h2⟩; exact ⟨u, h2, h1.symm⟩
section
variable {s0 : Nat} {T : List (Int × Nat)}
theorem q_nodup (hG : Good F p U X) (hu0 : U.getD s0 0 = -1) (hI : Rp.Inv (Rp.fitF F) (Rp.usrF U) (Rp.fxF X) s0 (Rp.QF U X s0 T).length [] T) : (QL U X s0 T).Nodup := by
  have h1 := Rp.nodup_Q (hs0_of hu0) (fun e he => by obtain ⟨s, _, h2⟩ := hI.fits e he; exact (hG.ok.rng s _ h2).1) hI
  rw [List.nodup_iff_pairwise_ne] at h1 ⊢
  rw [List.pairwise_map]
  exact h1.imp (fun h e => h (by omega))
theorem q_lt (hG : Good F p U X) (h0 : s0 < F.length) {u : Nat} (hu : u ∈ Rp.QF U X s0 T) : u < F.length := by
  obtain ⟨i, hi⟩ := List.getElem?_of_mem hu
  have := Rp.Q_lt (uses := U) (fixed := X) (by have := hG.ok.n1; omega) hi
  have := hG.ok.n1
  omega
theorem q_step (hI : Rp.Inv (Rp.fitF F) (Rp.usrF U) (Rp.fxF X) s0 (Rp.QF U X s0 T).length [] T) {s : Nat} (hs : s ∈ Rp.QF U X s0 T) {y : Int} (hy : y ∈ F.getD s []) : y ∈ T.map (·.1) := by
  obtain ⟨i, hi⟩ := List.getElem?_of_mem hs
  obtain ⟨j, _, hm⟩ := hI.cov i (List.getElem?_eq_some_iff.1 hi).1 s hi y hy
  exact List.mem_map.2 ⟨_, hm, rfl⟩
theorem q_of {y : Int} (hy : y ∈ T.map (·.1)) {u : Nat} (hu : Rp.nf (Rp.usrF U) (Rp.fxF X) y = some u) : u ∈ Rp.QF U X s0 T := by
  obtain ⟨e, he, rfl⟩ := List.mem_map.1 hy
  exact List.mem_cons_of_mem _ (List.mem_filterMap.2 ⟨e, he, hu⟩)
theorem t_of (hI : Rp.Inv (Rp.fitF F) (Rp.usrF U) (Rp.fxF X) s0 (Rp.QF U X s0 T).length [] T) {y : Int} (hy : y ∈ T.map (·.1)) : ∃ s, s ∈ Rp.QF U X s0 T ∧ y ∈ F.getD s [] := by
  obtain ⟨e, he, rfl⟩ := List.mem_map.1 hy
  obtain ⟨s, h1, h2⟩ := hI.fits e he
  exact ⟨s, List.mem_of_getElem? h1, h2⟩
theorem reach_q (hG : Good F p U X) (h0 : s0 < F.length) (hI : Rp.Inv (Rp.fitF F) (Rp.usrF U) (Rp.fxF X) s0 (Rp.QF U X s0 T).length [] T) (x : Int) : x ∈ reachI F U X s0 F.length ↔ x ∈ QL U X s0 T := by
  constructor
  · refine reach_ind (fun x => x ∈ QL U X s0 T) (mem_QL.2 ⟨s0, rfl, List.mem_cons_self ..⟩) ?_ F.length x
    intro s i hs hi hx hu hm
    obtain ⟨t, rfl, ht⟩ := mem_QL.1 hs
    rw [Int.toNat_natCast] at hm
    refine mem_QL.2 ⟨i, rfl, q_of (q_step hI ht hm) ?_⟩
    unfold Rp.nf
    rw [usr_of hG hi hu]
    show (if Rp.fxF X i = true then none else some i) = some i
    rw [if_neg (by unfold Rp.fxF; rw [hx]; simp)]
  · intro hx
    obtain ⟨u, rfl, hu⟩ := mem_QL.1 hx
    obtain ⟨i, hi⟩ := List.getElem?_of_mem hu
    have hcl := reach_closed (F := F) (U := U) (X := X) h0
    clear hx
    revert u
    induction i using Nat.strongRecOn with
    | ind i ih =>
      intro u hu hi
      have hil := (List.getElem?_eq_some_iff.1 hi).1
      by_cases h : i = 0
      · subst h
        have e : (Rp.QF U X s0 T)[0]? = some s0 := rfl
        rw [e] at hi
        obtain rfl := Option.some.inj hi
        exact reach_mono _
      · obtain ⟨j, y, hc⟩ := Rp.node_child (usr := Rp.usrF U) (fx := Rp.fxF X) (s0 := s0) T i (by omega) hil
        have hlt := hc.lt hI
        obtain ⟨v, hnf, hg⟩ := hc.get
        rw [show (Rp.Qu (Rp.usrF U) (Rp.fxF X) s0 T)[i]? = some u from hi] at hg
        obtain rfl := Option.some.inj hg
        obtain ⟨A, B, w, hT, hw, _⟩ := hc
        obtain ⟨s, h2, h3⟩ := hI.fits (y, j) (by rw [hT]; simp)
        have h4 := List.mem_of_getElem? h2
        have h5 := ih j hlt s h4 h2
        obtain ⟨h6, h7⟩ := nf_usr hnf
        have h8 := (Rp.usr_lt h6).2
        have hy0 := (hG.ok.rng s y h3).1
        have hc := hcl u (q_lt hG h0 hu)
        unfold stepI at hc
        by_cases hm : (u : Int) ∈ reachI F U X s0 F.length
        · exact hm
        · rw [if_neg (show ¬ ((u : Int) ∈ reachI F U X s0 F.length ∨ X.getD u false = true ∨ U.getD u 0 < 0) from fun h => by
            rcases h with h | h | h
            · exact hm h
            · rw [h7] at h; cases h
            · omega), if_pos (List.any_eq_true.2 ⟨(s : Int), h5, decide_eq_true (by rw [Int.toNat_natCast, h8]; exact h3)⟩)] at hc
          have := congrArg List.length hc
          simp at this
theorem stones_eq (hG : Good F p U X) (h0 : s0 < F.length) (hu0 : U.getD s0 0 = -1) (hI : Rp.Inv (Rp.fitF F) (Rp.usrF U) (Rp.fxF X) s0 (Rp.QF U X s0 T).length [] T) : stonesI F (reachI F U X s0 F.length) = insL (QL U X s0 T) := by
  refine sorted_ext (range_inc _ _) (insL_sorted _) ((insL_perm _).nodup_iff.2 (q_nodup hG hu0 hI)) (fun x => ?_)
  rw [(insL_perm _).mem_iff, ← reach_q hG h0 hI x]
  unfold stonesI
  rw [List.mem_filter]
  constructor
  · intro h; exact of_decide_eq_true h.2
  · intro h
    refine ⟨List.mem_map.2 ?_, decide_eq_true h⟩
    have := (reach_in (F := F) (U := U) (X := X) h0 F.length).1 x h
    exact ⟨x.toNat, by simp; omega, by omega⟩
theorem pieces_eq (hG : Good F p U X) (h0 : s0 < F.length) (hu0 : U.getD s0 0 = -1) (hI : Rp.Inv (Rp.fitF F) (Rp.usrF U) (Rp.fxF X) s0 (Rp.QF U X s0 T).length [] T) : piecesI F p.toNat (stonesI F (reachI F U X s0 F.length)) = insL (T.map (·.1)) := by
  rw [stones_eq hG h0 hu0 hI]
  refine sorted_ext (range_inc _ _) (insL_sorted _) ((insL_perm _).nodup_iff.2 hI.nd) (fun x => ?_)
  rw [(insL_perm _).mem_iff]
  unfold piecesI
  rw [List.mem_filter, List.any_eq_true]
  constructor
  · rintro ⟨_, i, hi, h2⟩
    rw [(insL_perm _).mem_iff] at hi
    obtain ⟨u, rfl, hu⟩ := mem_QL.1 hi
    rw [Int.toNat_natCast] at h2
    exact q_step hI hu (of_decide_eq_true h2)
  · intro h
    obtain ⟨s, h1, h2⟩ := t_of hI h
    have hr := hG.ok.rng s x h2
    refine ⟨List.mem_map.2 ⟨x.toNat, by simp; omega, by omega⟩, (s : Int), (insL_perm _).mem_iff.2 (mem_QL.2 ⟨s, rfl, h1⟩), ?_⟩
    rw [Int.toNat_natCast]
    exact decide_eq_true h2
theorem strict_of {l : List Int} (h : l.Nodup) : (insL l).Pairwise (· < ·) := by
  have h1 := insL_sorted l
  have h2 : (insL l).Pairwise (· ≠ ·) := by rw [← List.nodup_iff_pairwise_ne]; exact (insL_perm l).nodup_iff.2 h
  exact (h1.and h2).imp (fun h => by omega)
theorem refuse_true (hG : Good F p U X) (h0 : s0 < F.length) (hu0 : U.getD s0 0 = -1) (hI : Rp.Inv (Rp.fitF F) (Rp.usrF U) (Rp.fxF X) s0 (Rp.QF U X s0 T).length [] T) : refB F p U X (s0 : Int) (insL (QL U X s0 T)) (insL (T.map (·.1))) 0 = true := by
  have hqn := q_nodup hG hu0 hI
  unfold refB
  simp only [Bool.and_eq_true]
  refine ⟨by rfl, (incB_iff _ _).2 ⟨strict_of hqn, fun x hx => ?_⟩, (incB_iff _ _).2 ⟨strict_of hI.nd, fun x hx => ?_⟩, decide_eq_true ?_, ?_, ?_, decide_eq_true ?_⟩
  · rw [(insL_perm _).mem_iff] at hx
    obtain ⟨u, rfl, hu⟩ := mem_QL.1 hx
    have := q_lt hG h0 hu
    omega
  · rw [(insL_perm _).mem_iff] at hx
    obtain ⟨s, h1, h2⟩ := t_of hI hx
    have hr := hG.ok.rng s x h2
    have := hG.p0
    omega
  · rw [(insL_perm _).mem_iff]
    exact mem_QL.2 ⟨s0, rfl, List.mem_cons_self ..⟩
  · rw [Int.toNat_natCast, hu0]; rfl
  · rw [List.all_eq_true]
    intro s hs
    rw [(insL_perm _).mem_iff] at hs
    obtain ⟨u, rfl, hu⟩ := mem_QL.1 hs
    unfold okSt
    rw [Int.toNat_natCast, Bool.and_eq_true]
    refine ⟨?_, ?_⟩
    · have hx : X.getD u false = false := by
        rcases List.mem_cons.1 hu with rfl | hu
        · cases h : X.getD u false with
          | false => rfl
          | true => exact (hG.fx u h0 h hu0).elim
        · obtain ⟨e, _, h2⟩ := List.mem_filterMap.1 hu
          exact (nf_usr h2).2
      rw [hx]; rfl
    · have : ((F.getD u []).any fun x => !decide (x ∈ insL (T.map (·.1)))) = false := by
        rw [List.any_eq_false]
        intro x hx
        rw [decide_eq_true ((insL_perm _).mem_iff.2 (q_step hI hu hx))]
        simp
      rw [this]; rfl
  · have e1 : ((insL (T.map (·.1))).filter (freS U X)).length = (Rp.fm (Rp.usrF U) (Rp.fxF X) T).length := by
      rw [((insL_perm _).filter _).length_eq, List.filter_map, List.length_map]
      unfold Rp.fm
      rw [List.length_filterMap_eq_countP, List.countP_eq_length_filter]
      congr 1
      refine List.filter_congr fun e he => ?_
      obtain ⟨u, hu⟩ := hI.used e he
      show freS U X e.1 = (Rp.nf (Rp.usrF U) (Rp.fxF X) e.1).isSome
      unfold freS Rp.nf
      rw [idx_usr, hu]
      show (decide ((u : Int) < 0) || !(X.getD (u : Int).toNat false)) = (if Rp.fxF X u = true then none else some u).isSome
      rw [decide_eq_false (by omega), Int.toNat_natCast]
      unfold Rp.fxF
      cases X.getD u false <;> rfl
    have e2 : ((insL (QL U X s0 T)).filter (clmS U (s0 : Int))).length = 1 + (Rp.fm (Rp.usrF U) (Rp.fxF X) T).length := by
      rw [List.filter_eq_self.2, (insL_perm _).length_eq]
      · simp [QL, Rp.QF, Rp.Qu]; omega
      · intro s hs
        rw [(insL_perm _).mem_iff] at hs
        obtain ⟨u, rfl, hu⟩ := mem_QL.1 hs
        unfold clmS
        rcases List.mem_cons.1 hu with rfl | hu
        · simp
        · obtain ⟨e, he, h2⟩ := List.mem_filterMap.1 hu
          have h3 := (Rp.usr_lt (nf_usr h2).1).2
          obtain ⟨s, _, h4⟩ := hI.fits e he
          have := hG.ok.rng s _ h4
          rw [Int.toNat_natCast, h3, Bool.or_eq_true]
          exact Or.inr (bne_iff_ne.2 (by omega))
    rw [e1, e2]
    omega
end
end
end Go.Proofs.Ytkeomlmlimkebaa.Rq
