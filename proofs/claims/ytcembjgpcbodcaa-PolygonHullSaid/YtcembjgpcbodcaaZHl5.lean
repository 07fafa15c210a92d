/-
  The hull as a polygon: valid, convex, simple; no point of the list lies outside.
-/
import Derived.Test.YtcembjgpcbodcaaZPgC
import Derived.Test.YtcembjgpcbodcaaZPgS
import Derived.Test.YtcembjgpcbodcaaZHl4
namespace Go.Proofs.Ytcembjgpcbodcaa.Hl
open Go.RowKit Go.Proofs.Ytcembjgpcbodcaa.QA Go.Proofs.YtcembjgpcbodcaaW.PrintWords Go.Proofs.Ytcembjgpcbodcaa.EvKit
set_option linter.unusedVariables false
set_option linter.unusedSimpArgs false
theorem ori_gt {a b c : S23} (ha : Pg.okP a) (hb : Pg.okP b) (hc : Pg.okP c) : Pg.ori a b c = 1 ↔ 0 < D a b c := by
  have e : Pg.oriN a b c = D a b c := Pg.oriN_is ha hb hc
  unfold Pg.ori Pg.sgn
  rw [e]
  split
  · constructor <;> intro h <;> omega
  · split <;> constructor <;> intro h <;> omega
/-- What is known of the corners of a hull. -/
structure Hc (S C : List S23) : Prop where
  cy : Cy S C
  few : C.length ≤ 64
  ok : ∀ q ∈ S, Pg.okP q
section
variable {S C : List S23} (h : Hc S C)
include h
theorem Hc.mem (i : Nat) (hi : i < C.length) : at_ C i ∈ S := (h.cy.ne i hi).2.1
theorem Hc.okc (i : Nat) (hi : i < C.length) : Pg.okP (at_ C i) := h.ok _ (h.mem i hi)
theorem Hc.nxl (i : Nat) : nx C i < C.length := nx_lt h.cy.three i
theorem Hc.nx_ne (i : Nat) (hi : i < C.length) : nx C i ≠ i := by
  have h3 := h.cy.three
  unfold nx
  by_cases h1 : i + 1 < C.length
  · rw [Nat.mod_eq_of_lt h1]; omega
  · rw [show i + 1 = C.length by omega, Nat.mod_self]; omega
theorem Hc.nx2_ne (i : Nat) (hi : i < C.length) : nx C (nx C i) ≠ i := by
  have h3 := h.cy.three
  unfold nx
  by_cases h1 : i + 1 < C.length
  · rw [Nat.mod_eq_of_lt h1]
    by_cases h2 : i + 1 + 1 < C.length
    · rw [Nat.mod_eq_of_lt h2]; omega
    · rw [show i + 1 + 1 = C.length by omega, Nat.mod_self]; omega
  · rw [show i + 1 = C.length by omega, Nat.mod_self, Nat.mod_eq_of_lt (by omega)]; omega
theorem Hc.off (i j : Nat) (hi : i < C.length) (hj : j < C.length) (h1 : j ≠ i) (h2 : j ≠ nx C i) : 0 < D (at_ C i) (at_ C (nx C i)) (at_ C j) :=
  corner_off (h.cy.ne i hi) (h.cy.ne j hj) (fun e => h1 (h.cy.inj _ _ hj hi e)) (fun e => h2 (h.cy.inj _ _ hj (h.nxl i) e))
theorem Hc.off1 (i j : Nat) (hi : i < C.length) (hj : j < C.length) (h1 : j ≠ i) (h2 : j ≠ nx C i) : Pg.ori (at_ C i) (at_ C (nx C i)) (at_ C j) = 1 :=
  (ori_gt (h.okc i hi) (h.okc _ (h.nxl i)) (h.okc j hj)).2 (h.off i j hi hj h1 h2)
theorem Hc.all : ∀ m i, i + m = C.length → Pg.allL C i m = true := by
  intro m
  induction m with
  | zero => intro i _; rfl
  | succ m ih =>
    intro i hi
    rw [Pg.allL, ih (i + 1) (by omega), Bool.and_true]
    exact decide_eq_true (h.off1 i (nx C (nx C i)) (by omega) (h.nxl _) (h.nx2_ne i (by omega)) (h.nx_ne _ (h.nxl i)))
theorem Hc.no_on (i j : Nat) (hi : i < C.length) (hj : j < C.length) (h1 : j ≠ i) (h2 : j ≠ nx C i) : Pg.onB (at_ C i) (at_ C (nx C i)) (at_ C j) = false := by
  unfold Pg.onB
  rw [h.off1 i j hi hj h1 h2]; rfl
theorem Hc.no_meet (i k : Nat) (hi : i < C.length) (hk : k < C.length) (h1 : i + 2 ≤ k) (h2 : nx C k ≠ i) : Pg.meetB (at_ C i) (at_ C (nx C i)) (at_ C k) (at_ C (nx C k)) = false := by
  have e1 : nx C i = i + 1 := Nat.mod_eq_of_lt (by omega)
  have e2 : nx C k ≠ nx C i := by
    rw [e1]; unfold nx
    by_cases h3 : k + 1 < C.length
    · rw [Nat.mod_eq_of_lt h3]; omega
    · rw [show k + 1 = C.length by omega, Nat.mod_self]; omega
  unfold Pg.meetB Pg.crossB
  rw [h.no_on i k hi hk (by omega) (by omega), h.no_on i (nx C k) hi (h.nxl k) h2 e2, h.no_on k i hk hi (by omega) (Ne.symm h2), h.no_on k (nx C i) hk (h.nxl i) (by omega) (Ne.symm e2),
    h.off1 i k hi hk (by omega) (by omega), h.off1 i (nx C k) hi (h.nxl k) h2 e2, show decide (wrap64 (1 * 1) < 0) = false from by rw [w64 (by omega) (by omega)]; rfl]
  rfl
theorem Hc.inn (i : Nat) (hi : i < C.length) : ∀ m k, i + 2 ≤ k → k + m = C.length ∨ m = 0 → Pg.inn (Pg.cP C) i k m = true := by
  intro m
  induction m with
  | zero => intro k _ _; rfl
  | succ m ih =>
    intro k hk hm
    have hkC : k < C.length := by omega
    rw [Pg.inn, ih (k + 1) (by omega) (by omega), Bool.and_true]
    unfold Pg.cP
    by_cases h1 : nx C k = i
    · have : Pg.nx C k = i := h1
      rw [decide_eq_true this]; rfl
    · have e : Pg.meetB (Pg.pt C i) (Pg.pt C (Pg.nx C i)) (Pg.pt C k) (Pg.pt C (Pg.nx C k)) = false := h.no_meet i k hi hkC hk h1
      rw [e, Bool.and_false]; rfl
theorem Hc.outs : ∀ m i, i + m = C.length → Pg.outS C.length (fun i => Pg.foldB (Pg.pt C i) (Pg.pt C (Pg.nx C i)) (Pg.pt C (Pg.nx C (Pg.nx C i)))) (Pg.cP C) i m = true := by
  intro m
  induction m with
  | zero => intro i _; rfl
  | succ m ih =>
    intro i hi
    have e : Pg.foldB (Pg.pt C i) (Pg.pt C (Pg.nx C i)) (Pg.pt C (Pg.nx C (Pg.nx C i))) = false := by
      have : Pg.ori (Pg.pt C i) (Pg.pt C (Pg.nx C i)) (Pg.pt C (Pg.nx C (Pg.nx C i))) = 1 := h.off1 i (nx C (nx C i)) (by omega) (h.nxl _) (h.nx2_ne i (by omega)) (h.nx_ne _ (h.nxl i))
      unfold Pg.foldB
      rw [this]; rfl
    rw [Pg.outS, ih (i + 1) (by omega), e, h.inn i (by omega) _ _ (Nat.le_refl _) (by omega)]; rfl
theorem Hc.simple : Pg.simB C = true := h.outs C.length 0 (by omega)
theorem Hc.near : C.all nearP = true := by
  rw [List.all_eq_true]
  intro q hq
  obtain ⟨i, hi, e⟩ := List.mem_iff_getElem.1 hq
  have : at_ C i = q := by unfold at_; rw [List.getD_eq_getElem?_getD, List.getElem?_eq_getElem hi]; exact e
  rw [← this]
  exact (Pg.nearP_is _).2 (h.okc i hi)
theorem Hc.check : Pg.ckP C = 0 := by
  have h3 := h.cy.three
  have hf := h.few
  unfold Pg.ckP
  rw [if_neg (by omega), if_neg (by omega), if_pos h.near, if_neg]
  unfold Pg.dupP
  rw [Pg.anyF_iff]
  rintro ⟨j, _, hj, e⟩
  have e := (Pg.eqB_iff _ _).1 e
  refine (h.cy.ne j (by omega)).1 ?_
  have e' : (at_ C j).f0 = (at_ C (nx C j)).f0 ∧ (at_ C j).f1 = (at_ C (nx C j)).f1 := e
  generalize at_ C j = a at e'
  generalize at_ C (nx C j) = b at e'
  obtain ⟨a0, a1⟩ := a
  obtain ⟨b0, b1⟩ := b
  obtain ⟨rfl, rfl⟩ := e'
  rfl
end
theorem betw {dx dy tx ty : Int} (h0 : 0 < dx) (h1 : 0 ≤ tx) (h2 : tx ≤ dx) (e : dx * ty = dy * tx) : (0 ≤ dy → 0 ≤ ty ∧ ty ≤ dy) ∧ (dy ≤ 0 → dy ≤ ty ∧ ty ≤ 0) := by
  have key : ∀ n : Int, 0 ≤ dx * n → 0 ≤ n := fun n hn => Int.nonneg_of_mul_nonneg_right hn h0
  constructor
  · intro hd
    have a := Int.mul_nonneg hd h1
    have b := Int.mul_nonneg hd (show 0 ≤ dx - tx by omega)
    have c := key ty (by omega)
    have d := key (dy - ty) (by rw [Int.mul_sub] at b ⊢; have := Int.mul_comm dx dy; omega)
    omega
  · intro hd
    have a := Int.mul_nonneg (show 0 ≤ -dy by omega) h1
    have b := Int.mul_nonneg (show 0 ≤ -dy by omega) (show 0 ≤ dx - tx by omega)
    have c := key (-ty) (by rw [Int.neg_mul] at a; rw [Int.mul_neg]; omega)
    have d := key (ty - dy) (by rw [Int.mul_sub, Int.neg_mul, Int.neg_mul] at b; rw [Int.mul_sub]; have := Int.mul_comm dx dy; omega)
    omega
theorem in_box {a c q : S23} (h1 : lt a q) (h2 : lt q c) (h0 : D a c q = 0) : (a.f0 ≤ q.f0 ∧ q.f0 ≤ c.f0) ∧ ((a.f1 ≤ q.f1 ∧ q.f1 ≤ c.f1) ∨ (c.f1 ≤ q.f1 ∧ q.f1 ≤ a.f1)) := by
  unfold lt at h1 h2
  refine ⟨by omega, ?_⟩
  by_cases hx : a.f0 = c.f0
  · left; omega
  · unfold D at h0
    have := betw (dx := c.f0 - a.f0) (dy := c.f1 - a.f1) (tx := q.f0 - a.f0) (ty := q.f1 - a.f1) (by omega) (by omega) (by omega) (by omega)
    by_cases hd : 0 ≤ c.f1 - a.f1
    · left; have := this.1 hd; omega
    · right; have := this.2 (by omega); omega
theorem box_of {a c q : S23} (hx : (a.f0 ≤ q.f0 ∧ q.f0 ≤ c.f0) ∨ (c.f0 ≤ q.f0 ∧ q.f0 ≤ a.f0)) (hy : (a.f1 ≤ q.f1 ∧ q.f1 ≤ c.f1) ∨ (c.f1 ≤ q.f1 ∧ q.f1 ≤ a.f1)) : Pg.boxB a c q = true := by
  unfold Pg.boxB mn mx
  simp only [Bool.and_eq_true, decide_eq_true_eq]
  refine ⟨?_, ?_, ?_, ?_⟩ <;> split <;> omega
theorem on_of {S : List S23} {a c q : S23} (hn : NE S a c) (hq : q ∈ S) (hS : ∀ q ∈ S, Pg.okP q) (h0 : D a c q = 0) : Pg.onB a c q = true := by
  unfold Pg.onB
  rw [(ori_eq (hS a hn.2.1) (hS c hn.2.2.1) (hS q hq)).2 h0]
  rw [decide_eq_true rfl, Bool.true_and]
  rcases (hn.2.2.2 q hq).2 h0 with rfl | rfl | ⟨h1, h2⟩ | ⟨h1, h2⟩
  · exact box_of (by omega) (by omega)
  · exact box_of (by omega) (by omega)
  · have := in_box h1 h2 h0
    exact box_of (by omega) (by omega)
  · have := in_box h1 h2 (by rw [D_swap a c q, h0]; rfl)
    exact box_of (by omega) (by omega)
theorem side_in (p : List S23) (q : S23) : ∀ m (i : Nat), (∀ j, i ≤ j → j < i + m → Pg.crB (Pg.pt p j) (Pg.pt p (Pg.nx p j)) q = false) → 0 ≤ Pg.sideL p q i m true := by
  intro m
  induction m with
  | zero => intro i _; rw [Pg.sideL]; decide
  | succ m ih =>
    intro i h
    rw [Pg.sideL]
    split
    · exact Int.le_refl _
    · rw [h i (Nat.le_refl _) (by omega)]
      exact ih (i + 1) (fun j h1 h2 => h j (by omega) (by omega))
theorem side_once (p : List S23) (q : S23) (j0 : Nat) : ∀ m i, i ≤ j0 → j0 < i + m → (∀ j, i ≤ j → j < i + m → (Pg.crB (Pg.pt p j) (Pg.pt p (Pg.nx p j)) q = true ↔ j = j0)) → 0 ≤ Pg.sideL p q i m false := by
  intro m
  induction m with
  | zero => intro i h1 h2 _; omega
  | succ m ih =>
    intro i h1 h2 h
    rw [Pg.sideL]
    split
    · exact Int.le_refl _
    · by_cases hi : i = j0
      · rw [(h i (Nat.le_refl _) (by omega)).2 hi]
        refine side_in p q m (i + 1) (fun j h3 h4 => ?_)
        rw [← Bool.not_eq_true, h j (by omega) (by omega)]
        omega
      · have : Pg.crB (Pg.pt p i) (Pg.pt p (Pg.nx p i)) q = false := by
          rw [← Bool.not_eq_true, h i (Nat.le_refl _) (by omega)]; exact hi
        rw [this]
        exact ih (i + 1) (by omega) (by omega) (fun j h3 h4 => h j (by omega) (by omega))
theorem side_zero (p : List S23) (q : S23) (j0 : Nat) : ∀ m i b, i ≤ j0 → j0 < i + m → Pg.onB (Pg.pt p j0) (Pg.pt p (Pg.nx p j0)) q = true → Pg.sideL p q i m b = 0 := by
  intro m
  induction m with
  | zero => intro i b h1 h2 _; omega
  | succ m ih =>
    intro i b h1 h2 h
    rw [Pg.sideL]
    split
    · rfl
    · rename_i hno
      have : i ≠ j0 := fun e => hno (by rw [e]; exact h)
      exact ih (i + 1) _ (by omega) (by omega) h
/-- No point of the list lies outside. -/
theorem not_out {S C : List S23} (h : Hc S C) (q : S23) (hq : q ∈ S) : 0 ≤ Pg.sideL C q 0 C.length false := by
  by_cases hon : ∃ j, j < C.length ∧ Pg.onB (Pg.pt C j) (Pg.pt C (Pg.nx C j)) q = true
  · obtain ⟨j, hj, e⟩ := hon
    rw [side_zero C q j C.length 0 false (by omega) (by omega) e]
    exact Int.le_refl _
  · have hD : ∀ i, i < C.length → 0 < D (at_ C i) (at_ C (nx C i)) q := fun i hi => by
      have hn := h.cy.ne i hi
      have h1 := (hn.2.2.2 q hq).1
      by_cases h0 : D (at_ C i) (at_ C (nx C i)) q = 0
      · exact absurd ⟨i, hi, on_of hn hq h.ok h0⟩ hon
      · omega
    obtain ⟨j0, hj0, u1, u2⟩ := up_some h.cy q hD
    refine side_once C q j0 C.length 0 (by omega) (by omega) (fun j _ hj => ?_)
    have hj : j < C.length := by omega
    have ho : Pg.ori (at_ C j) (at_ C (nx C j)) q = 1 := (ori_gt (h.okc j hj) (h.okc _ (h.nxl j)) (h.ok q hq)).2 (hD j hj)
    show Pg.crB (at_ C j) (at_ C (nx C j)) q = true ↔ _
    unfold Pg.crB
    rw [ho]
    simp only [Bool.or_eq_true, Bool.and_eq_true, decide_eq_true_eq]
    constructor
    · rintro (⟨v1, v2, _⟩ | ⟨_, _, h⟩)
      · exact up_once h.cy q.f1 j j0 hj hj0 v1 v2 u1 u2
      · omega
    · rintro rfl
      exact .inl ⟨u1, u2, by decide⟩
theorem con_is {S C : List S23} (h : Hc S C) : Pg.conR C = (true, 0) := by
  unfold Pg.conR
  rw [if_pos h.check, h.all C.length 0 (by omega), h.simple]; rfl
theorem side_is {S C : List S23} (h : Hc S C) (q : S23) (hq : q ∈ S) : (Pg.sideP C q).2 = 0 ∧ 0 ≤ (Pg.sideP C q).1 := by
  have e : Pg.ckQ C [q] = 0 := by rw [Pg.ckQ_one, if_pos ((Pg.nearP_is q).2 (h.ok q hq)), h.check]
  unfold Pg.sideP
  rw [if_pos e, if_pos h.simple]
  exact ⟨rfl, not_out h q hq⟩
theorem hc_of (L : List S23) (hl : L.length ≤ 16) (hok : ∀ q ∈ L, Pg.okP q) (a z : S23) (h : Hul L a z) : Hc (srt L) (crn (srt L)) :=
  ⟨(crn_cy L a z h).1, by have := crn_len L a z h; omega, fun q hq => hok q ((srt_mem L q).1 hq)⟩
theorem again (L : List S23) (hl : L.length ≤ 16) (hok : ∀ q ∈ L, Pg.okP q) (a z : S23) (h : Hul L a z) : hullS (crn (srt L)) = (crn (srt L), 0) := by
  have hh := hull_hull (srt L) (srt (crn (srt L))) a z (srt_inc L) h.ch h.least h.five (srt_inc _) (fun q => srt_mem _ q)
  have hc := hc_of L hl hok a z h
  have hf := hc.few
  unfold hullS
  rw [if_neg (by omega), if_pos hc.near, if_neg hh.2, hh.1]
end Go.Proofs.Ytcembjgpcbodcaa.Hl
