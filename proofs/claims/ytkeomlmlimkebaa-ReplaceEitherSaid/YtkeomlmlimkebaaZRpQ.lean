/-
  What the program's search finds refutes.
-/
import Derived.Test.YtkeomlmlimkebaaZRp6
import Derived.Test.YtkeomlmlimkebaaZRpC
import Derived.Test.YtkeomlmlimkebaaZQAx5
import Derived.Test.YtkeomlmlimkebaaZQAx4
namespace Go.Proofs.Ytkeomlmlimkebaa.Rq
open Go.RowKit Go.Proofs.Ytkeomlmlimkebaa.QA Go.Proofs.YtkeomlmlimkebaaW.PrintWords Go.Proofs.YtkeomlmlimkebaaW.PrintMore Go.Proofs.Ytkeomlmlimkebaa.EvKit Go.Proofs.Ytkeomlmlimkebaa.MapKit
set_option linter.unusedVariables false
set_option linter.unusedSimpArgs false
section
variable {F : List (List Int)} {p : Int} {U : List Int} {X : List Bool}
def refB (F : List (List Int)) (p : Int) (U : List Int) (X : List Bool) (a1 : Int) (l2 l3 : List Int) (e : Int) : Bool :=
  decide (e = 0) && (incB l2 (F.length : Int) && (incB l3 p && (decide (a1 ∈ l2) && ((U.getD a1.toNat 0 == -1) && (l2.all (okSt F X l3) && decide ((l3.filter (freS U X)).length < (l2.filter (clmS U a1)).length))))))
theorem refutes_prog (F : List (List Int)) (p : Int) (U : List Int) (X : List Bool) (a1 : Int) {l2 l3 : List Int} {e : Int} (h2 : l2.length ≤ 1000) (h3 : l3.length ≤ 1000) (he : replace_Check.f F p U X = some e) : replace_Refutes.f F p U X a1 l2 l3 = some (refB F p U X a1 l2 l3 e) := by
  unfold replace_Refutes.f
  rw [if_pos (by omega), if_pos (by omega), he]
  rfl
theorem nf_usr {x : Int} {u : Nat} (h : Rp.nf (Rp.usrF U) (Rp.fxF X) x = some u) : Rp.usrF U x = some u ∧ X.getD u false = false := by
  unfold Rp.nf at h
  cases hus : Rp.usrF U x with
  | none => rw [hus] at h; simp at h
  | some v => rw [hus] at h; simp at h; rw [← h.2]; exact ⟨rfl, h.1⟩
abbrev QL (U : List Int) (X : List Bool) (s0 : Nat) (T : List (Int × Nat)) : List Int := (Rp.QF U X s0 T).map fun u : Nat => (u : Int)
theorem mem_QL {s0 : Nat} {T : List (Int × Nat)} {x : Int} : x ∈ QL U X s0 T ↔ ∃ u : Nat, x = (u : Int) ∧ u ∈ Rp.QF U X s0 T := by
  simp only [QL, List.mem_map]
  constructor
  · rintro ⟨u, h1, h2⟩; exact ⟨u, h2.symm, h1⟩
  · rintro ⟨u, h1, h2⟩; exact ⟨u, h2, h1.symm⟩
section
variable {s0 : Nat} {T : List (Int × Nat)}
theorem q_nodup (hG : Good F p U X) (hu0 : U.getD s0 0 = -1) (hI : Rp.Inv (Rp.fitF F) (Rp.usrF U) (Rp.fxF X) s0 (Rp.QF U X s0 T).length [] T) : (QL U X s0 T).Nodup := by
  have h1 := Rp.nodup_Q (hs0_of hu0) (fun e he => by obtain ⟨s, _, h2⟩ := hI.fits e he; exact (hG.ok.rng s _ h2).1) hI
  rw [List.nodup_iff_pairwise_ne] at h1 ⊢
  rw [List.pairwise_map]
  exact h1.imp (fun h e => h (by omega))
theorem q_lt (hG : Good F p U X) (h0 : s0 < F.length) {u : Nat} (hu : u ∈ Rp.QF U X s0 T) : u < F.length := by
  obtain ⟨i, hi⟩ := List.getElem?_of_mem hu
  have := Rp.Q_lt (uses := U) (fixed := X) (by have := hG.ok.n1; omega) hi
  have := hG.ok.n1
  omega
theorem q_step (hI : Rp.Inv (Rp.fitF F) (Rp.usrF U) (Rp.fxF X) s0 (Rp.QF U X s0 T).length [] T) {s : Nat} (hs : s ∈ Rp.QF U X s0 T) {y : Int} (hy : y ∈ F.getD s []) : y ∈ T.map (·.1) := by
  obtain ⟨i, hi⟩ := List.getElem?_of_mem hs
  obtain ⟨j, _, hm⟩ := hI.cov i (List.getElem?_eq_some_iff.1 hi).1 s hi y hy
  exact List.mem_map.2 ⟨_, hm, rfl⟩
theorem q_of {y : Int} (hy : y ∈ T.map (·.1)) {u : Nat} (hu : Rp.nf (Rp.usrF U) (Rp.fxF X) y = some u) : u ∈ Rp.QF U X s0 T := by
  obtain ⟨e, he, rfl⟩ := List.mem_map.1 hy
  exact List.mem_cons_of_mem _ (List.mem_filterMap.2 ⟨e, he, hu⟩)
theorem t_of (hI : Rp.Inv (Rp.fitF F) (Rp.usrF U) (Rp.fxF X) s0 (Rp.QF U X s0 T).length [] T) {y : Int} (hy : y ∈ T.map (·.1)) : ∃ s, s ∈ Rp.QF U X s0 T ∧ y ∈ F.getD s [] := by
  obtain ⟨e, he, rfl⟩ := List.mem_map.1 hy
  obtain ⟨s, h1, h2⟩ := hI.fits e he
  exact ⟨s, List.mem_of_getElem? h1, h2⟩
theorem strict_of {l : List Int} (h : l.Nodup) : (insL l).Pairwise (· < ·) := by
  have h1 := insL_sorted l
  have h2 : (insL l).Pairwise (· ≠ ·) := by rw [← List.nodup_iff_pairwise_ne]; exact (insL_perm l).nodup_iff.2 h
  exact (h1.and h2).imp (fun h => by omega)
theorem refuse_true (hG : Good F p U X) (h0 : s0 < F.length) (hu0 : U.getD s0 0 = -1) (hI : Rp.Inv (Rp.fitF F) (Rp.usrF U) (Rp.fxF X) s0 (Rp.QF U X s0 T).length [] T) : refB F p U X (s0 : Int) (insL (QL U X s0 T)) (insL (T.map (·.1))) 0 = true := by
  have hqn := q_nodup hG hu0 hI
  unfold refB
  simp only [Bool.and_eq_true]
  refine ⟨by rfl, (incB_iff _ _).2 ⟨strict_of hqn, fun x hx => ?_⟩, (incB_iff _ _).2 ⟨strict_of hI.nd, fun x hx => ?_⟩, decide_eq_true ?_, ?_, ?_, decide_eq_true ?_⟩
  · rw [(insL_perm _).mem_iff] at hx
    obtain ⟨u, rfl, hu⟩ := mem_QL.1 hx
    have := q_lt hG h0 hu
    omega
  · rw [(insL_perm _).mem_iff] at hx
    obtain ⟨s, h1, h2⟩ := t_of hI hx
    have hr := hG.ok.rng s x h2
    have := hG.p0
    omega
  · rw [(insL_perm _).mem_iff]
    exact mem_QL.2 ⟨s0, rfl, List.mem_cons_self ..⟩
  · rw [Int.toNat_natCast, hu0]; rfl
  · rw [List.all_eq_true]
    intro s hs
    rw [(insL_perm _).mem_iff] at hs
    obtain ⟨u, rfl, hu⟩ := mem_QL.1 hs
    unfold okSt
    rw [Int.toNat_natCast, Bool.and_eq_true]
    refine ⟨?_, ?_⟩
    · have hx : X.getD u false = false := by
        rcases List.mem_cons.1 hu with rfl | hu
        · cases h : X.getD u false with
          | false => rfl
          | true => exact (hG.fx u h0 h hu0).elim
        · obtain ⟨e, _, h2⟩ := List.mem_filterMap.1 hu
          exact (nf_usr h2).2
      rw [hx]; rfl
    · have : ((F.getD u []).any fun x => !decide (x ∈ insL (T.map (·.1)))) = false := by
        rw [List.any_eq_false]
        intro x hx
        rw [decide_eq_true ((insL_perm _).mem_iff.2 (q_step hI hu hx))]
        simp
      rw [this]; rfl
  · have e1 : ((insL (T.map (·.1))).filter (freS U X)).length = (Rp.fm (Rp.usrF U) (Rp.fxF X) T).length := by
      rw [((insL_perm _).filter _).length_eq, List.filter_map, List.length_map]
      unfold Rp.fm
      rw [List.length_filterMap_eq_countP, List.countP_eq_length_filter]
      congr 1
      refine List.filter_congr fun e he => ?_
      obtain ⟨u, hu⟩ := hI.used e he
      show freS U X e.1 = (Rp.nf (Rp.usrF U) (Rp.fxF X) e.1).isSome
      unfold freS Rp.nf
      rw [idx_usr, hu]
      show (decide ((u : Int) < 0) || !(X.getD (u : Int).toNat false)) = (if Rp.fxF X u = true then none else some u).isSome
      rw [decide_eq_false (by omega), Int.toNat_natCast]
      unfold Rp.fxF
      cases X.getD u false <;> rfl
    have e2 : ((insL (QL U X s0 T)).filter (clmS U (s0 : Int))).length = 1 + (Rp.fm (Rp.usrF U) (Rp.fxF X) T).length := by
      rw [List.filter_eq_self.2, (insL_perm _).length_eq]
      · simp [QL, Rp.QF, Rp.Qu]; omega
      · intro s hs
        rw [(insL_perm _).mem_iff] at hs
        obtain ⟨u, rfl, hu⟩ := mem_QL.1 hs
        unfold clmS
        rcases List.mem_cons.1 hu with rfl | hu
        · simp
        · obtain ⟨e, he, h2⟩ := List.mem_filterMap.1 hu
          have h3 := (Rp.usr_lt (nf_usr h2).1).2
          obtain ⟨s, _, h4⟩ := hI.fits e he
          have := hG.ok.rng s _ h4
          rw [Int.toNat_natCast, h3, Bool.or_eq_true]
          exact Or.inr (bne_iff_ne.2 (by omega))
    rw [e1, e2]
    omega
end
end
end Go.Proofs.Ytkeomlmlimkebaa.Rq
