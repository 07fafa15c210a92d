/-
  Break: the plan in which a piece fits no stone is a valid one, without the piece.
-/
import Derived.Test.YtkeomlmlimkebaaZRp9
import Derived.Test.YtkeomlmlimkebaaZQAx7
namespace Go.Proofs.Ytkeomlmlimkebaa.Rq
open Go.RowKit Go.Proofs.Ytkeomlmlimkebaa.QA Go.Proofs.YtkeomlmlimkebaaW.PrintWords Go.Proofs.YtkeomlmlimkebaaW.PrintMore Go.Proofs.Ytkeomlmlimkebaa.EvKit Go.Proofs.Ytkeomlmlimkebaa.MapKit
set_option linter.unusedVariables false
set_option linter.unusedSimpArgs false
def brkU (U : List Int) (x : Int) : List Int := if 0 ≤ idxI U x then U.set (idxI U x).toNat (-1) else U
section
variable {F : List (List Int)} {p : Int} {U : List Int} {X : List Bool}
theorem Good.inj (hG : Good F p U X) {i j : Nat} (hij : i < j) (hj : j < U.length) (h : U.getD i 0 = U.getD j 0) : U.getD j 0 = -1 := by
  have hd := hG.dup j hj
  unfold dupA at hd
  simp only [Bool.and_eq_false_iff, bne_eq_false_iff_eq, decide_eq_false_iff_not] at hd
  rcases hd with hd | hd
  · exact hd
  · refine (hd ?_).elim
    rw [← h, List.getD_eq_getElem?_getD, List.getElem?_eq_getElem (show i < U.length by omega)]
    exact List.mem_take_iff_getElem.2 ⟨i, by omega, rfl⟩
theorem dup_of {V : List Int} (h : ∀ i j, i < j → j < V.length → V.getD i 0 = V.getD j 0 → V.getD j 0 = -1) : ∀ j, j < V.length → dupA V j = false := by
  intro j hj
  unfold dupA
  rw [Bool.and_eq_false_iff, bne_eq_false_iff_eq, decide_eq_false_iff_not]
  by_cases hm : V.getD j 0 ∈ V.take j
  · obtain ⟨i, hi, e⟩ := List.mem_take_iff_getElem.1 hm
    refine Or.inl (h i j (by omega) hj ?_)
    rw [← e, List.getD_eq_getElem?_getD, List.getElem?_eq_getElem (show i < V.length by omega)]
    rfl
  · exact Or.inr hm
theorem check_of (h1 : U.length = F.length) (h2 : X.length = F.length) (h3 : F.length ≤ 64) (h4 : 0 ≤ p) (h5 : p ≤ 64) (h6 : ∀ j, j < F.length → (F.getD j []).length < 1000000) (h7 : ∀ j, j < F.length → badF p F U X j = false) (h8 : ∀ j, j < U.length → dupA U j = false) : replace_Check.f F p U X = some 0 := by
  unfold replace_Check.f
  rw [if_neg (by omega), if_neg (by omega), if_pos h6, any_no _ h7, any_no _ h8]
  rfl
theorem brkU_len (x : Int) : (brkU U x).length = U.length := by
  unfold brkU
  split
  · rw [List.length_set]
  · rfl
theorem brkU_at (hG : Good F p U X) {x : Int} (hx : 0 ≤ x) (j : Nat) (hj : j < U.length) : (brkU U x).getD j 0 = if U.getD j 0 = x then -1 else U.getD j 0 := by
  unfold brkU
  rw [idx_usr]
  cases hu : Rp.usrF U x with
  | none =>
    dsimp only
    rw [if_neg (by omega), if_neg]
    intro h
    unfold Rp.usrF at hu
    split at hu
    · cases hu
    · rename_i hm
      refine hm ?_
      rw [← h, List.getD_eq_getElem?_getD, List.getElem?_eq_getElem hj]
      exact List.getElem_mem _
  | some u =>
    dsimp only
    obtain ⟨h1, h2⟩ := Rp.usr_lt hu
    rw [if_pos (by omega), Int.toNat_natCast, Rp.getD_set _ _ _ _ h1]
    by_cases e : u = j
    · subst e
      rw [if_pos rfl, if_pos h2]
    · rw [if_neg e, if_neg]
      intro h
      rcases Nat.lt_or_gt_of_ne e with h3 | h3
      · have := hG.inj h3 hj (by rw [h2, h]); omega
      · have := hG.inj h3 h1 (by rw [h2, h]); omega
theorem brkU_map (hG : Good F p U X) {x : Int} (hx : 0 ≤ x) : brkU U x = U.map fun u => if u = x then -1 else u := by
  refine List.ext_getElem (by rw [brkU_len, List.length_map]) (fun j h1 h2 => ?_)
  have h := brkU_at hG hx j (by rw [brkU_len] at h1; exact h1)
  rw [List.getD_eq_getElem?_getD, List.getElem?_eq_getElem h1, List.getD_eq_getElem?_getD, List.getElem?_eq_getElem (by rw [brkU_len] at h1; exact h1)] at h
  rw [List.getElem_map]
  exact h
theorem remP_getD (x : Int) (j : Nat) : (F.map (remP x)).getD j [] = remP x (F.getD j []) := by
  rw [List.getD_eq_getElem?_getD, List.getD_eq_getElem?_getD, List.getElem?_map]
  cases F[j]? <;> rfl
theorem mem_remP {x y : Int} {l : List Int} : y ∈ remP x l ↔ y ∈ l ∧ y ≠ x := by
  unfold remP
  rw [List.mem_filter]
  simp
theorem brk_check (hG : Good F p U X) {x : Int} (hx : 0 ≤ x) (hf : ¬ (0 ≤ idxI U x ∧ X.getD (idxI U x).toNat false = true)) : replace_Check.f (F.map (remP x)) p (brkU U x) X = some 0 := by
  have hn1 := hG.ok.n1
  have hn2 := hG.ok.n2
  have hp := hG.ok.p64
  have hp0 := hG.p0
  refine check_of (by rw [brkU_len, List.length_map, hn1]) (by rw [List.length_map, hn2]) (by rw [List.length_map]; exact hG.ok.n3) hp0 (by omega) (fun j hj => ?_) (fun j hj => ?_) (dup_of fun i j hij hj h => ?_)
  · rw [remP_getD]
    have h1 := hG.row j
    have h2 := List.length_filter_le (fun y => !(y == x)) (F.getD j [])
    unfold remP
    omega
  · rw [List.length_map] at hj
    unfold badF badR
    rw [remP_getD, brkU_at hG hx j (by omega)]
    have hinc : incB (remP x (F.getD j [])) p = true := by
      refine (incB_iff _ _).2 ⟨List.Pairwise.filter _ (hG.ok.inc j), fun y hy => ?_⟩
      have := hG.ok.rng j y (mem_remP.1 hy).1
      omega
    rw [hinc]
    have hu := hG.use j hj
    by_cases e : U.getD j 0 = x
    · rw [if_pos e]
      have hxj : X.getD j false = false := by
        cases h : X.getD j false with
        | false => rfl
        | true =>
          refine (hf ?_).elim
          have h2 := usr_of hG hj (by omega)
          rw [e] at h2
          rw [idx_usr, h2]
          dsimp only
          exact ⟨by omega, by rw [Int.toNat_natCast]; exact h⟩
      rw [hxj]
      simp
    · rw [if_neg e]
      rcases hu with hu | hu
      · have hxj : X.getD j false = false := by
          cases h : X.getD j false with
          | false => rfl
          | true => exact (hG.fx j hj h hu).elim
        rw [hu, hxj]
        simp
      · have hr := hG.ok.rng j _ hu
        rw [decide_eq_true (mem_remP.2 ⟨hu, e⟩), show (U.getD j 0 == -1) = false from beq_eq_false_iff_ne.2 (by omega)]
        simp
  · rw [brkU_len] at hj
    rw [brkU_at hG hx i (by omega), brkU_at hG hx j hj] at h
    rw [brkU_at hG hx j hj]
    by_cases e : U.getD j 0 = x
    · rw [if_pos e]
    · rw [if_neg e] at h ⊢
      by_cases e2 : U.getD i 0 = x
      · rw [if_pos e2] at h; exact h.symm
      · rw [if_neg e2] at h
        exact hG.inj hij hj h
theorem Break_is {a1 : Int} (he : replace_Check.f F p U X = some 0) : replace_Break.f F p U X a1 = if a1 < 0 ∨ a1 ≥ p then some ([], 0, [], [], 6) else if 0 ≤ idxI U a1 ∧ X.getD (idxI U a1).toNat false = true then some ([], 0, [], [], 8) else some (F.map (remP a1), p, brkU U a1, X, 0) := by
  unfold replace_Break.f
  rw [he]
  rfl
theorem Break_err {a1 e : Int} (he : replace_Check.f F p U X = some e) (h : e ≠ 0) : replace_Break.f F p U X a1 = some ([], 0, [], [], e) := by
  unfold replace_Break.f
  rw [he]
  show (if e = 0 then _ else _) = _
  rw [if_neg h]
end
end Go.Proofs.Ytkeomlmlimkebaa.Rq
