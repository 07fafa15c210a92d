import Derived.Test.YtkeomlmlimkebaaZRp4
import Derived.Test.YtkeomlmlimkebaaZQAx12
import Derived.Test.YtkeomlmlimkebaaZQAx15
import Derived.Test.YtkeomlmlimkebaaZQAx16
import Derived.Test.YtkeomlmlimkebaaZQAx9
import Derived.Test.YtkeomlmlimkebaaZQAx10
import Derived.Test.YtkeomlmlimkebaaZQAx5
namespace Go.Proofs.Ytkeomlmlimkebaa.Rq
open Go.RowKit Go.Proofs.Ytkeomlmlimkebaa.QA Go.Proofs.YtkeomlmlimkebaaW.PrintWords Go.Proofs.YtkeomlmlimkebaaW.PrintMore Go.Proofs.Ytkeomlmlimkebaa.EvKit Go.Proofs.Ytkeomlmlimkebaa.MapKit
set_option linter.unusedVariables false
set_option linter.unusedSimpArgs false
theorem rdL (F : List (List Int)) (i : Nat) : rd_L1 F (i : Int) = F.getD i [] := by simp [rd_L1]
theorem rdB (l : List Bool) (i : Nat) : rdOf false l (i : Int) = l.getD i false := by simp [rdOf]
theorem user_ref_loop (F : List (List Int)) (p : Int) (U : List Int) (X : List Bool) (x : Int) (hl : U.length < 1099511627776) : ∀ m i, U.length = i + m → Ev (fun k => r_User.l0 k x (i : Int) F p U X) (if x ∈ U.drop i then ((i + (U.drop i).idxOf x : Nat) : Int) else -1) := by
  intro m
  induction m with
  | zero =>
    intro i hi
    refine Ev.succ ?_
    simp only [r_User.l0]
    rw [if_neg (show ¬ x ∈ U.drop i by rw [List.drop_eq_nil_of_le (by omega)]; simp)]
    exact Ev.neg (by omega) (Ev.now _)
  | succ m ih =>
    intro i hi
    have ed : U.drop i = U.getD i 0 :: U.drop (i + 1) := EvKit.drop_cons U i 0 (by omega)
    refine Ev.succ ?_
    simp only [r_User.l0]
    refine Ev.pos (by omega) (Ev.pos (by omega) ?_)
    rw [rdN]
    refine Ev.ite (fun h => ?_) (fun h => ?_)
    · rw [ed, if_pos (by rw [h]; exact List.mem_cons_self ..), h]
      simp only [List.idxOf_cons_self, Nat.add_zero]
      exact Ev.now _
    · rw [nxt64 (by omega)]
      refine Ev.eq (ih (i + 1) (by omega)) ?_
      rw [ed]
      by_cases hm : x ∈ U.drop (i + 1)
      · rw [if_pos hm, if_pos (List.mem_cons_of_mem _ hm), List.idxOf_cons, beq_eq_false_iff_ne.2 h]
        simp only [cond_false]
        omega
      · rw [if_neg hm, if_neg (fun hc => by rcases List.mem_cons.1 hc with hc | hc; exact h hc.symm; exact hm hc)]
theorem user_ref (F : List (List Int)) (p : Int) (U : List Int) (X : List Bool) (x : Int) (hl : U.length < 1099511627776) : Ev (fun k => r_User.f k F p U X x) (idxI U x) := by
  have h := user_ref_loop F p U X x hl U.length 0 (by omega)
  simp only [List.drop_zero, Nat.zero_add] at h
  exact h
theorem idx_usr (U : List Int) (x : Int) : idxI U x = match Rp.usrF U x with | some u => (u : Int) | none => -1 := Rp.usr_idx x
structure Good (F : List (List Int)) (p : Int) (U : List Int) (X : List Bool) : Prop where
  ok : Rp.PlanOk F U X p.toNat
  p0 : 0 ≤ p
  use : ∀ s, s < F.length → U.getD s 0 = -1 ∨ U.getD s 0 ∈ F.getD s []
  fx : ∀ s, s < F.length → X.getD s false = true → U.getD s 0 ≠ -1
  dup : ∀ j, j < U.length → dupA U j = false
section
variable {F : List (List Int)} {p : Int} {U : List Int} {X : List Bool}
theorem Good.of (h : replace_Check.f F p U X = some 0) : Good F p U X := by
  obtain ⟨h1, h2, h3, h4, h5, h6, h7, h8⟩ := check_ok h
  have hb : ∀ s, s < F.length → incB (F.getD s []) p = true ∧ (U.getD s 0 = -1 ∨ U.getD s 0 ∈ F.getD s []) ∧ (X.getD s false = true → U.getD s 0 ≠ -1) := by
    intro s hs
    have := h7 s hs
    unfold badF badR at this
    simp only [Bool.or_eq_false_iff, Bool.and_eq_false_iff, Bool.not_eq_false', bne_eq_false_iff_eq, decide_eq_true_eq, beq_eq_false_iff_ne, ne_eq] at this
    obtain ⟨⟨a1, a2⟩, a3⟩ := this
    refine ⟨a1, a2, fun hx => ?_⟩
    rcases a3 with a3 | a3
    · exact a3
    · rw [a3] at hx; cases hx
  have hout : ∀ s, ¬ s < F.length → F.getD s [] = [] := fun s hs => by
    rw [List.getD_eq_getElem?_getD, List.getElem?_eq_none (by omega)]; rfl
  refine ⟨⟨h1, h2, h3, fun s => ?_, fun s x hx => ?_, by omega⟩, h4, fun s hs => (hb s hs).2.1, fun s hs => (hb s hs).2.2, h8⟩
  · by_cases hs : s < F.length
    · exact ((incB_iff _ _).1 (hb s hs).1).1
    · show (F.getD s []).Pairwise _
      rw [hout s hs]; simp
  · by_cases hs : s < F.length
    · have := ((incB_iff _ _).1 (hb s hs).1).2 x hx
      omega
    · rw [show Rp.fitF F s = F.getD s [] from rfl, hout s hs] at hx
      simp at hx
theorem Good.lt (hG : Good F p U X) : ∀ x u, Rp.usrF U x = some u → u < F.length := fun x u h => by
  have := (Rp.usr_lt h).1
  have := hG.ok.n1
  omega
theorem Good.row (hG : Good F p U X) (s : Nat) : (F.getD s []).length ≤ 64 := by
  have h := Rp.nodup_len p.toNat (F.getD s []) ((hG.ok.inc s).imp (fun h e => by omega)) (fun x hx => hG.ok.rng s x hx)
  have := hG.ok.p64
  omega
theorem Good.useR (hG : Good F p U X) : ∀ u ∈ U, -1 ≤ u ∧ u ≤ 64 := by
  intro u hu
  obtain ⟨i, hi, rfl⟩ := List.getElem_of_mem hu
  have h1 := hG.use i (by have := hG.ok.n1; omega)
  have e : U.getD i 0 = U[i] := by rw [List.getD_eq_getElem?_getD, List.getElem?_eq_getElem hi]; rfl
  rw [e] at h1
  rcases h1 with h1 | h1
  · omega
  · have := hG.ok.rng i _ h1
    have := hG.ok.p64
    omega
theorem len_l3 (hG : Good F p U X) {i r : Nat} (hi : i < F.length) {R : List Int} : ∀ (m j : Nat) (out : List Int), (F.getD i []).length = j + m → Rp.Sd (Rp.fitF F) (Rp.usrF U) (Rp.fxF X) F.length out →
    Ev (fun k => r_Lengths.l2 k (((F.getD i []).drop j).foldl (Rp.relax1 (Rp.usrF U) (Rp.fxF X) i) out) (r : Int) ((i + 1 : Nat) : Int) F p U X) R → Ev (fun k => r_Lengths.l3 k out (r : Int) (i : Int) (j : Int) F p U X) R := by
  have hN := hG.ok.n3
  have hn1 := hG.ok.n1
  have hn2 := hG.ok.n2
  have hrow := hG.row i
  intro m
  induction m with
  | zero =>
    intro j out hj hS h
    refine Ev.succ ?_
    simp only [r_Lengths.l3, rdL]
    rw [List.drop_eq_nil_of_le (by omega)] at h
    refine Ev.pos (by omega) (Ev.pos (by omega) (Ev.neg (by omega) ?_))
    rw [nxt64 (by omega)]
    exact h
  | succ m ih =>
    intro j out hj hS h
    have ed := EvKit.drop_cons (F.getD i []) j 0 (by omega)
    have hx : (F.getD i []).getD j 0 ∈ Rp.fitF F i := by
      rw [List.getD_eq_getElem?_getD, List.getElem?_eq_getElem (show j < (F.getD i []).length by omega)]
      exact List.getElem_mem _
    rw [ed, List.foldl_cons] at h
    have hok := Rp.relax1_ok hS hi hx hG.lt
    refine Ev.succ ?_
    simp only [r_Lengths.l3, rdL, rdN]
    refine Ev.pos (by omega) (Ev.pos (by omega) (Ev.pos (by omega) (Ev.pos (by omega) (Ev.bind (user_ref F p U X _ (by omega)) ?_))))
    rw [nxt64 (by omega)]
    have hgo := ih (j + 1) _ (by omega) hok.1 h
    have hol := hS.1
    rw [idx_usr]
    unfold Rp.relax1 at hgo
    cases hu : Rp.usrF U ((F.getD i []).getD j 0) with
    | none =>
      rw [hu] at hgo
      refine Ev.pos (by decide) (Ev.pos (by omega) ?_)
      simpa using hgo
    | some u =>
      rw [hu] at hgo
      dsimp only at hgo ⊢
      have hul := hG.lt _ _ hu
      refine Ev.neg (by omega) (Ev.ite (fun e => ?_) (fun e => ?_))
      · rw [if_neg (by omega)] at hgo
        exact hgo
      · refine Ev.pos (by omega) (Ev.pos (by omega) ?_)
        rw [rdB]
        simp only [rdN]
        refine Ev.ite (fun e2 => ?_) (fun e2 => ?_)
        · rw [if_neg (fun hc => by have := hc.2.1; unfold Rp.fxF at this; rw [this] at e2; cases e2)] at hgo
          exact hgo
        · refine Ev.pos (by omega) (Ev.ite (fun e3 => ?_) (fun e3 => ?_))
          · refine Ev.pos (by omega) ?_
            rw [if_pos ⟨by omega, by unfold Rp.fxF; simpa using e2, e3⟩] at hgo
            have hv : -1 ≤ out.getD u 0 ∧ out.getD u 0 ≤ 1000 := by
              rcases hS.2 u hul with h1 | ⟨n, h1, _⟩ <;> omega
            have e4 : mn (out.getD i 0) (wrap64 (out.getD u 0 + 1)) = min (out.getD i 0) (out.getD u 0 + 1) := by
              rw [w64 (by omega) (by omega)]
              unfold mn
              split <;> omega
            rw [e4, Int.toNat_natCast]
            exact hgo
          · rw [if_neg (fun hc => e3 hc.2.2)] at hgo
            exact hgo
theorem range_drop {n i : Nat} (h : i < n) : (List.range n).drop i = i :: (List.range n).drop (i + 1) := by
  rw [List.drop_eq_getElem_cons (by simpa using h)]; simp
theorem len_l2 (hG : Good F p U X) {r : Nat} {R : List Int} : ∀ (m i : Nat) (out : List Int), F.length = i + m → Rp.Sd (Rp.fitF F) (Rp.usrF U) (Rp.fxF X) F.length out →
    (∀ out', out' = ((List.range F.length).drop i).foldl (Rp.relaxI (Rp.fitF F) (Rp.usrF U) (Rp.fxF X)) out → Ev (fun k => r_Lengths.l1 k out' (wrap64 ((r : Int) + 1)) F p U X) R) → Ev (fun k => r_Lengths.l2 k out (r : Int) (i : Int) F p U X) R := by
  intro m
  induction m with
  | zero =>
    intro i out hi hS h
    refine Ev.succ ?_
    simp only [r_Lengths.l2]
    have := h out (by rw [List.drop_eq_nil_of_le (by simp; omega)]; rfl)
    exact Ev.neg (by omega) this
  | succ m ih =>
    intro i out hi hS h
    refine Ev.succ ?_
    simp only [r_Lengths.l2]
    refine Ev.pos (by omega) ?_
    have hgo := len_l3 hG (i := i) (r := r) (by omega) (R := R) (F.getD i []).length 0 out (by omega) hS
    refine hgo ?_
    rw [List.drop_zero]
    refine ih (i + 1) _ (by omega) ?_ (fun out' ho => h out' ?_)
    · exact (Rp.fold1_ok (show i < F.length by omega) hG.lt (F.getD i []) out (fun _ h => h) hS).1
    · rw [ho, range_drop (n := F.length) (i := i) (by omega), List.foldl_cons]; rfl
theorem len_l1 (hG : Good F p U X) : ∀ (m r : Nat), F.length = r + m → Ev (fun k => r_Lengths.l1 k (Rp.lensL (Rp.fitF F) (Rp.usrF U) (Rp.fxF X) F.length r) (r : Int) F p U X) (Rp.lensL (Rp.fitF F) (Rp.usrF U) (Rp.fxF X) F.length F.length) := by
  have hN := hG.ok.n3
  intro m
  induction m with
  | zero =>
    intro r hr
    refine Ev.succ ?_
    simp only [r_Lengths.l1]
    refine Ev.neg (by omega) ?_
    rw [show r = F.length by omega]
    exact Ev.now _
  | succ m ih =>
    intro r hr
    refine Ev.succ ?_
    simp only [r_Lengths.l1]
    refine Ev.pos (by omega) ?_
    refine len_l2 hG F.length 0 _ (by omega) (Rp.lens_ok hG.lt r (by omega)).1 (fun out' ho => ?_)
    rw [nxt64 (by omega), ho, List.drop_zero]
    exact ih (r + 1) (by omega)
theorem len_l0 (hG : Good F p U X) : ∀ (m i : Nat), F.length = i + m → Ev (fun k => r_Lengths.l0 k (List.replicate i 1000) (i : Int) F p U X) (Rp.lensL (Rp.fitF F) (Rp.usrF U) (Rp.fxF X) F.length F.length) := by
  have hN := hG.ok.n3
  intro m
  induction m with
  | zero =>
    intro i hi
    refine Ev.succ ?_
    simp only [r_Lengths.l0]
    refine Ev.neg (by omega) ?_
    have := len_l1 hG F.length 0 (by omega)
    rw [show i = F.length by omega]
    exact this
  | succ m ih =>
    intro i hi
    refine Ev.succ ?_
    simp only [r_Lengths.l0]
    refine Ev.pos (by omega) (Ev.pos (by rw [List.length_replicate]; omega) ?_)
    rw [nxt64 (by omega), show List.replicate i (1000 : Int) ++ [1000] = List.replicate (i + 1) 1000 by rw [List.replicate_succ']]
    exact ih (i + 1) (by omega)
theorem lengths_ev (hG : Good F p U X) : Ev (fun k => r_Lengths.f k F p U X) (Rp.lensL (Rp.fitF F) (Rp.usrF U) (Rp.fxF X) F.length F.length) := by
  unfold r_Lengths.f
  exact len_l0 hG F.length 0 (by omega)
abbrev LN (F : List (List Int)) (U : List Int) (X : List Bool) : List Int := Rp.lensL (Rp.fitF F) (Rp.usrF U) (Rp.fxF X) F.length F.length
theorem LN_r (hG : Good F p U X) (i : Nat) (hi : i < F.length) : 1 ≤ (LN F U X).getD i 0 ∧ (LN F U X).getD i 0 ≤ 1000 := by
  unfold LN
  rcases Rp.lens_is (fit := Rp.fitF F) (fx := Rp.fxF X) hG.ok.n3 hG.lt i hi with ⟨n, _, h1, h2⟩ | ⟨h1, _⟩
  · have := hG.ok.n3
    omega
  · omega
theorem LN_len (hG : Good F p U X) : (LN F U X).length = F.length := (Rp.lens_ok (fit := Rp.fitF F) (fx := Rp.fxF X) hG.lt F.length (by have := hG.ok.n3; omega)).1.1
theorem rep_l1 (hG : Good F p U X) {s : Nat} (hs : s < F.length) {acc : List S69} {x : Int} {R : List S69} (hacc : acc.length < 1000000) : ∀ (m j : Nat), (F.getD s []).length = j + m → ((F.getD s []).drop j).find? (Rp.goodP (Rp.usrF U) (Rp.fxF X) (LN F U X) s) = some x →
    Ev (fun k => r_Repair.j3 k (LN F U X) (acc ++ [(⟨(s : Int), U.getD s 0, x⟩ : S69)]) (idxI U x) F p U X) R → Ev (fun k => r_Repair.l1 k (LN F U X) acc (s : Int) (-1) (j : Int) F p U X) R := by
  have hN := hG.ok.n3
  have hn1 := hG.ok.n1
  have hn2 := hG.ok.n2
  have hrow := hG.row s
  have hLl := LN_len hG
  have hds := LN_r hG s hs
  intro m
  induction m with
  | zero =>
    intro j hj hf
    rw [List.drop_eq_nil_of_le (by omega)] at hf
    simp at hf
  | succ m ih =>
    intro j hj hf hR
    have ed := EvKit.drop_cons (F.getD s []) j 0 (by omega)
    rw [ed, List.find?_cons] at hf
    refine Ev.succ ?_
    simp only [r_Repair.l1, rdL, rdN]
    refine Ev.pos (by omega) (Ev.pos (by omega) (Ev.pos (by omega) (Ev.pos (by omega) (Ev.bind (user_ref F p U X _ (by omega)) (Ev.pos (by omega) ?_)))))
    generalize hy : (F.getD s []).getD j 0 = y at hf ⊢
    have hT : Rp.goodP (Rp.usrF U) (Rp.fxF X) (LN F U X) s y = true → Ev (fun k => r_Repair.j2 k (LN F U X) acc (s : Int) (-1) (j : Int) y (idxI U y) true F p U X) R := by
      intro hg
      rw [hg] at hf
      obtain rfl := Option.some.inj hf
      refine Ev.succ ?_
      simp only [r_Repair.j2]
      refine Ev.pos (by trivial) (Ev.pos (by omega) (Ev.pos (by omega) (Ev.pos (by omega) ?_)))
      rw [rdN]
      exact hR
    have hFa : Rp.goodP (Rp.usrF U) (Rp.fxF X) (LN F U X) s y = false → Ev (fun k => r_Repair.j2 k (LN F U X) acc (s : Int) (-1) (j : Int) y (idxI U y) false F p U X) R := by
      intro hg
      rw [hg] at hf
      refine Ev.succ ?_
      simp only [r_Repair.j2]
      refine Ev.neg (by decide) ?_
      rw [nxt64 (by omega)]
      exact ih (j + 1) (by omega) hf hR
    have hB : ∀ b : Bool, Rp.goodP (Rp.usrF U) (Rp.fxF X) (LN F U X) s y = b → Ev (fun k => r_Repair.j2 k (LN F U X) acc (s : Int) (-1) (j : Int) y (idxI U y) b F p U X) R := by
      intro b hb
      cases b with
      | true => exact hT hb
      | false => exact hFa hb
    clear hT hFa
    unfold Rp.goodP at hB
    rw [idx_usr] at hB ⊢
    cases hu : Rp.usrF U y with
    | none =>
      rw [hu] at hB
      dsimp only at hB ⊢
      refine Ev.ite (fun e => ?_) (fun e => ?_)
      · refine Ev.pos (by decide) (hB true ?_)
        rw [e]; rfl
      · refine Ev.pos (by omega) (Ev.neg (by decide) (hB false ?_))
        exact beq_eq_false_iff_ne.2 e
    | some u =>
      rw [hu] at hB
      dsimp only at hB ⊢
      have hul := hG.lt _ _ hu
      have hdu := LN_r hG u hul
      have main : Ev (fun k => if (LN F U X).getD s 0 > 1 then if (u : Int) ≥ 0 then if (u : Int) = (s : Int) then r_Repair.j2 k (LN F U X) acc (s : Int) (-1) (j : Int) y (u : Int) false F p U X else if 0 ≤ (u : Int) then if (u : Int) < (X.length : Int) then if rdOf false X (u : Int) = true then r_Repair.j2 k (LN F U X) acc (s : Int) (-1) (j : Int) y (u : Int) false F p U X else if (u : Int) < ((LN F U X).length : Int) then r_Repair.j2 k (LN F U X) acc (s : Int) (-1) (j : Int) y (u : Int) (rd (LN F U X) (u : Int) == wrap64 ((LN F U X).getD s 0 - 1)) F p U X else none else none else none else r_Repair.j2 k (LN F U X) acc (s : Int) (-1) (j : Int) y (u : Int) false F p U X else r_Repair.j2 k (LN F U X) acc (s : Int) (-1) (j : Int) y (u : Int) false F p U X) R := by
        refine Ev.ite (fun e => ?_) (fun e => hB _ ?_)
        · refine Ev.pos (by omega) (Ev.ite (fun e2 => hB _ ?_) (fun e2 => Ev.pos (by omega) (Ev.pos (by omega) ?_)))
          · have : u = s := by omega
            subst this
            simp
          · rw [rdB]
            refine Ev.ite (fun e3 => hB _ ?_) (fun e3 => Ev.pos (by omega) (hB _ ?_))
            · have e4 : Rp.fxF X u = true := e3
              simp [e4]
            · have e4 : Rp.fxF X u = false := by unfold Rp.fxF; simpa using e3
              have e5 : u ≠ s := by omega
              rw [w64 (by omega) (by omega), rdN]
              rw [decide_eq_true (show 1 < (LN F U X).getD s 0 from e), decide_eq_true e5, e4]; rfl
        · rw [decide_eq_false (show ¬ 1 < (LN F U X).getD s 0 from e)]; rfl
      refine Ev.ite (fun e => Ev.neg (by omega) main) (fun e => main)
theorem rep_l0 (hG : Good F p U X) : ∀ (L : List (Nat × Int)) (s : Nat) (acc : List S69), s < F.length → acc.length + L.length < 1000000 → Rp.Greedy (Rp.fitF F) (Rp.usrF U) (Rp.fxF X) (LN F U X) s L →
    Ev (fun k => r_Repair.l0 k (LN F U X) acc (s : Int) F p U X) (acc ++ L.map fun e => (⟨(e.1 : Int), U.getD e.1 0, e.2⟩ : S69)) := by
  intro L
  induction L with
  | nil => intro s acc _ _ h; simp [Rp.Greedy] at h
  | cons e L ih =>
    intro s acc hs hacc h
    obtain ⟨t, x⟩ := e
    simp only [List.length_cons] at hacc
    refine Ev.succ ?_
    simp only [r_Repair.l0]
    refine Ev.pos (by omega) ?_
    have key : ∀ R, s = t → (Rp.fitF F s).find? (Rp.goodP (Rp.usrF U) (Rp.fxF X) (LN F U X) s) = some x → Ev (fun k => r_Repair.l0 k (LN F U X) (acc ++ [(⟨(s : Int), U.getD s 0, x⟩ : S69)]) (idxI U x) F p U X) R → Ev (fun k => r_Repair.l1 k (LN F U X) acc (s : Int) (-1) 0 F p U X) R := by
      intro R _ hf hR
      refine rep_l1 hG hs (by omega) (F.getD s []).length 0 (by omega) (by rw [List.drop_zero]; exact hf) ?_
      refine Ev.succ ?_
      simp only [r_Repair.j3]
      exact hR
    cases L with
    | nil =>
      obtain ⟨h1, h2, h3⟩ := h
      subst h1
      refine key _ rfl h3 ?_
      rw [idx_usr, h2]
      refine Ev.succ ?_
      simp only [r_Repair.l0]
      exact Ev.neg (by decide) (Ev.now _)
    | cons e2 L =>
      obtain ⟨h1, u, h2, h3, h4⟩ := h
      subst h1
      refine key _ rfl h3 ?_
      rw [idx_usr, h2]
      dsimp only
      have := ih u (acc ++ [(⟨(s : Int), U.getD s 0, x⟩ : S69)]) (hG.lt _ _ h2) (by simp at hacc ⊢; omega) h4
      refine Ev.eq this ?_
      simp
theorem rep_none (hG : Good F p U X) {s : Nat} (hs : s < F.length) (h : (LN F U X).getD s 0 ≥ 1000) : Ev (fun k => r_Repair.f k F p U X (s : Int)) [] := by
  have hLl := LN_len hG
  unfold r_Repair.f
  refine Ev.bind (lengths_ev hG) (Ev.cbind rfl (Ev.pos (by omega) (Ev.pos (by rw [hLl]; omega) ?_)))
  rw [rdN]
  exact Ev.pos h (Ev.now _)
theorem rep_some (hG : Good F p U X) {s : Nat} (hs : s < F.length) (h : (LN F U X).getD s 0 < 1000) {L : List (Nat × Int)} (hL : L.length < 100000) (hg : Rp.Greedy (Rp.fitF F) (Rp.usrF U) (Rp.fxF X) (LN F U X) s L) :
    Ev (fun k => r_Repair.f k F p U X (s : Int)) (L.map fun e => (⟨(e.1 : Int), U.getD e.1 0, e.2⟩ : S69)) := by
  have hLl := LN_len hG
  unfold r_Repair.f
  refine Ev.bind (lengths_ev hG) (Ev.cbind rfl (Ev.pos (by omega) (Ev.pos (by rw [hLl]; omega) ?_)))
  rw [rdN]
  refine Ev.neg (fun hc => by have hc2 : (LN F U X).getD s 0 ≥ 1000 := hc; omega) ?_
  have := rep_l0 hG L s [] hs (by simp; omega) hg
  simpa using this
end
end Go.Proofs.Ytkeomlmlimkebaa.Rq
