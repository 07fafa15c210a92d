/-
  ReplaceChecks: Check accepts exactly the valid plans; Break and Free return what they should, or the first error.
-/
import Derived.Test.YtkeomlmlimkebaaZRp11
import Derived.Test.YtkeomlmlimkebaaZQAx14
import Derived.Test.YtkeomlmlimkebaaZQAx11
namespace Go.Proofs.Ytkeomlmlimkebaa.Pure
open Go.RowKit Go.Proofs.Ytkeomlmlimkebaa.QA Go.Proofs.YtkeomlmlimkebaaW.PrintWords Go.Proofs.YtkeomlmlimkebaaW.PrintLast Go.Proofs.YtkeomlmlimkebaaW.PrintMore Go.Proofs.Ytkeomlmlimkebaa.EvKit Go.Proofs.Ytkeomlmlimkebaa.Rq
set_option linter.unusedVariables false
set_option linter.unusedSimpArgs false
theorem ck_zero : Ev (fun k => r_Same.f k [] 0 [] [] [] 0 [] []) true := same_refl [] 0 [] [] (by simp) (by simp) (by simp) (fun j hj => by simp at hj)
theorem ReplaceChecks : w_ReplaceChecks.Pure := by
  intro F p U X a1 o0 o1 o2 o3 o4
  refine Ev.rounds ?_
  unfold w_ReplaceChecks.f
  obtain ⟨b, hb, hb2⟩ := few_ev F p U X
  refine Ev.bind hb (Ev.ite (fun h => ?_) (fun _ => awake_some))
  obtain ⟨h1, h2, h3, h4⟩ := hb2 h
  obtain ⟨e, he, her⟩ := check_same F p U X h4
  refine Ev.cbind (a := (F, p, U, X)) rfl ?_
  dsimp only
  have hj1 : Ev (fun k => w_ReplaceChecks.j1 k true) true := Ev.step (f := fun _ => some true) (fun _ => rfl) (Ev.now _)
  have hj3 : Ev (fun k => w_ReplaceChecks.j3 k true) true := Ev.step (f := fun _ => some true) (fun _ => rfl) (Ev.now _)
  have hj5 : Ev (fun k => w_ReplaceChecks.j5 k true) true := Ev.step (f := fun _ => some true) (fun _ => rfl) (Ev.now _)
  have hj6 : Ev (fun k => w_ReplaceChecks.j6 k true) true := Ev.step (f := fun _ => some true) (fun _ => rfl) (Ev.now _)
  by_cases c0 : e = 0
  · subst c0
    have hG := Good.of he
    have hn1 := hG.ok.n1
    have hn2 := hG.ok.n2
    have hn3 := hG.ok.n3
    have hp := hG.ok.p64
    have hp0 := hG.p0
    have hfree : Ev (fun k => replace_Free.f k F p U X) (freeL p.toNat U 0, 0) := by
      unfold replace_Free.f
      exact Ev.cbind he (Ev.pos rfl (free_prog hG))
    have hfl : (freeL p.toNat U 0).length < 1000000 := by
      unfold freeL
      refine Nat.lt_of_le_of_lt (List.length_filter_le _ _) ?_
      simp
      omega
    -- behind the comparison of Free
    have body : ∀ E F' p' U' X', Ev (fun k => if a1 < 0 then w_ReplaceChecks.j2 k a1 E true F p U X F' p' U' X' else w_ReplaceChecks.j2 k a1 E (decide (a1 ≥ p)) F p U X F' p' U' X') true → Ev (fun k => w_ReplaceChecks.j0 k a1 E (freeL p.toNat U 0) 0 false F p U X F' p' U' X') true := by
      intro E F' p' U' X' h
      refine Ev.succ ?_
      simp only [w_ReplaceChecks.j0]
      exact Ev.neg (by decide) (Ev.pos (by trivial) (Ev.bind (free_ref hG) (Ev.bind (same_ints _ hfl) (Ev.pos rfl h))))
    have go : ∀ E F' p' U' X', replace_Break.f F p U X a1 = some (F', p', U', X', E) → Ev (fun k => if a1 < 0 then w_ReplaceChecks.j2 k a1 E true F p U X F' p' U' X' else w_ReplaceChecks.j2 k a1 E (decide (a1 ≥ p)) F p U X F' p' U' X') true → Ev (fun k => (replace_Break.f F p U X a1).bind fun bt301 => ((w_ours.f F p U X).bind fun bt313 => ((replace_Free.f k bt313.1 bt313.2.1 bt313.2.2.1 bt313.2.2.2).bind fun bt323 => ((r_Check.f F p U X).bind fun t327 => ((w_ours.f F p U X).bind fun bt328 => ((replace_Check.f bt328.1 bt328.2.1 bt328.2.2.1 bt328.2.2.2).bind fun t338 => (if t338 = t327 then (w_ReplaceChecks.j0 k a1 bt301.2.2.2.2 bt323.1 t327 (bt323.2 != t327) F p U X bt301.1 bt301.2.1 bt301.2.2.1 bt301.2.2.2.1) else (w_ReplaceChecks.j0 k a1 bt301.2.2.2.2 bt323.1 t327 true F p U X bt301.1 bt301.2.1 bt301.2.2.1 bt301.2.2.2.1)))))))) true := by
      intro E F' p' U' X' hB h
      refine Ev.cbind hB (Ev.cbind (a := (F, p, U, X)) rfl ?_)
      dsimp only
      refine Ev.bind hfree (Ev.cbind her (Ev.cbind (a := (F, p, U, X)) rfl ?_))
      dsimp only
      exact Ev.cbind he (Ev.pos rfl (body E F' p' U' X' h))
    have hB := Break_is (a1 := a1) he
    by_cases c1 : a1 < 0 ∨ a1 ≥ p
    · rw [if_pos c1] at hB
      refine go _ _ _ _ _ hB ?_
      have h2 : Ev (fun k => w_ReplaceChecks.j2 k a1 6 true F p U X [] 0 [] []) true := by
        refine Ev.succ ?_
        simp only [w_ReplaceChecks.j2]
        refine Ev.pos (by trivial) (Ev.bind awake_ev (Ev.pos rfl (Ev.pos (by trivial) (Ev.cbind (a := ([], 0, [], [])) rfl ?_))))
        dsimp only
        exact Ev.bind ck_zero hj3
      refine Ev.ite (fun _ => h2) (fun h => ?_)
      rw [decide_eq_true (show a1 ≥ p by omega)]
      exact h2
    · rw [if_neg c1] at hB
      have hu := user_ref F p U X a1 (by omega)
      have ha : 0 ≤ a1 := by omega
      have hlt : idxI U a1 < (X.length : Int) := by
        rw [idx_usr]
        cases hus : Rp.usrF U a1 with
        | none => dsimp only; omega
        | some u => have := hG.lt a1 u hus; dsimp only; omega
      by_cases c2 : 0 ≤ idxI U a1 ∧ X.getD (idxI U a1).toNat false = true
      · rw [if_pos c2] at hB
        refine go _ _ _ _ _ hB (Ev.neg (by omega) ?_)
        rw [decide_eq_false (by omega)]
        refine Ev.succ ?_
        simp only [w_ReplaceChecks.j2]
        refine Ev.neg (by decide) (Ev.bind hu (Ev.pos c2.1 (Ev.pos c2.1 (Ev.pos hlt ?_))))
        rw [show rdOf false X (idxI U a1) = true from c2.2]
        refine Ev.succ ?_
        simp only [w_ReplaceChecks.j4]
        refine Ev.pos (by trivial) (Ev.bind awake_ev (Ev.pos rfl (Ev.pos (by trivial) (Ev.cbind (a := ([], 0, [], [])) rfl ?_))))
        dsimp only
        exact Ev.bind ck_zero hj5
      · rw [if_neg c2] at hB
        refine go _ _ _ _ _ hB (Ev.neg (by omega) ?_)
        rw [decide_eq_false (by omega)]
        have h4' : Ev (fun k => w_ReplaceChecks.j4 k a1 0 false F p U X (F.map (remP a1)) p (brkU U a1) X) true := by
          refine Ev.succ ?_
          simp only [w_ReplaceChecks.j4]
          refine Ev.neg (by decide) (Ev.bind awake_ev (Ev.pos rfl (Ev.pos (by trivial) (Ev.cbind (a := (F.map (remP a1), p, brkU U a1, X)) rfl ?_))))
          dsimp only
          refine Ev.bind (break_ref hG a1) ?_
          dsimp only
          rw [brkU_map hG ha]
          refine Ev.bind (same_refl _ _ _ _ (by rw [List.length_map]; omega) (by rw [List.length_map]; omega) (by omega) (fun j hj => ?_)) hj6
          rw [remP_getD]
          have h5 := hG.row j
          have h6 := List.length_filter_le (fun y => !(y == a1)) (F.getD j [])
          unfold remP
          omega
        refine Ev.succ ?_
        simp only [w_ReplaceChecks.j2]
        refine Ev.neg (by decide) (Ev.bind hu (Ev.ite (fun c3 => Ev.pos c3 (Ev.pos hlt ?_)) (fun c3 => h4')))
        have : rdOf false X (idxI U a1) = false := by
          show X.getD (idxI U a1).toNat false = false
          cases hx : X.getD (idxI U a1).toNat false with
          | false => rfl
          | true => exact (c2 ⟨c3, hx⟩).elim
        rw [this]
        exact h4'
  · have hfree : Ev (fun k => replace_Free.f k F p U X) ([], e) := by
      unfold replace_Free.f
      exact Ev.cbind he (Ev.neg c0 (Ev.now _))
    refine Ev.cbind (Break_err he c0) (Ev.cbind (a := (F, p, U, X)) rfl ?_)
    dsimp only
    refine Ev.bind hfree (Ev.cbind her (Ev.cbind (a := (F, p, U, X)) rfl ?_))
    dsimp only
    refine Ev.cbind he (Ev.pos rfl ?_)
    rw [bne_self_eq_false]
    refine Ev.succ ?_
    simp only [w_ReplaceChecks.j0]
    refine Ev.neg (by decide) (Ev.neg c0 (Ev.bind awake_ev (Ev.pos rfl (Ev.pos (by trivial) (Ev.cbind (a := ([], 0, [], [])) rfl ?_)))))
    dsimp only
    exact Ev.bind ck_zero (Ev.pos rfl hj1)
end Go.Proofs.Ytkeomlmlimkebaa.Pure
