/-
  ReplaceEither: a stone without a piece has either a repair, behind which it and all stones that had a piece have one and nothing that is fixed has changed, or a refusal that refutes.
-/
import Derived.Test.YtkeomlmlimkebaaZRp13
import Derived.Test.YtkeomlmlimkebaaZRpQ
import Derived.Test.YtkeomlmlimkebaaZQAx25
namespace Go.Proofs.Ytkeomlmlimkebaa.Pure
open Go.RowKit Go.Proofs.Ytkeomlmlimkebaa.QA Go.Proofs.YtkeomlmlimkebaaW.PrintWords Go.Proofs.YtkeomlmlimkebaaW.PrintLast Go.Proofs.YtkeomlmlimkebaaW.PrintMore Go.Proofs.Ytkeomlmlimkebaa.EvKit Go.Proofs.Ytkeomlmlimkebaa.Rq
set_option linter.unusedVariables false
set_option linter.unusedSimpArgs false
theorem check_ne9 {F : List (List Int)} {p : Int} {U : List Int} {X : List Bool} {e : Int} (h : replace_Check.f F p U X = some e) : e ≠ 9 := by
  unfold replace_Check.f at h
  intro h9
  subst h9
  split at h
  · simp at h
  · split at h
    · simp at h
    · split at h
      · split at h
        · simp at h
        · split at h <;> simp at h
      · simp at h
theorem opE_ne9 {F : List (List Int)} {p : Int} {U : List Int} {X : List Bool} {e a1 : Int} (h : replace_Check.f F p U X = some e) : opE e F U a1 ≠ 9 := by
  unfold opE
  split
  · split
    · decide
    · split <;> decide
  · exact check_ne9 h
theorem ei_l0 {F F' : List (List Int)} {p p' : Int} {U V : List Int} {X X' : List Bool} (hV : V.length = U.length) (hX : X.length = U.length) (hU : U.length ≤ 1000) (h : ∀ i, i < U.length → (0 ≤ U.getD i 0 → 0 ≤ V.getD i 0) ∧ (X.getD i false = true → V.getD i 0 = U.getD i 0)) :
    ∀ m i, U.length = i + m → Ev (fun k => w_ReplaceEither.l0 k (i : Int) F p U X F' p' V X') true := by
  intro m
  induction m with
  | zero =>
    intro i hi
    refine Ev.succ ?_
    simp only [w_ReplaceEither.l0]
    exact Ev.neg (by omega) awake_some
  | succ m ih =>
    intro i hi
    obtain ⟨h1, h2⟩ := h i (by omega)
    have hF : Ev (fun k => w_ReplaceEither.j4 k (i : Int) false F p U X F' p' V X') true := by
      refine Ev.succ ?_
      simp only [w_ReplaceEither.j4]
      refine Ev.neg (by decide) ?_
      rw [nxt64 (by omega)]
      exact ih (i + 1) (by omega)
    refine Ev.succ ?_
    simp only [w_ReplaceEither.l0, rdN, rdB]
    refine Ev.pos (by omega) (Ev.pos (by omega) (Ev.ite (fun c1 => Ev.pos (by omega) (Ev.neg (by have := h1 c1; omega) (Ev.pos (by omega) (Ev.ite (fun c2 => ?_) (fun _ => hF))))) (fun c1 => Ev.pos (by omega) (Ev.ite (fun c2 => Ev.pos (by omega) ?_) (fun _ => hF)))))
    · rw [h2 c2, bne_self_eq_false]; exact hF
    · rw [h2 c2, bne_self_eq_false]; exact hF
theorem ReplaceEither : w_ReplaceEither.Pure := by
  intro F p U X a1 o0 o1 o2 o3 o4
  refine Ev.rounds ?_
  unfold w_ReplaceEither.f
  obtain ⟨b, hb, hb2⟩ := few_ev F p U X
  refine Ev.bind hb (Ev.ite (fun h => ?_) (fun _ => awake_some))
  obtain ⟨h1, h2, h3, h4⟩ := hb2 h
  obtain ⟨e, he, her⟩ := check_same F p U X h4
  refine Ev.cbind (a := (F, p, U, X)) rfl ?_
  dsimp only
  by_cases hop : opE e F U a1 = 0
  · obtain ⟨rfl, g1, g2, g3⟩ := opE_zero hop
    have hG := Good.of he
    have hn1 := hG.ok.n1
    have hn2 := hG.ok.n2
    have hn3 := hG.ok.n3
    obtain ⟨s, rfl⟩ : ∃ s : Nat, a1 = (s : Int) := ⟨a1.toNat, by omega⟩
    rw [Int.toNat_natCast] at g3
    rcases search_main hG (show s < F.length by omega) g3 with ⟨L, hL1, hL2, hgr, hs, hr⟩ | ⟨T, hI, hs, hr⟩
    · refine Ev.cbind (Repair_ok he hop hs) (Ev.cbind (a := (F, p, U, X)) rfl ?_)
      dsimp only
      refine Ev.cbind (Refusal_ok he hop hs) ?_
      dsimp only [repOf, refOf]
      refine Ev.pos rfl ?_
      obtain ⟨V, k1, k2, k3, k4, k5, k6⟩ := repair_applied hG he (show s < F.length by omega) g3 (by omega) hgr
      have hl : (((Rp.chs U L).map toS).length) = L.length := by simp [Rp.chs]
      refine Ev.succ ?_
      simp only [w_ReplaceEither.j0]
      refine Ev.neg (by decide) (Ev.neg (by decide) (Ev.cbind (a := (F, p, U, X)) rfl ?_))
      dsimp only
      refine Ev.cbind k1 ?_
      dsimp only
      refine Ev.pos (by trivial) (Ev.pos rfl (Ev.pos (by omega) (Ev.neg (by omega) (Ev.neg (by omega) (Ev.neg (by omega) (Ev.pos (by omega) (Ev.cbind k2 (Ev.pos rfl (Ev.pos (by omega) (Ev.pos (by omega) ?_))))))))))
      rw [rdN, decide_eq_false (by omega)]
      refine Ev.succ ?_
      simp only [w_ReplaceEither.j2]
      exact Ev.neg (by decide) (ei_l0 k3 (by omega) (by omega) (fun i hi => k6 i (by omega)) U.length 0 (by omega))
    · have hlq : (insL (QL U X s T)).length < 1000 := by
        rw [(insL_perm _).length_eq]
        have := Q_bound hG (by omega) g3 hI
        simp only [QL, List.length_map]
        omega
      have hlp : (insL (T.map (·.1))).length < 1000 := by
        rw [(insL_perm _).length_eq]
        have h5 := Rp.nodup_len p.toNat (T.map (·.1)) hI.nd (fun x hx => by
          obtain ⟨t, _, h6⟩ := t_of hI hx
          exact hG.ok.rng t x h6)
        have := hG.ok.p64
        omega
      refine Ev.cbind (Repair_ok he hop hs) (Ev.cbind (a := (F, p, U, X)) rfl ?_)
      dsimp only
      refine Ev.cbind (Refusal_ok he hop hs) ?_
      dsimp only [repOf, refOf]
      refine Ev.neg (by decide) ?_
      rw [bne_self_eq_false]
      refine Ev.succ ?_
      simp only [w_ReplaceEither.j0]
      refine Ev.neg (by decide) (Ev.pos (by trivial) (Ev.bind awake_ev (Ev.pos rfl (Ev.pos (by trivial) (Ev.cbind (a := (F, p, U, X)) rfl ?_)))))
      dsimp only
      refine Ev.cbind (refutes_prog F p U X (s : Int) (l2 := insL (QL U X s T)) (l3 := insL (T.map (·.1))) (by omega) (by omega) he) ?_
      rw [refuse_true hG (by omega) g3 hI]
      exact Ev.step (f := fun _ => some true) (fun _ => rfl) (Ev.now _)
  · refine Ev.cbind (Repair_err he hop) (Ev.cbind (a := (F, p, U, X)) rfl ?_)
    dsimp only
    refine Ev.cbind (Refusal_err he hop) ?_
    dsimp only
    refine Ev.neg hop ?_
    rw [show (opE e F U a1 != 9) = true from bne_iff_ne.2 (opE_ne9 he)]
    refine Ev.succ ?_
    simp only [w_ReplaceEither.j0]
    refine Ev.pos (by trivial) (Ev.bind awake_ev (Ev.pos rfl ?_))
    rw [beq_self_eq_true]
    exact Ev.now _
end Go.Proofs.Ytkeomlmlimkebaa.Pure
