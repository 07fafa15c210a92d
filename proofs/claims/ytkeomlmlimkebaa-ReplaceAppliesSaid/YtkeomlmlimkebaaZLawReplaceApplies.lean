/-
  The row of the law ReplaceApplies: whatever the input, the call answers true and the arguments read as before. (Out of the pure statement, PureReplaceApplies, and the walk; written by a program of this session.)
-/
import Derived.Test.YtkeomlmlimkebaaRows
import Derived.Test.YtkeomlmlimkebaaZQAx24
import Derived.Test.YtkeomlmlimkebaaZPureReplaceApplies
import Derived.Test.YtkeomlmlimkebaaZQAxo
import Derived.WalkKit
import Derived.ProofKit
import Derived.OpenShut
import Derived.ShutString
import Derived.ChangeOld
import Derived.Below
import Derived.SizedLaws
import Derived.Carry
import Derived.WideShapes
namespace Go.Proofs.Ytkeomlmlimkebaa.replaceApplies
open Go.ChangeShapes Go.WideShapes Go.ChangeAt Go.RowKit Go.Proofs.Ytkeomlmlimkebaa.QA Go.Proofs.YtkeomlmlimkebaaW.PrintWords
open Go.ChangeMaps (open_string shut_string)
set_option linter.unusedVariables false
theorem own : ownKnob Try.prog.godebug = none := by kernel_rfl
theorem laidOut : laidOutB Try.prog = true := by kernel_rfl
set_option maxRecDepth 100000 in
theorem lifted (os : Os) (started : os.Started) (H : Type) (enc : TypeId × Value → H) :
    ReturnsInHanded {} Try.checked os 7 .any (Rows.replaceAppliesSpec.pre6 enc Try.prog Try.f7 Rows.replaceAppliesRow.domain false) (Rows.replaceAppliesSpec.post enc Try.prog Try.f7 false true false false) := by
  refine returnsInHanded_of_change_sized (C := Try.checked) own started (by kernel_rfl) Try.func7
    (ChangeSpec.witness6 (enc := enc) (C := Try.checked) false ⟨#[], #[.agg #[.slice none 0 0, .int .i64 0, .slice none 0 0, .slice none 0 0], .slice none 0 0], []⟩ 8 (by kernel_rfl) (by kernel_rfl) (by kernel_rfl) (by kernel_rfl)) ?_
  intro W base args ds gs before hval0 hW hcnd hsz0 _
  have hval : ∀ (j : Nat) t v, Try.f7.params[j]? = some t → args[j]? = some v → Value.okWide Try.prog W .any base t v := hval0
  have hW' := hW
  obtain ⟨p, q, hA0, hV, rfl, hfz, hnd⟩ := hW
  have hA : DataW.TrodAll enc Try.prog W 0 (fun _ => true) true Try.f7.params.toList args.toList ds p := hA0
  rw [Try.params7] at hA hval
  obtain ⟨v0, vs0, d0, ds0, p0, q0, hargs, rfl, rfl, h0, r0⟩ := trodAll_cons hA
  obtain ⟨v1, vs1, d1, ds1, p1, q1, rfl, rfl, rfl, h1, r1⟩ := trodAll_cons r0
  obtain ⟨rfl, rfl, rfl⟩ := trodAll_nil r1
  obtain rfl : args = #[v0, v1] := by cases args; simp_all
  obtain ⟨rfl, rfl⟩ := trodVars_none hV
  have k0 := h0
  have lt0 : ∀ x ∈ p0, x.block < W.heap.size := by obtain ⟨m, hm⟩ := k0; exact DataW.trod_lt m _ _ _ hm
  obtain ⟨fu0, hf0⟩ := h0
  obtain ⟨cs0, rfl, _⟩ := okWide_struct Try.underlying26 (hval 0 26 v0 rfl rfl)
  obtain ⟨x0, K0, o0⟩ := (opS26 : Opn.Opens enc Try.prog W 26 k26 okS26) _ _ _ hf0
  obtain ⟨A0_0, c0_0, A0_2, c0_2, A0_3, c0_3, hx0, hc0_0, hr0_0, hc0_2, hr0_2, hc0_3, hr0_3⟩ := openK26 K0
  obtain rfl := (show cs0 = _ from Array.toList_inj.1 (by simpa [Value.cells] using hx0) : cs0 = #[.slice A0_0 (x0).f0.length c0_0, .int .i64 ((x0).f1), .slice A0_2 (x0).f2.length c0_2, .slice A0_3 (x0).f3.length c0_3])
  have k1 := h1
  have lt1 : ∀ x ∈ p1, x.block < W.heap.size := by obtain ⟨m, hm⟩ := k1; exact DataW.trod_lt m _ _ _ hm
  obtain ⟨fu1, hf1⟩ := h1
  obtain ⟨a1, len1, cap1, rfl⟩ := okWide_slice Try.underlying36 (hval 1 36 v1 rfl rfl)
  obtain ⟨x1, ⟨A1, c1, hx1, hc1, hr1⟩, o1⟩ := ((Opn.opens_slice Try.underlying36 opS69 (by kernel_rfl)) : Opn.Opens enc Try.prog W 36 (Kd.slice 69 k69) (fun l => l.length ≤ maxLen ∧ ∀ x, x ∈ l → okS69 x)) _ _ _ hf1
  simp [Value.cells] at hx1
  obtain ⟨rfl, rfl, rfl⟩ := hx1
  clear hA0 hval0 hsz0
  refine (w_ReplaceApplies.walk Pure.ReplaceApplies _ _ (x0).f0 (x0).f1 _ _ (x0).f2 _ _ (x0).f3 _ _ x1 W hr0_0 hc0_0 hr0_2 hc0_2 hr0_3 hc0_3 hr1 hc1 (o0.1) (o0.2.1) (o0.2.2.1) (o0.2.2.2) o1).mono fun e W' ⟨he, bel⟩ => ?_
  subst he
  exact ⟨_, rfl, _, _, _, [], _, [], hW', trodAll_mk1 (shut_bool Try.underlying4 _), (trodAll_cons_mk (Below.trod laidOut (by kernel_rfl) (of_decide_eq_true (by kernel_rfl)) k0 bel lt0) (trodAll_cons_mk (Below.trod laidOut (by kernel_rfl) (of_decide_eq_true (by kernel_rfl)) k1 bel lt1) trodAll_mk0)), rfl, bel.frame _, fun h => by cases h⟩
theorem over : Rows.replaceAppliesRow.holds Try.pinned (OpenSpec.ofChange Rows.replaceAppliesSpec) :=
  OpenClaim.holds_of_wide 7 Try.f7 rfl rfl rfl rfl rfl rfl rfl ⟨rfl, rfl, rfl, rfl, rfl⟩ rfl rfl rfl rfl rfl (by kernel_rfl) Try.func7 (by kernel_rfl)
    (of_decide_eq_true (by kernel_rfl)) (by unfold Func.isWrapper; first | (rw [if_pos (by decide +kernel)]; kernel_rfl) | (rw [if_neg (by decide +kernel)]; exact ⟨rfl, rfl⟩))
    (fun os started H enc _ => lifted os started H enc)
theorem proved : Rows.ReplaceAppliesSaid := over
#print axioms proved
end Go.Proofs.Ytkeomlmlimkebaa.replaceApplies
namespace Go.Proofs.Ytkeomlmlimkebaa
/-- The row, under a short name, for the claim. -/
theorem replaceApplies_holds : Rows.ReplaceAppliesSaid := replaceApplies.proved
end Go.Proofs.Ytkeomlmlimkebaa
