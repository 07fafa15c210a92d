/-
  The row of the law ReplaceRefuses: whatever the input, the call answers true and the arguments read as before. (Out of the pure statement, PureReplaceRefuses, and the walk; written by a program of this session.)
-/
import Derived.Test.YtkeomlmlimkebaaRows
import Derived.Test.YtkeomlmlimkebaaZQAx20
import Derived.Test.YtkeomlmlimkebaaZPureReplaceRefuses
import Derived.Test.YtkeomlmlimkebaaZQAxo
import Derived.WalkKit
import Derived.ProofKit
import Derived.OpenShut
import Derived.ShutString
import Derived.ChangeOld
import Derived.Below
import Derived.SizedLaws
import Derived.Carry
import Derived.WideShapes
namespace Go.Proofs.Ytkeomlmlimkebaa.replaceRefuses
open Go.ChangeShapes Go.WideShapes Go.ChangeAt Go.RowKit Go.Proofs.Ytkeomlmlimkebaa.QA Go.Proofs.YtkeomlmlimkebaaW.PrintWords
open Go.ChangeMaps (open_string shut_string)
set_option linter.unusedVariables false
theorem own : ownKnob Try.prog.godebug = none := by kernel_rfl
theorem laidOut : laidOutB Try.prog = true := by kernel_rfl
set_option maxRecDepth 100000 in
theorem lifted (os : Os) (started : os.Started) (H : Type) (enc : TypeId × Value → H) :
    ReturnsInHanded {} Try.checked os 4 .any (Rows.replaceRefusesSpec.pre6 enc Try.prog Try.f4 Rows.replaceRefusesRow.domain false) (Rows.replaceRefusesSpec.post enc Try.prog Try.f4 false true false false) := by
  refine returnsInHanded_of_change_sized (C := Try.checked) own started (by kernel_rfl) Try.func4
    (ChangeSpec.witness6 (enc := enc) (C := Try.checked) false ⟨#[], #[.agg #[.slice none 0 0, .int .i64 0, .slice none 0 0, .slice none 0 0], .int .i64 0, .slice none 0 0, .slice none 0 0], []⟩ 8 (by kernel_rfl) (by kernel_rfl) (by kernel_rfl) (by kernel_rfl)) ?_
  intro W base args ds gs before hval0 hW hcnd hsz0 _
  have hval : ∀ (j : Nat) t v, Try.f4.params[j]? = some t → args[j]? = some v → Value.okWide Try.prog W .any base t v := hval0
  have hW' := hW
  obtain ⟨p, q, hA0, hV, rfl, hfz, hnd⟩ := hW
  have hA : DataW.TrodAll enc Try.prog W 0 (fun _ => true) true Try.f4.params.toList args.toList ds p := hA0
  rw [Try.params4] at hA hval
  obtain ⟨v0, vs0, d0, ds0, p0, q0, hargs, rfl, rfl, h0, r0⟩ := trodAll_cons hA
  obtain ⟨v1, vs1, d1, ds1, p1, q1, rfl, rfl, rfl, h1, r1⟩ := trodAll_cons r0
  obtain ⟨v2, vs2, d2, ds2, p2, q2, rfl, rfl, rfl, h2, r2⟩ := trodAll_cons r1
  obtain ⟨v3, vs3, d3, ds3, p3, q3, rfl, rfl, rfl, h3, r3⟩ := trodAll_cons r2
  obtain ⟨rfl, rfl, rfl⟩ := trodAll_nil r3
  obtain rfl : args = #[v0, v1, v2, v3] := by cases args; simp_all
  obtain ⟨rfl, rfl⟩ := trodVars_none hV
  have k0 := h0
  have lt0 : ∀ x ∈ p0, x.block < W.heap.size := by obtain ⟨m, hm⟩ := k0; exact DataW.trod_lt m _ _ _ hm
  obtain ⟨fu0, hf0⟩ := h0
  obtain ⟨cs0, rfl, _⟩ := okWide_struct Try.underlying26 (hval 0 26 v0 rfl rfl)
  obtain ⟨x0, K0, o0⟩ := (opS26 : Opn.Opens enc Try.prog W 26 k26 okS26) _ _ _ hf0
  obtain ⟨A0_0, c0_0, A0_2, c0_2, A0_3, c0_3, hx0, hc0_0, hr0_0, hc0_2, hr0_2, hc0_3, hr0_3⟩ := openK26 K0
  obtain rfl := (show cs0 = _ from Array.toList_inj.1 (by simpa [Value.cells] using hx0) : cs0 = #[.slice A0_0 (x0).f0.length c0_0, .int .i64 ((x0).f1), .slice A0_2 (x0).f2.length c0_2, .slice A0_3 (x0).f3.length c0_3])
  obtain ⟨a1, rfl, rfl, rfl, w1⟩ := open_int Try.underlying3 (hval 1 3 v1 rfl rfl) h1
  have k2 := h2
  have lt2 : ∀ x ∈ p2, x.block < W.heap.size := by obtain ⟨m, hm⟩ := k2; exact DataW.trod_lt m _ _ _ hm
  obtain ⟨fu2, hf2⟩ := h2
  obtain ⟨a2, len2, cap2, rfl⟩ := okWide_slice Try.underlying23 (hval 2 23 v2 rfl rfl)
  obtain ⟨x2, ⟨A2, c2, hx2, hc2, hr2⟩, o2⟩ := ((Opn.opens_slice Try.underlying23 (Opn.opens_int Try.underlying3) (by kernel_rfl)) : Opn.Opens enc Try.prog W 23 (Kd.slice 3 (Kd.int .i64)) (fun l => l.length ≤ maxLen ∧ ∀ x, x ∈ l → (fun n => (Lit.int .i64 n).wf = true) x)) _ _ _ hf2
  simp [Value.cells] at hx2
  obtain ⟨rfl, rfl, rfl⟩ := hx2
  have k3 := h3
  have lt3 : ∀ x ∈ p3, x.block < W.heap.size := by obtain ⟨m, hm⟩ := k3; exact DataW.trod_lt m _ _ _ hm
  obtain ⟨fu3, hf3⟩ := h3
  obtain ⟨a3, len3, cap3, rfl⟩ := okWide_slice Try.underlying23 (hval 3 23 v3 rfl rfl)
  obtain ⟨x3, ⟨A3, c3, hx3, hc3, hr3⟩, o3⟩ := ((Opn.opens_slice Try.underlying23 (Opn.opens_int Try.underlying3) (by kernel_rfl)) : Opn.Opens enc Try.prog W 23 (Kd.slice 3 (Kd.int .i64)) (fun l => l.length ≤ maxLen ∧ ∀ x, x ∈ l → (fun n => (Lit.int .i64 n).wf = true) x)) _ _ _ hf3
  simp [Value.cells] at hx3
  obtain ⟨rfl, rfl, rfl⟩ := hx3
  clear hA0 hval0 hsz0
  refine (w_ReplaceRefuses.walk Pure.ReplaceRefuses _ _ (x0).f0 (x0).f1 _ _ (x0).f2 _ _ (x0).f3 a1 _ _ x2 _ _ x3 W hr0_0 hc0_0 hr0_2 hc0_2 hr0_3 hc0_3 hr2 hc2 hr3 hc3 (o0.1) (o0.2.1) (o0.2.2.1) (o0.2.2.2) w1 o2 o3).mono fun e W' ⟨he, bel⟩ => ?_
  subst he
  exact ⟨_, rfl, _, _, _, [], _, [], hW', trodAll_mk1 (shut_bool Try.underlying4 _), (trodAll_cons_mk (Below.trod laidOut (by kernel_rfl) (of_decide_eq_true (by kernel_rfl)) k0 bel lt0) (trodAll_cons_mk (shut_int Try.underlying3 w1) (trodAll_cons_mk (Below.trod laidOut (by kernel_rfl) (of_decide_eq_true (by kernel_rfl)) k2 bel lt2) (trodAll_cons_mk (Below.trod laidOut (by kernel_rfl) (of_decide_eq_true (by kernel_rfl)) k3 bel lt3) trodAll_mk0)))), rfl, bel.frame _, fun h => by cases h⟩
theorem over : Rows.replaceRefusesRow.holds Try.pinned (OpenSpec.ofChange Rows.replaceRefusesSpec) :=
  OpenClaim.holds_of_wide 4 Try.f4 rfl rfl rfl rfl rfl rfl rfl ⟨rfl, rfl, rfl, rfl, rfl⟩ rfl rfl rfl rfl rfl (by kernel_rfl) Try.func4 (by kernel_rfl)
    (of_decide_eq_true (by kernel_rfl)) (by unfold Func.isWrapper; first | (rw [if_pos (by decide +kernel)]; kernel_rfl) | (rw [if_neg (by decide +kernel)]; exact ⟨rfl, rfl⟩))
    (fun os started H enc _ => lifted os started H enc)
theorem proved : Rows.ReplaceRefusesSaid := over
#print axioms proved
end Go.Proofs.Ytkeomlmlimkebaa.replaceRefuses
namespace Go.Proofs.Ytkeomlmlimkebaa
/-- The row, under a short name, for the claim. -/
theorem replaceRefuses_holds : Rows.ReplaceRefusesSaid := replaceRefuses.proved
end Go.Proofs.Ytkeomlmlimkebaa
