import Derived.Test.YtcofgnbopodahaaRows
import Derived.Test.YtcofgnbopodahaaKQAx25
import Derived.Test.YtcofgnbopodahaaKPureModelVolumes
import Derived.Test.YtcofgnbopodahaaKQAxo
import Derived.WalkKit
import Derived.ProofKit
import Derived.OpenShut
import Derived.ShutString
import Derived.ChangeOld
import Derived.Below
import Derived.SizedLaws
import Derived.Carry
import Derived.WideShapes
/-
  The row of the law ModelVolumes: whatever the input, the call answers true and the arguments read as before. (Out of the pure statement, PureModelVolumes, and the walk; written by a program of this session.)
-/
namespace Go.Proofs.Ytcofgnbopodahaa.modelVolumes
open Go.ChangeShapes Go.WideShapes Go.ChangeAt Go.RowKit Go.Proofs.Ytcofgnbopodahaa.QA Go.Proofs.YtcofgnbopodahaaW.PrintWords
open Go.ChangeMaps (open_string shut_string)
set_option linter.unusedVariables false
theorem own : ownKnob Try.prog.godebug = none := by kernel_rfl
theorem laidOut : laidOutB Try.prog = true := by kernel_rfl
set_option maxRecDepth 100000 in
theorem lifted (os : Os) (started : os.Started) (H : Type) (enc : TypeId × Value → H) :
    ReturnsInHanded {} Try.checked os 6 .any (Rows.modelVolumesSpec.pre6 enc Try.prog Try.f6 Rows.modelVolumesRow.domain false) (Rows.modelVolumesSpec.post enc Try.prog Try.f6 false true false false) := by
  refine returnsInHanded_of_change_sized (C := Try.checked) own started (by kernel_rfl) Try.func6
    (ChangeSpec.witness6 (enc := enc) (C := Try.checked) false ⟨#[], #[.slice none 0 0, .agg #[.int .i64 0, .int .i64 0, .int .i64 0, .int .i64 0, .int .i64 0, .int .i64 0], .int .i64 0], []⟩ 8 (by kernel_rfl) (by kernel_rfl) (by kernel_rfl) (by kernel_rfl)) ?_
  intro W base args ds gs before hval0 hW hcnd hsz0 _
  have hval : ∀ (j : Nat) t v, Try.f6.params[j]? = some t → args[j]? = some v → Value.okWide Try.prog W .any base t v := hval0
  have hW' := hW
  obtain ⟨p, q, hA0, hV, rfl, hfz, hnd⟩ := hW
  have hA : DataW.TrodAll enc Try.prog W 0 (fun _ => true) true Try.f6.params.toList args.toList ds p := hA0
  rw [Try.params6] at hA hval
  obtain ⟨v0, vs0, d0, ds0, p0, q0, hargs, rfl, rfl, h0, r0⟩ := trodAll_cons hA
  obtain ⟨v1, vs1, d1, ds1, p1, q1, rfl, rfl, rfl, h1, r1⟩ := trodAll_cons r0
  obtain ⟨v2, vs2, d2, ds2, p2, q2, rfl, rfl, rfl, h2, r2⟩ := trodAll_cons r1
  obtain ⟨rfl, rfl, rfl⟩ := trodAll_nil r2
  obtain rfl : args = #[v0, v1, v2] := by cases args; simp_all
  obtain ⟨rfl, rfl⟩ := trodVars_none hV
  have k0 := h0
  have lt0 : ∀ x ∈ p0, x.block < W.heap.size := by obtain ⟨m, hm⟩ := k0; exact DataW.trod_lt m _ _ _ hm
  obtain ⟨fu0, hf0⟩ := h0
  obtain ⟨a0, len0, cap0, rfl⟩ := okWide_slice Try.underlying22 (hval 0 22 v0 rfl rfl)
  obtain ⟨x0, ⟨A0, c0, hx0, hc0, hr0⟩, o0⟩ := ((Opn.opens_slice Try.underlying22 opS68 (by kernel_rfl)) : Opn.Opens enc Try.prog W 22 (Kd.slice 68 k68) (fun l => l.length ≤ maxLen ∧ ∀ x, x ∈ l → okS68 x)) _ _ _ hf0
  simp [Value.cells] at hx0
  obtain ⟨rfl, rfl, rfl⟩ := hx0
  have k1 := h1
  have lt1 : ∀ x ∈ p1, x.block < W.heap.size := by obtain ⟨m, hm⟩ := k1; exact DataW.trod_lt m _ _ _ hm
  obtain ⟨fu1, hf1⟩ := h1
  obtain ⟨cs1, rfl, _⟩ := okWide_struct Try.underlying43 (hval 1 43 v1 rfl rfl)
  obtain ⟨x1, K1, o1⟩ := (opS43 : Opn.Opens enc Try.prog W 43 k43 okS43) _ _ _ hf1
  have hx1 := k43_open K1
  obtain rfl := (show cs1 = _ from Array.toList_inj.1 (by simpa [Value.cells] using hx1) : cs1 = #[.int .i64 ((x1).f0.f0), .int .i64 ((x1).f0.f1), .int .i64 ((x1).f0.f2), .int .i64 ((x1).f1.f0), .int .i64 ((x1).f1.f1), .int .i64 ((x1).f1.f2)])
  obtain ⟨a2, rfl, rfl, rfl, w2⟩ := open_int Try.underlying3 (hval 2 3 v2 rfl rfl) h2
  clear hA0 hval0 hsz0
  refine (w_ModelVolumes.walk Pure.ModelVolumes _ _ x0 (x1).f0.f0 (x1).f0.f1 (x1).f0.f2 (x1).f1.f0 (x1).f1.f1 (x1).f1.f2 a2 W hr0 hc0 o0 (o1.1.1) (o1.1.2.1) (o1.1.2.2) (o1.2.1) (o1.2.2.1) (o1.2.2.2) w2).mono fun e W' ⟨he, bel⟩ => ?_
  subst he
  exact ⟨_, rfl, _, _, _, [], _, [], hW', trodAll_mk1 (shut_bool Try.underlying4 _), (trodAll_cons_mk (Below.trod laidOut (by kernel_rfl) (of_decide_eq_true (by kernel_rfl)) k0 bel lt0) (trodAll_cons_mk (Below.trod laidOut (by kernel_rfl) (of_decide_eq_true (by kernel_rfl)) k1 bel lt1) (trodAll_cons_mk (shut_int Try.underlying3 w2) trodAll_mk0))), rfl, bel.frame _, fun h => by cases h⟩
theorem over : Rows.modelVolumesRow.holds Try.pinned (OpenSpec.ofChange Rows.modelVolumesSpec) :=
  OpenClaim.holds_of_wide 6 Try.f6 rfl rfl rfl rfl rfl rfl rfl ⟨rfl, rfl, rfl, rfl, rfl⟩ rfl rfl rfl rfl rfl (by kernel_rfl) Try.func6 (by kernel_rfl)
    (of_decide_eq_true (by kernel_rfl)) (by unfold Func.isWrapper; first | (rw [if_pos (by decide +kernel)]; kernel_rfl) | (rw [if_neg (by decide +kernel)]; exact ⟨rfl, rfl⟩))
    (fun os started H enc _ => lifted os started H enc)
theorem proved : Rows.ModelVolumesSaid := over
#print axioms proved
end Go.Proofs.Ytcofgnbopodahaa.modelVolumes
namespace Go.Proofs.Ytcofgnbopodahaa
/-- The row, under a short name, for the claim. -/
theorem modelVolumes_holds : Rows.ModelVolumesSaid := modelVolumes.proved
end Go.Proofs.Ytcofgnbopodahaa
