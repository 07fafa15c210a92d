import Derived.Test.YtkeomlmlimkebaaZQAx0
import Derived.Test.YtkeomlmlimkebaaZQAy
import Derived.Test.YtkeomlmlimkebaaZOpens
namespace Go.Proofs.Ytkeomlmlimkebaa.QA
open Go.RowKit Go.Proofs.YtkeomlmlimkebaaW.PrintWords Go.Proofs.YtkeomlmlimkebaaW.PrintLast Go.Proofs.YtkeomlmlimkebaaW.PrintMore
attribute [local go_sem] max2_int min2_int max_two min_two max_three min_three max_four min_four
set_option linter.unusedVariables false
set_option linter.unusedSimpArgs false

open Go.Proofs.Ytkeomlmlimkebaa.Opn
theorem opS26 {H : Type} {enc : TypeId × Value → H} {w : World} : Opens enc Try.prog w 26 k26 okS26 :=
 opens_imp (opens_iso (fun x : S26 => (x.f0, x.f1, x.f2, x.f3)) (fun p => (⟨p.1, p.2.1, p.2.2.1, p.2.2.2⟩ : S26)) (fun _ => rfl) (opens_struct Try.underlying26 (by kernel_rfl) (opensF_cons rfl (by kernel_rfl) (opens_slice Try.underlying22 (opens_slice Try.underlying23 (opens_int Try.underlying3) (by kernel_rfl)) (by kernel_rfl)) (opensF_cons rfl (by kernel_rfl) (opens_int Try.underlying3) (opensF_cons rfl (by kernel_rfl) (opens_slice Try.underlying23 (opens_int Try.underlying3) (by kernel_rfl)) (opensF_last rfl (by kernel_rfl) (opens_slice Try.underlying24 (opens_bool Try.underlying4) (by kernel_rfl)))))))) (fun x h => ⟨h.1, h.2.1, h.2.2.1, h.2.2.2.1⟩)
theorem opS69 {H : Type} {enc : TypeId × Value → H} {w : World} : Opens enc Try.prog w 69 k69 okS69 :=
 opens_imp (opens_iso (fun x : S69 => (x.f0, x.f1, x.f2)) (fun p => (⟨p.1, p.2.1, p.2.2⟩ : S69)) (fun _ => rfl) (opens_struct Try.underlying69 (by kernel_rfl) (opensF_cons rfl (by kernel_rfl) (opens_int Try.underlying3) (opensF_cons rfl (by kernel_rfl) (opens_int Try.underlying3) (opensF_last rfl (by kernel_rfl) (opens_int Try.underlying3)))))) (fun x h => ⟨h.1, h.2.1, h.2.2⟩)
theorem openK26 {w : World} {x : S26} {cs : List Value} (h : k26.K w x cs) : ∃ A0 c0 A2 c2 A3 c3, cs = [.slice A0 x.f0.length c0, .int .i64 x.f1, .slice A2 x.f2.length c2, .slice A3 x.f3.length c3] ∧ x.f0.length ≤ c0 ∧ Kd.C (Kd.slice 3 (Kd.int .i64)) w A0 x.f0.length x.f0 ∧ x.f2.length ≤ c2 ∧ Kd.C (Kd.int .i64) w A2 x.f2.length x.f2 ∧ x.f3.length ≤ c3 ∧ Kd.C Kd.bool w A3 x.f3.length x.f3 := by
 obtain ⟨_, _, rfl, ⟨A0, c0, rfl, l0, g0⟩, ⟨_, _, rfl, rfl, ⟨_, _, rfl, ⟨A2, c2, rfl, l2, g2⟩, ⟨A3, c3, rfl, l3, g3⟩⟩⟩⟩ := h
 exact ⟨A0, c0, A2, c2, A3, c3, rfl, l0, g0, l2, g2, l3, g3⟩
end Go.Proofs.Ytkeomlmlimkebaa.QA
