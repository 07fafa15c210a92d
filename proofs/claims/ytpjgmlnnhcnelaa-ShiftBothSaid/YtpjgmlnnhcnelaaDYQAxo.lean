import Derived.Test.YtpjgmlnnhcnelaaDYQAx0
import Derived.Test.YtpjgmlnnhcnelaaDYOpens
namespace Go.Proofs.Ytpjgmlnnhcnelaa.QA
open Go.RowKit Go.Proofs.YtpjgmlnnhcnelaaW.PrintWords Go.Proofs.YtpjgmlnnhcnelaaW.PrintLast Go.Proofs.YtpjgmlnnhcnelaaW.PrintMore
attribute [local go_sem] max2_int min2_int max_two min_two max_three min_three max_four min_four
set_option linter.unusedVariables false
set_option linter.unusedSimpArgs false

open Go.Proofs.Ytpjgmlnnhcnelaa.Opn
theorem opS54 {H : Type} {enc : TypeId × Value → H} {w : World} : Opens enc Try.prog w 54 k54 okS54 :=
 opens_imp (opens_iso (fun x : S54 => (x.f0, x.f1, x.f2)) (fun p => (⟨p.1, p.2.1, p.2.2⟩ : S54)) (fun _ => rfl) (opens_struct Try.underlying54 (by kernel_rfl) (opensF_cons rfl (by kernel_rfl) (opens_int Try.underlying3) (opensF_cons rfl (by kernel_rfl) (opens_int Try.underlying3) (opensF_last rfl (by kernel_rfl) (opens_int Try.underlying3)))))) (fun x h => ⟨h.1, h.2.1, h.2.2⟩)
theorem opS25 {H : Type} {enc : TypeId × Value → H} {w : World} : Opens enc Try.prog w 25 k25 okS25 :=
 opens_imp (opens_iso (fun x : S25 => (x.f0, x.f1)) (fun p => (⟨p.1, p.2⟩ : S25)) (fun _ => rfl) (opens_struct Try.underlying25 (by kernel_rfl) (opensF_cons rfl (by kernel_rfl) (opens_slice Try.underlying22 opS54 (by kernel_rfl)) (opensF_last rfl (by kernel_rfl) (opens_slice Try.underlying23 (opens_int Try.underlying3) (by kernel_rfl)))))) (fun x h => ⟨h.1, h.2⟩)
theorem openK25 {w : World} {x : S25} {cs : List Value} (h : k25.K w x cs) : ∃ A0 c0 A1 c1, cs = [.slice A0 x.f0.length c0, .slice A1 x.f1.length c1] ∧ x.f0.length ≤ c0 ∧ Kd.C k54 w A0 x.f0.length x.f0 ∧ x.f1.length ≤ c1 ∧ Kd.C (Kd.int .i64) w A1 x.f1.length x.f1 := by
 obtain ⟨_, _, rfl, ⟨A0, c0, rfl, l0, g0⟩, ⟨A1, c1, rfl, l1, g1⟩⟩ := h
 exact ⟨A0, c0, A1, c1, rfl, l0, g0, l1, g1⟩
end Go.Proofs.Ytpjgmlnnhcnelaa.QA
