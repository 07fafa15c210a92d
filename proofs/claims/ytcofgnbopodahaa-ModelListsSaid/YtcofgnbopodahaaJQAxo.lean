import Derived.Test.YtcofgnbopodahaaJQAx0
import Derived.Test.YtcofgnbopodahaaJOpens
namespace Go.Proofs.Ytcofgnbopodahaa.QA
open Go.RowKit Go.Proofs.YtcofgnbopodahaaW.PrintWords Go.Proofs.YtcofgnbopodahaaW.PrintLast Go.Proofs.YtcofgnbopodahaaW.PrintMore
attribute [local go_sem] max2_int min2_int max_two min_two max_three min_three max_four min_four
set_option linter.unusedVariables false
set_option linter.unusedSimpArgs false

open Go.Proofs.Ytcofgnbopodahaa.Opn
theorem opS24 {H : Type} {enc : TypeId × Value → H} {w : World} : Opens enc Try.prog w 24 k24 okS24 :=
 opens_imp (opens_iso (fun x : S24 => (x.f0, x.f1, x.f2)) (fun p => (⟨p.1, p.2.1, p.2.2⟩ : S24)) (fun _ => rfl) (opens_struct Try.underlying24 (by kernel_rfl) (opensF_cons rfl (by kernel_rfl) (opens_int Try.underlying3) (opensF_cons rfl (by kernel_rfl) (opens_int Try.underlying3) (opensF_last rfl (by kernel_rfl) (opens_int Try.underlying3)))))) (fun x h => ⟨h.1, h.2.1, h.2.2⟩)
theorem opS43 {H : Type} {enc : TypeId × Value → H} {w : World} : Opens enc Try.prog w 43 k43 okS43 :=
 opens_imp (opens_iso (fun x : S43 => (x.f0, x.f1)) (fun p => (⟨p.1, p.2⟩ : S43)) (fun _ => rfl) (opens_struct Try.underlying43 (by kernel_rfl) (opensF_cons rfl (by kernel_rfl) opS24 (opensF_last rfl (by kernel_rfl) opS24)))) (fun x h => ⟨h.1, h.2⟩)
theorem opS68 {H : Type} {enc : TypeId × Value → H} {w : World} : Opens enc Try.prog w 68 k68 okS68 :=
 opens_imp (opens_iso (fun x : S68 => (x.f0, x.f1, x.f2)) (fun p => (⟨p.1, p.2.1, p.2.2⟩ : S68)) (fun _ => rfl) (opens_struct Try.underlying68 (by kernel_rfl) (opensF_cons rfl (by kernel_rfl) (opens_string Try.underlying9) (opensF_cons rfl (by kernel_rfl) opS43 (opensF_last rfl (by kernel_rfl) (opens_int Try.underlying3)))))) (fun x h => ⟨h.1, h.2.1, h.2.2⟩)
end Go.Proofs.Ytcofgnbopodahaa.QA
