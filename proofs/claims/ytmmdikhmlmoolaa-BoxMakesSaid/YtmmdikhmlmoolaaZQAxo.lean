import Derived.Test.YtmmdikhmlmoolaaZQAx0
import Derived.Test.YtmmdikhmlmoolaaZOpens
namespace Go.Proofs.Ytmmdikhmlmoolaa.QA
open Go.RowKit Go.Proofs.YtmmdikhmlmoolaaW.PrintWords Go.Proofs.YtmmdikhmlmoolaaW.PrintLast Go.Proofs.YtmmdikhmlmoolaaW.PrintMore
attribute [local go_sem] max2_int min2_int max_two min_two max_three min_three max_four min_four
set_option linter.unusedVariables false
set_option linter.unusedSimpArgs false

open Go.Proofs.Ytmmdikhmlmoolaa.Opn
theorem opS23 {H : Type} {enc : TypeId × Value → H} {w : World} : Opens enc Try.prog w 23 k23 okS23 :=
 opens_imp (opens_iso (fun x : S23 => (x.f0, x.f1, x.f2)) (fun p => (⟨p.1, p.2.1, p.2.2⟩ : S23)) (fun _ => rfl) (opens_struct Try.underlying23 (by kernel_rfl) (opensF_cons rfl (by kernel_rfl) (opens_int Try.underlying3) (opensF_cons rfl (by kernel_rfl) (opens_int Try.underlying3) (opensF_last rfl (by kernel_rfl) (opens_int Try.underlying3)))))) (fun x h => ⟨h.1, h.2.1, h.2.2⟩)
theorem opS25 {H : Type} {enc : TypeId × Value → H} {w : World} : Opens enc Try.prog w 25 k25 okS25 :=
 opens_imp (opens_iso (fun x : S25 => (x.f0, x.f1)) (fun p => (⟨p.1, p.2⟩ : S25)) (fun _ => rfl) (opens_struct Try.underlying25 (by kernel_rfl) (opensF_cons rfl (by kernel_rfl) opS23 (opensF_last rfl (by kernel_rfl) opS23)))) (fun x h => ⟨h.1, h.2⟩)
end Go.Proofs.Ytmmdikhmlmoolaa.QA
