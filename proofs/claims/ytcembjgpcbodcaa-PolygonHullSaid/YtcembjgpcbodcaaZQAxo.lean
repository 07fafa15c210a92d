import Derived.Test.YtcembjgpcbodcaaZQAx0
import Derived.Test.YtcembjgpcbodcaaZOpens
namespace Go.Proofs.Ytcembjgpcbodcaa.QA
open Go.RowKit Go.Proofs.YtcembjgpcbodcaaW.PrintWords Go.Proofs.YtcembjgpcbodcaaW.PrintLast Go.Proofs.YtcembjgpcbodcaaW.PrintMore
attribute [local go_sem] max2_int min2_int max_two min_two max_three min_three max_four min_four
set_option linter.unusedVariables false
set_option linter.unusedSimpArgs false

open Go.Proofs.Ytcembjgpcbodcaa.Opn
theorem opS23 {H : Type} {enc : TypeId × Value → H} {w : World} : Opens enc Try.prog w 23 k23 okS23 :=
 opens_imp (opens_iso (fun x : S23 => (x.f0, x.f1)) (fun p => (⟨p.1, p.2⟩ : S23)) (fun _ => rfl) (opens_struct Try.underlying23 (by kernel_rfl) (opensF_cons rfl (by kernel_rfl) (opens_int Try.underlying3) (opensF_last rfl (by kernel_rfl) (opens_int Try.underlying3))))) (fun x h => ⟨h.1, h.2⟩)
end Go.Proofs.Ytcembjgpcbodcaa.QA
