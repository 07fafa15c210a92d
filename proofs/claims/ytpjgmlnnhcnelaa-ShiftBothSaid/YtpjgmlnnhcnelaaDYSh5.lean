import Derived.Test.YtpjgmlnnhcnelaaDYSh4
import Derived.Test.YtpjgmlnnhcnelaaDYQAx0
namespace Go.Proofs.Ytpjgmlnnhcnelaa.Sh
open Go.RowKit Go.Proofs.Ytpjgmlnnhcnelaa.QA Go.Proofs.YtpjgmlnnhcnelaaW.PrintWords Go.Proofs.YtpjgmlnnhcnelaaW.PrintLast Go.Proofs.YtpjgmlnnhcnelaaW.PrintMore Go.Proofs.Ytpjgmlnnhcnelaa.EvKit
set_option linter.unusedVariables false
set_option linter.unusedSimpArgs false
theorem ofL_free {sh : List S54} {fr : List Int} {d : Int} (h : d ∈ fr) : ofL sh fr d = [] := by unfold ofL dayOn; simp [h]
theorem ofL_on {sh : List S54} {fr : List Int} {d : Int} (h : d ∉ fr) (h0 : 0 ≤ d) (h1 : d < 10000) : ofL sh fr d = ofS sh d := by unfold ofL dayOn; simp [h, h0, h1]
theorem nxtN {j : Nat} (h1 : j ≤ 1000000) : wrap64 ((j : Int) + 1) = ((j + 1 : Nat) : Int) := by rw [w64 (by omega) (by omega)]; omega
end Go.Proofs.Ytpjgmlnnhcnelaa.Sh
