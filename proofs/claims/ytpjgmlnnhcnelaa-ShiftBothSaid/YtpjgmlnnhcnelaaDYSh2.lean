import Derived.Test.YtpjgmlnnhcnelaaDYSh1
import Derived.Test.YtpjgmlnnhcnelaaDYQAx6
import Derived.Test.YtpjgmlnnhcnelaaDYQAx7
import Derived.Test.YtpjgmlnnhcnelaaDYQAx8
import Derived.Test.YtpjgmlnnhcnelaaDYQAx5
namespace Go.Proofs.Ytpjgmlnnhcnelaa.Sh
open Go.RowKit Go.Proofs.Ytpjgmlnnhcnelaa.QA Go.Proofs.YtpjgmlnnhcnelaaW.PrintWords Go.Proofs.YtpjgmlnnhcnelaaW.PrintLast Go.Proofs.YtpjgmlnnhcnelaaW.PrintMore Go.Proofs.Ytpjgmlnnhcnelaa.EvKit
set_option linter.unusedVariables false
set_option linter.unusedSimpArgs false
abbrev R := Int × Int
structure Srt (Z : List R) : Prop where
  p : Z.Pairwise (fun x y => x.2 ≤ y.1)
  v : ∀ x ∈ Z, x.1 < x.2 ∧ 0 ≤ x.1 ∧ x.2 ≤ 14400000
theorem Srt.lt {x : R} {Z : List R} (h : Srt (x :: Z)) : ∀ y ∈ Z, x.2 ≤ y.1 := (List.pairwise_cons.1 h.p).1
structure Dsc (Z : List R) : Prop where
  p : Z.Pairwise (fun x y => y.2 ≤ x.1)
  v : ∀ x ∈ Z, x.1 < x.2 ∧ 0 ≤ x.1 ∧ x.2 ≤ 14400000
end Go.Proofs.Ytpjgmlnnhcnelaa.Sh
